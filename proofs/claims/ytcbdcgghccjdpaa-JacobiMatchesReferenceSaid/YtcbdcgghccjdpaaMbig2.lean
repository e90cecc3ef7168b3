/- The walks of the reference's wide numbers: digits, product. -/
import Derived.Test.YtcbdcgghccjdpaaMspec
import Derived.LoopN
import Derived.Deep.Draws
import Derived.Outline
import Derived.Deep.QuietTactic
import Derived.BigQuiet
import Derived.Deep.LoopGhost
namespace Go.Proofs.Ytcbdcgghccjdpaa.Q
open Go.RowKit Go.Proofs.YtcbdcgghccjdpaaW.PrintWords Go.Proofs.YtcbdcgghccjdpaaW.PrintLast Go.Proofs.YtcbdcgghccjdpaaW.PrintMore
set_option linter.unusedVariables false
set_option linter.unusedSimpArgs false

/-- Four digits of base 2^16, and their number. -/
structure Dig4 (x0 x1 x2 x3 m : Int) : Prop where
  b0 : 0 ≤ x0 ∧ x0 ≤ 65535
  b1 : 0 ≤ x1 ∧ x1 ≤ 65535
  b2 : 0 ≤ x2 ∧ x2 ≤ 65535
  b3 : 0 ≤ x3 ∧ x3 ≤ 65535
  sum : x0 + x1 * 65536 + x2 * 4294967296 + x3 * 281474976710656 = m
/-- A big number's value: its eight digits. -/
def bigV (z0 z1 z2 z3 z4 z5 z6 z7 : Int) : Value := .agg #[.int .u64 z0, .int .u64 z1, .int .u64 z2, .int .u64 z3, .int .u64 z4, .int .u64 z5, .int .u64 z6, .int .u64 z7]
def bigO (z0 z1 z2 z3 z4 z5 z6 z7 : Int) : Obj := .cells #[.int .u64 z0, .int .u64 z1, .int .u64 z2, .int .u64 z3, .int .u64 z4, .int .u64 z5, .int .u64 z6, .int .u64 z7] 94
def DigEnd (m : Int) (w : World) (e : Ending) (w' : World) : Prop := ∃ x0 x1 x2 x3, Dig4 x0 x1 x2 x3 m ∧ e = .returned (bigV x0 x1 x2 x3 0 0 0 0) ∧ (w.alloc (bigO x0 x1 x2 x3 0 0 0 0)).alloc (bigO x0 x1 x2 x3 0 0 0 0) = w'
theorem dig4_of (m : Int) (h0 : 0 ≤ m) (h1 : m ≤ 18446744073709551615) : Dig4 (m % 65536) (m / 65536 % 65536) (m / 65536 / 65536 % 65536) (m / 65536 / 65536 / 65536 % 65536) m :=
  ⟨by omega, by omega, by omega, by omega, by omega⟩
set_option maxHeartbeats 1000000 in
theorem ref01_digits.plus (m : Int) (hm : 0 ≤ m ∧ m ≤ 9223372036854775807) (w : World) : Calls Try.prog 61 #[.int .i64 m] w (DigEnd m w) := by
  have c1 : decide (m < 0) = false := decide_eq_false (by omega)
  go_enter Try.func61, Try.ntmps61
  go_wp2
  refine wp_loop_rounds 5 ?_
  rw [rounds_succ]; go_wp2
  rw [rounds_succ]; go_wp2
  rw [rounds_succ]; go_wp2
  rw [rounds_succ]; go_wp2
  rw [rounds_succ]; go_wp2
  exact bodyPost_ret (v := bigV (m % 65536) (m / 65536 % 65536) (m / 65536 / 65536 % 65536) (m / 65536 / 65536 / 65536 % 65536) 0 0 0 0) (by simp [results, Try.results61, go_sem, bigV]) rfl ⟨_, _, _, _, dig4_of m (by omega) (by omega), rfl, rfl⟩
set_option maxHeartbeats 1000000 in
theorem ref01_digits.minus (a m : Int) (hm : 0 < m ∧ m ≤ 9223372036854775808) (ha : a = -m) (w : World) : Calls Try.prog 61 #[.int .i64 a] w (DigEnd m w) := by
  have c1 : decide (a < 0) = true := decide_eq_true (by omega)
  have e : IntKind.u64.wrap (-IntKind.u64.wrap a) = m := by simp only [IntKind.wrap_u64]; omega
  clear ha
  go_enter Try.func61, Try.ntmps61
  go_wp2
  refine wp_loop_rounds 5 ?_
  rw [rounds_succ]; go_wp2
  rw [rounds_succ]; go_wp2
  rw [rounds_succ]; go_wp2
  rw [rounds_succ]; go_wp2
  rw [rounds_succ]; go_wp2
  exact bodyPost_ret (v := bigV (m % 65536) (m / 65536 % 65536) (m / 65536 / 65536 % 65536) (m / 65536 / 65536 / 65536 % 65536) 0 0 0 0) (by simp [results, Try.results61, go_sem, bigV]) rfl ⟨_, _, _, _, dig4_of m (by omega) (by omega), rfl, rfl⟩
theorem ref01_digits.same (a : Int) (ha : -9223372036854775808 ≤ a ∧ a ≤ 9223372036854775807) (w : World) : Calls Try.prog 61 #[.int .i64 a] w (DigEnd (mg a) w) := by
  by_cases c : a < 0
  · have e : mg a = -a := by simp [mg, c]
    rw [e]
    exact ref01_digits.minus a (-a) (by omega) (by omega) w
  · have e : mg a = a := by simp [mg, c]
    rw [e]
    exact ref01_digits.plus a (by omega) w

/-- A row of the product, its first k terms. -/
def rowS (x y0 y1 y2 y3 : Int) : Nat → Int
  | 0 => 0
  | 1 => x * y0
  | 2 => x * y0 + x * y1 * 65536
  | 3 => x * y0 + x * y1 * 65536 + x * y2 * 4294967296
  | _ => x * y0 + x * y1 * 65536 + x * y2 * 4294967296 + x * y3 * 281474976710656
/-- The first i rows. -/
def accS (x0 x1 x2 x3 y0 y1 y2 y3 : Int) : Nat → Int
  | 0 => 0
  | 1 => rowS x0 y0 y1 y2 y3 4
  | 2 => rowS x0 y0 y1 y2 y3 4 + rowS x1 y0 y1 y2 y3 4 * 65536
  | 3 => rowS x0 y0 y1 y2 y3 4 + rowS x1 y0 y1 y2 y3 4 * 65536 + rowS x2 y0 y1 y2 y3 4 * 4294967296
  | _ => rowS x0 y0 y1 y2 y3 4 + rowS x1 y0 y1 y2 y3 4 * 65536 + rowS x2 y0 y1 y2 y3 4 * 4294967296 + rowS x3 y0 y1 y2 y3 4 * 281474976710656
def valS (z0 z1 z2 z3 z4 z5 z6 z7 : Int) : Int := z0 + z1 * 65536 + z2 * 4294967296 + z3 * 281474976710656 + z4 * 18446744073709551616 + z5 * 1208925819614629174706176 + z6 * 79228162514264337593543950336 + z7 * 5192296858534827628530496329220096
structure Dig8 (z0 z1 z2 z3 z4 z5 z6 z7 : Int) : Prop where
  b0 : 0 ≤ z0 ∧ z0 ≤ 65535
  b1 : 0 ≤ z1 ∧ z1 ≤ 65535
  b2 : 0 ≤ z2 ∧ z2 ≤ 65535
  b3 : 0 ≤ z3 ∧ z3 ≤ 65535
  b4 : 0 ≤ z4 ∧ z4 ≤ 65535
  b5 : 0 ≤ z5 ∧ z5 ≤ 65535
  b6 : 0 ≤ z6 ∧ z6 ≤ 65535
  b7 : 0 ≤ z7 ∧ z7 ≤ 65535
theorem set_drewN (w : World) (n : Nat) (a : Addr) (v : Value) : (w.drewN n).setCell a v = (w.setCell a v).drewN n := rfl
theorem set_draw (B : World) (cs : Array Value) (t : TypeId) (n blk j : Nat) (v : Value) (hb : blk = B.heap.size) : ((B.alloc (.cells cs t)).drewN n).setCell ⟨blk, j, none⟩ v = (B.alloc (.cells (cs.setIfInBounds j v) t)).drewN n := by
  subst hb
  exact congrArg (fun w => World.drewN w n) (World.setCell_alloc_at (w := B) cs t B.heap.size j v rfl)
theorem mul_dig {x y : Int} (hx : 0 ≤ x ∧ x ≤ 65535) (hy : 0 ≤ y ∧ y ≤ 65535) : 0 ≤ x * y ∧ x * y ≤ 4294836225 :=
  ⟨Int.mul_nonneg hx.1 hy.1, by have := Int.mul_le_mul hx.2 hy.2 hy.1 (by omega : (0 : Int) ≤ 65535); omega⟩
/-- The powers of 2^16. -/
def pw : Nat → Int
  | 0 => 1
  | 1 => 65536
  | 2 => 4294967296
  | 3 => 281474976710656
  | 4 => 18446744073709551616
  | 5 => 1208925819614629174706176
  | 6 => 79228162514264337593543950336
  | _ => 5192296858534827628530496329220096
def kI : Nat → Int
  | 0 => 0
  | 1 => 1
  | 2 => 2
  | 3 => 3
  | _ => 4
/-- The world ahead of the product's loops. -/
def prodBase (w : World) (x0 x1 x2 x3 y0 y1 y2 y3 : Int) : World :=
  ((((((w.alloc (bigO 0 0 0 0 0 0 0 0)).alloc (bigO x0 x1 x2 x3 0 0 0 0)).alloc (bigO x0 x1 x2 x3 0 0 0 0)).alloc (bigO x0 x1 x2 x3 0 0 0 0)).alloc (bigO y0 y1 y2 y3 0 0 0 0)).alloc (bigO y0 y1 y2 y3 0 0 0 0)).alloc (bigO y0 y1 y2 y3 0 0 0 0)
theorem prodBase_size (w : World) (x0 x1 x2 x3 y0 y1 y2 y3 : Int) : (prodBase w x0 x1 x2 x3 y0 y1 y2 y3).heap.size = w.heap.size + 1 + 1 + 1 + 1 + 1 + 1 + 1 := by simp [prodBase]
theorem prodBase_x (w : World) (x0 x1 x2 x3 y0 y1 y2 y3 : Int) (j : Nat) : (prodBase w x0 x1 x2 x3 y0 y1 y2 y3).cell? ⟨w.heap.size + 1 + 1 + 1, j, none⟩ = (#[Value.int .u64 x0, .int .u64 x1, .int .u64 x2, .int .u64 x3, .int .u64 0, .int .u64 0, .int .u64 0, .int .u64 0] : Array Value)[j]? := by
  simp only [prodBase, bigO]
  go_simp
theorem prodBase_y (w : World) (x0 x1 x2 x3 y0 y1 y2 y3 : Int) (j : Nat) : (prodBase w x0 x1 x2 x3 y0 y1 y2 y3).cell? ⟨w.heap.size + 1 + 1 + 1 + 1 + 1 + 1, j, none⟩ = (#[Value.int .u64 y0, .int .u64 y1, .int .u64 y2, .int .u64 y3, .int .u64 0, .int .u64 0, .int .u64 0, .int .u64 0] : Array Value)[j]? := by
  simp only [prodBase, bigO]
  go_simp
theorem prodBase_below (w : World) (x0 x1 x2 x3 y0 y1 y2 y3 : Int) : Below w.heap.size w (prodBase w x0 x1 x2 x3 y0 y1 y2 y3) :=
  below_alloc (below_alloc (below_alloc (below_alloc (below_alloc (below_alloc (below_alloc (Below.refl _ _) _) _) _) _) _) _) _
theorem prodBase_eq (w : World) (x0 x1 x2 x3 y0 y1 y2 y3 : Int) :
  ((((((w.alloc (.cells #[.int .u64 0, .int .u64 0, .int .u64 0, .int .u64 0, .int .u64 0, .int .u64 0, .int .u64 0, .int .u64 0] 94)).alloc (.cells #[.int .u64 x0, .int .u64 x1, .int .u64 x2, .int .u64 x3, .int .u64 0, .int .u64 0, .int .u64 0, .int .u64 0] 94)).alloc (.cells #[.int .u64 x0, .int .u64 x1, .int .u64 x2, .int .u64 x3, .int .u64 0, .int .u64 0, .int .u64 0, .int .u64 0] 94)).alloc (.cells #[.int .u64 x0, .int .u64 x1, .int .u64 x2, .int .u64 x3, .int .u64 0, .int .u64 0, .int .u64 0, .int .u64 0] 94)).alloc (.cells #[.int .u64 y0, .int .u64 y1, .int .u64 y2, .int .u64 y3, .int .u64 0, .int .u64 0, .int .u64 0, .int .u64 0] 94)).alloc (.cells #[.int .u64 y0, .int .u64 y1, .int .u64 y2, .int .u64 y3, .int .u64 0, .int .u64 0, .int .u64 0, .int .u64 0] 94)).alloc (.cells #[.int .u64 y0, .int .u64 y1, .int .u64 y2, .int .u64 y3, .int .u64 0, .int .u64 0, .int .u64 0, .int .u64 0] 94) = prodBase w x0 x1 x2 x3 y0 y1 y2 y3 := rfl
theorem prod_val {x0 x1 x2 x3 y0 y1 y2 y3 X Y V : Int} (hx : x0 + x1 * 65536 + x2 * 4294967296 + x3 * 281474976710656 = X) (hy : y0 + y1 * 65536 + y2 * 4294967296 + y3 * 281474976710656 = Y) (h : V = accS x0 x1 x2 x3 y0 y1 y2 y3 4) : V = X * Y := by
  subst hx hy h
  simp only [accS, rowS]
  grind
def ProdEnd (P : Int) (w : World) (e : Ending) (w' : World) : Prop := ∃ z0 z1 z2 z3 z4 z5 z6 z7, Dig8 z0 z1 z2 z3 z4 z5 z6 z7 ∧ valS z0 z1 z2 z3 z4 z5 z6 z7 = P ∧ e = .returned (bigV z0 z1 z2 z3 z4 z5 z6 z7) ∧ Below w.heap.size w w'
set_option maxHeartbeats 8000000 in
set_option maxRecDepth 100000 in
theorem ref01_product.same (a b : Int) (ha : -9223372036854775808 ≤ a ∧ a ≤ 9223372036854775807) (hb : -9223372036854775808 ≤ b ∧ b ≤ 9223372036854775807) (w : World) :
    Calls Try.prog 55 #[.int .i64 a, .int .i64 b] w (ProdEnd (mg a * mg b) w) := by
  have HA := Lib.hid (fun w => ref01_digits.same a ha w)
  have HB := Lib.hid (fun w => ref01_digits.same b hb w)
  go_enter Try.func55, Try.ntmps55
  go_wp2_with fail
  refine (HA.out _).mono ?_
  rintro e w' ⟨x0, x1, x2, x3, hx, rfl, rfl⟩
  simp only [bigV, bigO]
  go_wp2_with fail
  refine (HB.out _).mono ?_
  rintro e w' ⟨y0, y1, y2, y3, hy, rfl, rfl⟩
  simp only [bigV, bigO]
  go_wp2
  rw [prodBase_eq]
  have hs := prodBase_size w x0 x1 x2 x3 y0 y1 y2 y3
  have cx0 := prodBase_x w x0 x1 x2 x3 y0 y1 y2 y3 0
  have cx1 := prodBase_x w x0 x1 x2 x3 y0 y1 y2 y3 1
  have cx2 := prodBase_x w x0 x1 x2 x3 y0 y1 y2 y3 2
  have cx3 := prodBase_x w x0 x1 x2 x3 y0 y1 y2 y3 3
  have cy0 := prodBase_y w x0 x1 x2 x3 y0 y1 y2 y3 0
  have cy1 := prodBase_y w x0 x1 x2 x3 y0 y1 y2 y3 1
  have cy2 := prodBase_y w x0 x1 x2 x3 y0 y1 y2 y3 2
  have cy3 := prodBase_y w x0 x1 x2 x3 y0 y1 y2 y3 3
  have hbl := prodBase_below w x0 x1 x2 x3 y0 y1 y2 y3
  obtain ⟨B, hBq⟩ : ∃ B, prodBase w x0 x1 x2 x3 y0 y1 y2 y3 = B := ⟨_, rfl⟩
  rw [hBq]
  rw [hBq] at hs cx0 cx1 cx2 cx3 cy0 cy1 cy2 cy3 hbl
  have HBq := Lib.hid hBq
  clear hBq hbl
  refine wp_loop_rounds 5 ?_
  rw [rounds_succ]; go_wp2
  go_loopw [9, 10] (fun c k wr => ∃ (kN : Nat) (z0_0 z0_1 z0_2 z0_3 z0_4 z0_5 z0_6 z0_7 c0 : Int) (n : Nat), kN ≤ 4 ∧ k = .int .i64 (kI kN) ∧ c = .int .u64 c0 ∧ (0 ≤ c0 ∧ c0 ≤ 65535) ∧ Dig8 z0_0 z0_1 z0_2 z0_3 z0_4 z0_5 z0_6 z0_7 ∧ (z0_4 = 0 ∧ z0_5 = 0 ∧ z0_6 = 0 ∧ z0_7 = 0) ∧ Aside0 (valS z0_0 z0_1 z0_2 z0_3 z0_4 z0_5 z0_6 z0_7 + c0 * pw (0 + kN) = accS x0 x1 x2 x3 y0 y1 y2 y3 0 + pw 0 * rowS x0 y0 y1 y2 y3 kN) ∧ wr = (B.alloc (.cells #[.int .u64 z0_0, .int .u64 z0_1, .int .u64 z0_2, .int .u64 z0_3, .int .u64 z0_4, .int .u64 z0_5, .int .u64 z0_6, .int .u64 z0_7] 94)).drewN n) (fun _ k _ => 4 - (intOf k).toNat)
  case atStart => exact ⟨0, 0, 0, 0, 0, 0, 0, 0, 0, 0, 0, by omega, rfl, rfl, by omega, ⟨by omega, by omega, by omega, by omega, by omega, by omega, by omega, by omega⟩, ⟨rfl, rfl, rfl, rfl⟩, ⟨by simp [valS, pw, accS, rowS]⟩, rfl⟩
  case round =>
    obtain ⟨kN, z0_0, z0_1, z0_2, z0_3, z0_4, z0_5, z0_6, z0_7, c0, n0, hk, rfl, rfl, hc0, hz0, ⟨rfl, rfl, rfl, rfl⟩, hE0, rfl⟩ := hrel
    rcases (by omega : kN = 0 ∨ kN = 1 ∨ kN = 2 ∨ kN = 3 ∨ kN = 4) with rfl | rfl | rfl | rfl | rfl
    · have hp := mul_dig hx.b0 hy.b0
      have hzk := hz0.b0
      have w1 : IntKind.u64.wrap (x0 * y0) = x0 * y0 := u64_id (by omega) (by omega)
      have w2 : IntKind.u64.wrap (z0_0 + x0 * y0) = z0_0 + x0 * y0 := u64_id (by omega) (by omega)
      have w3 : IntKind.u64.wrap (z0_0 + x0 * y0 + c0) = z0_0 + x0 * y0 + c0 := u64_id (by omega) (by omega)
      simp only [kI]
      go_wp2
      go_quiet (fail)
      go_wp2
      exact ⟨⟨1, (z0_0 + x0 * y0 + c0) % 65536, z0_1, z0_2, z0_3, 0, 0, 0, 0, (z0_0 + x0 * y0 + c0) / 65536, _, by omega, rfl, rfl, by omega, ⟨by omega, hz0.b1, hz0.b2, hz0.b3, by omega, by omega, by omega, by omega⟩, ⟨rfl, rfl, rfl, rfl⟩, ⟨by have := hE0.out; simp only [valS, pw, accS, rowS, Nat.reduceAdd] at this ⊢; omega⟩, set_draw _ _ _ _ _ _ _ hs.symm⟩, by simp [intOf]⟩
    · have hp := mul_dig hx.b0 hy.b1
      have hzk := hz0.b1
      have w1 : IntKind.u64.wrap (x0 * y1) = x0 * y1 := u64_id (by omega) (by omega)
      have w2 : IntKind.u64.wrap (z0_1 + x0 * y1) = z0_1 + x0 * y1 := u64_id (by omega) (by omega)
      have w3 : IntKind.u64.wrap (z0_1 + x0 * y1 + c0) = z0_1 + x0 * y1 + c0 := u64_id (by omega) (by omega)
      simp only [kI]
      go_wp2
      go_quiet (fail)
      go_wp2
      exact ⟨⟨2, z0_0, (z0_1 + x0 * y1 + c0) % 65536, z0_2, z0_3, 0, 0, 0, 0, (z0_1 + x0 * y1 + c0) / 65536, _, by omega, rfl, rfl, by omega, ⟨hz0.b0, by omega, hz0.b2, hz0.b3, by omega, by omega, by omega, by omega⟩, ⟨rfl, rfl, rfl, rfl⟩, ⟨by have := hE0.out; simp only [valS, pw, accS, rowS, Nat.reduceAdd] at this ⊢; omega⟩, set_draw _ _ _ _ _ _ _ hs.symm⟩, by simp [intOf]⟩
    · have hp := mul_dig hx.b0 hy.b2
      have hzk := hz0.b2
      have w1 : IntKind.u64.wrap (x0 * y2) = x0 * y2 := u64_id (by omega) (by omega)
      have w2 : IntKind.u64.wrap (z0_2 + x0 * y2) = z0_2 + x0 * y2 := u64_id (by omega) (by omega)
      have w3 : IntKind.u64.wrap (z0_2 + x0 * y2 + c0) = z0_2 + x0 * y2 + c0 := u64_id (by omega) (by omega)
      simp only [kI]
      go_wp2
      go_quiet (fail)
      go_wp2
      exact ⟨⟨3, z0_0, z0_1, (z0_2 + x0 * y2 + c0) % 65536, z0_3, 0, 0, 0, 0, (z0_2 + x0 * y2 + c0) / 65536, _, by omega, rfl, rfl, by omega, ⟨hz0.b0, hz0.b1, by omega, hz0.b3, by omega, by omega, by omega, by omega⟩, ⟨rfl, rfl, rfl, rfl⟩, ⟨by have := hE0.out; simp only [valS, pw, accS, rowS, Nat.reduceAdd] at this ⊢; omega⟩, set_draw _ _ _ _ _ _ _ hs.symm⟩, by simp [intOf]⟩
    · have hp := mul_dig hx.b0 hy.b3
      have hzk := hz0.b3
      have w1 : IntKind.u64.wrap (x0 * y3) = x0 * y3 := u64_id (by omega) (by omega)
      have w2 : IntKind.u64.wrap (z0_3 + x0 * y3) = z0_3 + x0 * y3 := u64_id (by omega) (by omega)
      have w3 : IntKind.u64.wrap (z0_3 + x0 * y3 + c0) = z0_3 + x0 * y3 + c0 := u64_id (by omega) (by omega)
      simp only [kI]
      go_wp2
      go_quiet (fail)
      go_wp2
      exact ⟨⟨4, z0_0, z0_1, z0_2, (z0_3 + x0 * y3 + c0) % 65536, 0, 0, 0, 0, (z0_3 + x0 * y3 + c0) / 65536, _, by omega, rfl, rfl, by omega, ⟨hz0.b0, hz0.b1, hz0.b2, by omega, by omega, by omega, by omega, by omega⟩, ⟨rfl, rfl, rfl, rfl⟩, ⟨by have := hE0.out; simp only [valS, pw, accS, rowS, Nat.reduceAdd] at this ⊢; omega⟩, set_draw _ _ _ _ _ _ _ hs.symm⟩, by simp [intOf]⟩
    · simp only [kI]
      go_wp2
      rw [rounds_succ]; go_wp2
      go_loopw [9, 10] (fun c k wr => ∃ (kN : Nat) (z1_0 z1_1 z1_2 z1_3 z1_4 z1_5 z1_6 z1_7 c1 : Int) (n : Nat), kN ≤ 4 ∧ k = .int .i64 (kI kN) ∧ c = .int .u64 c1 ∧ (0 ≤ c1 ∧ c1 ≤ 65535) ∧ Dig8 z1_0 z1_1 z1_2 z1_3 z1_4 z1_5 z1_6 z1_7 ∧ (z1_5 = 0 ∧ z1_6 = 0 ∧ z1_7 = 0) ∧ Aside0 (valS z1_0 z1_1 z1_2 z1_3 z1_4 z1_5 z1_6 z1_7 + c1 * pw (1 + kN) = accS x0 x1 x2 x3 y0 y1 y2 y3 1 + pw 1 * rowS x1 y0 y1 y2 y3 kN) ∧ wr = (B.alloc (.cells #[.int .u64 z1_0, .int .u64 z1_1, .int .u64 z1_2, .int .u64 z1_3, .int .u64 z1_4, .int .u64 z1_5, .int .u64 z1_6, .int .u64 z1_7] 94)).drewN n) (fun _ k _ => 4 - (intOf k).toNat)
      case atStart => exact ⟨0, z0_0, z0_1, z0_2, z0_3, c0, 0, 0, 0, 0, n0, by omega, rfl, rfl, by omega, ⟨hz0.b0, hz0.b1, hz0.b2, hz0.b3, hc0, by omega, by omega, by omega⟩, ⟨rfl, rfl, rfl⟩, ⟨by have := hE0.out; simp only [valS, pw, accS, rowS, Nat.reduceAdd] at this ⊢; omega⟩, set_draw _ _ _ _ _ _ _ hs.symm⟩
      case round =>
        obtain ⟨kN, z1_0, z1_1, z1_2, z1_3, z1_4, z1_5, z1_6, z1_7, c1, n1, hk, rfl, rfl, hc1, hz1, ⟨rfl, rfl, rfl⟩, hE1, rfl⟩ := hrel
        rcases (by omega : kN = 0 ∨ kN = 1 ∨ kN = 2 ∨ kN = 3 ∨ kN = 4) with rfl | rfl | rfl | rfl | rfl
        · have hp := mul_dig hx.b1 hy.b0
          have hzk := hz1.b1
          have w1 : IntKind.u64.wrap (x1 * y0) = x1 * y0 := u64_id (by omega) (by omega)
          have w2 : IntKind.u64.wrap (z1_1 + x1 * y0) = z1_1 + x1 * y0 := u64_id (by omega) (by omega)
          have w3 : IntKind.u64.wrap (z1_1 + x1 * y0 + c1) = z1_1 + x1 * y0 + c1 := u64_id (by omega) (by omega)
          simp only [kI]
          go_wp2
          go_quiet (fail)
          go_wp2
          exact ⟨⟨1, z1_0, (z1_1 + x1 * y0 + c1) % 65536, z1_2, z1_3, z1_4, 0, 0, 0, (z1_1 + x1 * y0 + c1) / 65536, _, by omega, rfl, rfl, by omega, ⟨hz1.b0, by omega, hz1.b2, hz1.b3, hz1.b4, by omega, by omega, by omega⟩, ⟨rfl, rfl, rfl⟩, ⟨by have := hE1.out; simp only [valS, pw, accS, rowS, Nat.reduceAdd] at this ⊢; omega⟩, set_draw _ _ _ _ _ _ _ hs.symm⟩, by simp [intOf]⟩
        · have hp := mul_dig hx.b1 hy.b1
          have hzk := hz1.b2
          have w1 : IntKind.u64.wrap (x1 * y1) = x1 * y1 := u64_id (by omega) (by omega)
          have w2 : IntKind.u64.wrap (z1_2 + x1 * y1) = z1_2 + x1 * y1 := u64_id (by omega) (by omega)
          have w3 : IntKind.u64.wrap (z1_2 + x1 * y1 + c1) = z1_2 + x1 * y1 + c1 := u64_id (by omega) (by omega)
          simp only [kI]
          go_wp2
          go_quiet (fail)
          go_wp2
          exact ⟨⟨2, z1_0, z1_1, (z1_2 + x1 * y1 + c1) % 65536, z1_3, z1_4, 0, 0, 0, (z1_2 + x1 * y1 + c1) / 65536, _, by omega, rfl, rfl, by omega, ⟨hz1.b0, hz1.b1, by omega, hz1.b3, hz1.b4, by omega, by omega, by omega⟩, ⟨rfl, rfl, rfl⟩, ⟨by have := hE1.out; simp only [valS, pw, accS, rowS, Nat.reduceAdd] at this ⊢; omega⟩, set_draw _ _ _ _ _ _ _ hs.symm⟩, by simp [intOf]⟩
        · have hp := mul_dig hx.b1 hy.b2
          have hzk := hz1.b3
          have w1 : IntKind.u64.wrap (x1 * y2) = x1 * y2 := u64_id (by omega) (by omega)
          have w2 : IntKind.u64.wrap (z1_3 + x1 * y2) = z1_3 + x1 * y2 := u64_id (by omega) (by omega)
          have w3 : IntKind.u64.wrap (z1_3 + x1 * y2 + c1) = z1_3 + x1 * y2 + c1 := u64_id (by omega) (by omega)
          simp only [kI]
          go_wp2
          go_quiet (fail)
          go_wp2
          exact ⟨⟨3, z1_0, z1_1, z1_2, (z1_3 + x1 * y2 + c1) % 65536, z1_4, 0, 0, 0, (z1_3 + x1 * y2 + c1) / 65536, _, by omega, rfl, rfl, by omega, ⟨hz1.b0, hz1.b1, hz1.b2, by omega, hz1.b4, by omega, by omega, by omega⟩, ⟨rfl, rfl, rfl⟩, ⟨by have := hE1.out; simp only [valS, pw, accS, rowS, Nat.reduceAdd] at this ⊢; omega⟩, set_draw _ _ _ _ _ _ _ hs.symm⟩, by simp [intOf]⟩
        · have hp := mul_dig hx.b1 hy.b3
          have hzk := hz1.b4
          have w1 : IntKind.u64.wrap (x1 * y3) = x1 * y3 := u64_id (by omega) (by omega)
          have w2 : IntKind.u64.wrap (z1_4 + x1 * y3) = z1_4 + x1 * y3 := u64_id (by omega) (by omega)
          have w3 : IntKind.u64.wrap (z1_4 + x1 * y3 + c1) = z1_4 + x1 * y3 + c1 := u64_id (by omega) (by omega)
          simp only [kI]
          go_wp2
          go_quiet (fail)
          go_wp2
          exact ⟨⟨4, z1_0, z1_1, z1_2, z1_3, (z1_4 + x1 * y3 + c1) % 65536, 0, 0, 0, (z1_4 + x1 * y3 + c1) / 65536, _, by omega, rfl, rfl, by omega, ⟨hz1.b0, hz1.b1, hz1.b2, hz1.b3, by omega, by omega, by omega, by omega⟩, ⟨rfl, rfl, rfl⟩, ⟨by have := hE1.out; simp only [valS, pw, accS, rowS, Nat.reduceAdd] at this ⊢; omega⟩, set_draw _ _ _ _ _ _ _ hs.symm⟩, by simp [intOf]⟩
        · simp only [kI]
          go_wp2
          rw [rounds_succ]; go_wp2
          go_loopw [9, 10] (fun c k wr => ∃ (kN : Nat) (z2_0 z2_1 z2_2 z2_3 z2_4 z2_5 z2_6 z2_7 c2 : Int) (n : Nat), kN ≤ 4 ∧ k = .int .i64 (kI kN) ∧ c = .int .u64 c2 ∧ (0 ≤ c2 ∧ c2 ≤ 65535) ∧ Dig8 z2_0 z2_1 z2_2 z2_3 z2_4 z2_5 z2_6 z2_7 ∧ (z2_6 = 0 ∧ z2_7 = 0) ∧ Aside0 (valS z2_0 z2_1 z2_2 z2_3 z2_4 z2_5 z2_6 z2_7 + c2 * pw (2 + kN) = accS x0 x1 x2 x3 y0 y1 y2 y3 2 + pw 2 * rowS x2 y0 y1 y2 y3 kN) ∧ wr = (B.alloc (.cells #[.int .u64 z2_0, .int .u64 z2_1, .int .u64 z2_2, .int .u64 z2_3, .int .u64 z2_4, .int .u64 z2_5, .int .u64 z2_6, .int .u64 z2_7] 94)).drewN n) (fun _ k _ => 4 - (intOf k).toNat)
          case atStart => exact ⟨0, z1_0, z1_1, z1_2, z1_3, z1_4, c1, 0, 0, 0, n1, by omega, rfl, rfl, by omega, ⟨hz1.b0, hz1.b1, hz1.b2, hz1.b3, hz1.b4, hc1, by omega, by omega⟩, ⟨rfl, rfl⟩, ⟨by have := hE1.out; simp only [valS, pw, accS, rowS, Nat.reduceAdd] at this ⊢; omega⟩, set_draw _ _ _ _ _ _ _ hs.symm⟩
          case round =>
            obtain ⟨kN, z2_0, z2_1, z2_2, z2_3, z2_4, z2_5, z2_6, z2_7, c2, n2, hk, rfl, rfl, hc2, hz2, ⟨rfl, rfl⟩, hE2, rfl⟩ := hrel
            rcases (by omega : kN = 0 ∨ kN = 1 ∨ kN = 2 ∨ kN = 3 ∨ kN = 4) with rfl | rfl | rfl | rfl | rfl
            · have hp := mul_dig hx.b2 hy.b0
              have hzk := hz2.b2
              have w1 : IntKind.u64.wrap (x2 * y0) = x2 * y0 := u64_id (by omega) (by omega)
              have w2 : IntKind.u64.wrap (z2_2 + x2 * y0) = z2_2 + x2 * y0 := u64_id (by omega) (by omega)
              have w3 : IntKind.u64.wrap (z2_2 + x2 * y0 + c2) = z2_2 + x2 * y0 + c2 := u64_id (by omega) (by omega)
              simp only [kI]
              go_wp2
              go_quiet (fail)
              go_wp2
              exact ⟨⟨1, z2_0, z2_1, (z2_2 + x2 * y0 + c2) % 65536, z2_3, z2_4, z2_5, 0, 0, (z2_2 + x2 * y0 + c2) / 65536, _, by omega, rfl, rfl, by omega, ⟨hz2.b0, hz2.b1, by omega, hz2.b3, hz2.b4, hz2.b5, by omega, by omega⟩, ⟨rfl, rfl⟩, ⟨by have := hE2.out; simp only [valS, pw, accS, rowS, Nat.reduceAdd] at this ⊢; omega⟩, set_draw _ _ _ _ _ _ _ hs.symm⟩, by simp [intOf]⟩
            · have hp := mul_dig hx.b2 hy.b1
              have hzk := hz2.b3
              have w1 : IntKind.u64.wrap (x2 * y1) = x2 * y1 := u64_id (by omega) (by omega)
              have w2 : IntKind.u64.wrap (z2_3 + x2 * y1) = z2_3 + x2 * y1 := u64_id (by omega) (by omega)
              have w3 : IntKind.u64.wrap (z2_3 + x2 * y1 + c2) = z2_3 + x2 * y1 + c2 := u64_id (by omega) (by omega)
              simp only [kI]
              go_wp2
              go_quiet (fail)
              go_wp2
              exact ⟨⟨2, z2_0, z2_1, z2_2, (z2_3 + x2 * y1 + c2) % 65536, z2_4, z2_5, 0, 0, (z2_3 + x2 * y1 + c2) / 65536, _, by omega, rfl, rfl, by omega, ⟨hz2.b0, hz2.b1, hz2.b2, by omega, hz2.b4, hz2.b5, by omega, by omega⟩, ⟨rfl, rfl⟩, ⟨by have := hE2.out; simp only [valS, pw, accS, rowS, Nat.reduceAdd] at this ⊢; omega⟩, set_draw _ _ _ _ _ _ _ hs.symm⟩, by simp [intOf]⟩
            · have hp := mul_dig hx.b2 hy.b2
              have hzk := hz2.b4
              have w1 : IntKind.u64.wrap (x2 * y2) = x2 * y2 := u64_id (by omega) (by omega)
              have w2 : IntKind.u64.wrap (z2_4 + x2 * y2) = z2_4 + x2 * y2 := u64_id (by omega) (by omega)
              have w3 : IntKind.u64.wrap (z2_4 + x2 * y2 + c2) = z2_4 + x2 * y2 + c2 := u64_id (by omega) (by omega)
              simp only [kI]
              go_wp2
              go_quiet (fail)
              go_wp2
              exact ⟨⟨3, z2_0, z2_1, z2_2, z2_3, (z2_4 + x2 * y2 + c2) % 65536, z2_5, 0, 0, (z2_4 + x2 * y2 + c2) / 65536, _, by omega, rfl, rfl, by omega, ⟨hz2.b0, hz2.b1, hz2.b2, hz2.b3, by omega, hz2.b5, by omega, by omega⟩, ⟨rfl, rfl⟩, ⟨by have := hE2.out; simp only [valS, pw, accS, rowS, Nat.reduceAdd] at this ⊢; omega⟩, set_draw _ _ _ _ _ _ _ hs.symm⟩, by simp [intOf]⟩
            · have hp := mul_dig hx.b2 hy.b3
              have hzk := hz2.b5
              have w1 : IntKind.u64.wrap (x2 * y3) = x2 * y3 := u64_id (by omega) (by omega)
              have w2 : IntKind.u64.wrap (z2_5 + x2 * y3) = z2_5 + x2 * y3 := u64_id (by omega) (by omega)
              have w3 : IntKind.u64.wrap (z2_5 + x2 * y3 + c2) = z2_5 + x2 * y3 + c2 := u64_id (by omega) (by omega)
              simp only [kI]
              go_wp2
              go_quiet (fail)
              go_wp2
              exact ⟨⟨4, z2_0, z2_1, z2_2, z2_3, z2_4, (z2_5 + x2 * y3 + c2) % 65536, 0, 0, (z2_5 + x2 * y3 + c2) / 65536, _, by omega, rfl, rfl, by omega, ⟨hz2.b0, hz2.b1, hz2.b2, hz2.b3, hz2.b4, by omega, by omega, by omega⟩, ⟨rfl, rfl⟩, ⟨by have := hE2.out; simp only [valS, pw, accS, rowS, Nat.reduceAdd] at this ⊢; omega⟩, set_draw _ _ _ _ _ _ _ hs.symm⟩, by simp [intOf]⟩
            · simp only [kI]
              go_wp2
              rw [rounds_succ]; go_wp2
              go_loopw [9, 10] (fun c k wr => ∃ (kN : Nat) (z3_0 z3_1 z3_2 z3_3 z3_4 z3_5 z3_6 z3_7 c3 : Int) (n : Nat), kN ≤ 4 ∧ k = .int .i64 (kI kN) ∧ c = .int .u64 c3 ∧ (0 ≤ c3 ∧ c3 ≤ 65535) ∧ Dig8 z3_0 z3_1 z3_2 z3_3 z3_4 z3_5 z3_6 z3_7 ∧ (z3_7 = 0) ∧ Aside0 (valS z3_0 z3_1 z3_2 z3_3 z3_4 z3_5 z3_6 z3_7 + c3 * pw (3 + kN) = accS x0 x1 x2 x3 y0 y1 y2 y3 3 + pw 3 * rowS x3 y0 y1 y2 y3 kN) ∧ wr = (B.alloc (.cells #[.int .u64 z3_0, .int .u64 z3_1, .int .u64 z3_2, .int .u64 z3_3, .int .u64 z3_4, .int .u64 z3_5, .int .u64 z3_6, .int .u64 z3_7] 94)).drewN n) (fun _ k _ => 4 - (intOf k).toNat)
              case atStart => exact ⟨0, z2_0, z2_1, z2_2, z2_3, z2_4, z2_5, c2, 0, 0, n2, by omega, rfl, rfl, by omega, ⟨hz2.b0, hz2.b1, hz2.b2, hz2.b3, hz2.b4, hz2.b5, hc2, by omega⟩, rfl, ⟨by have := hE2.out; simp only [valS, pw, accS, rowS, Nat.reduceAdd] at this ⊢; omega⟩, set_draw _ _ _ _ _ _ _ hs.symm⟩
              case round =>
                obtain ⟨kN, z3_0, z3_1, z3_2, z3_3, z3_4, z3_5, z3_6, z3_7, c3, n3, hk, rfl, rfl, hc3, hz3, rfl, hE3, rfl⟩ := hrel
                rcases (by omega : kN = 0 ∨ kN = 1 ∨ kN = 2 ∨ kN = 3 ∨ kN = 4) with rfl | rfl | rfl | rfl | rfl
                · have hp := mul_dig hx.b3 hy.b0
                  have hzk := hz3.b3
                  have w1 : IntKind.u64.wrap (x3 * y0) = x3 * y0 := u64_id (by omega) (by omega)
                  have w2 : IntKind.u64.wrap (z3_3 + x3 * y0) = z3_3 + x3 * y0 := u64_id (by omega) (by omega)
                  have w3 : IntKind.u64.wrap (z3_3 + x3 * y0 + c3) = z3_3 + x3 * y0 + c3 := u64_id (by omega) (by omega)
                  simp only [kI]
                  go_wp2
                  go_quiet (fail)
                  go_wp2
                  exact ⟨⟨1, z3_0, z3_1, z3_2, (z3_3 + x3 * y0 + c3) % 65536, z3_4, z3_5, z3_6, 0, (z3_3 + x3 * y0 + c3) / 65536, _, by omega, rfl, rfl, by omega, ⟨hz3.b0, hz3.b1, hz3.b2, by omega, hz3.b4, hz3.b5, hz3.b6, by omega⟩, rfl, ⟨by have := hE3.out; simp only [valS, pw, accS, rowS, Nat.reduceAdd] at this ⊢; omega⟩, set_draw _ _ _ _ _ _ _ hs.symm⟩, by simp [intOf]⟩
                · have hp := mul_dig hx.b3 hy.b1
                  have hzk := hz3.b4
                  have w1 : IntKind.u64.wrap (x3 * y1) = x3 * y1 := u64_id (by omega) (by omega)
                  have w2 : IntKind.u64.wrap (z3_4 + x3 * y1) = z3_4 + x3 * y1 := u64_id (by omega) (by omega)
                  have w3 : IntKind.u64.wrap (z3_4 + x3 * y1 + c3) = z3_4 + x3 * y1 + c3 := u64_id (by omega) (by omega)
                  simp only [kI]
                  go_wp2
                  go_quiet (fail)
                  go_wp2
                  exact ⟨⟨2, z3_0, z3_1, z3_2, z3_3, (z3_4 + x3 * y1 + c3) % 65536, z3_5, z3_6, 0, (z3_4 + x3 * y1 + c3) / 65536, _, by omega, rfl, rfl, by omega, ⟨hz3.b0, hz3.b1, hz3.b2, hz3.b3, by omega, hz3.b5, hz3.b6, by omega⟩, rfl, ⟨by have := hE3.out; simp only [valS, pw, accS, rowS, Nat.reduceAdd] at this ⊢; omega⟩, set_draw _ _ _ _ _ _ _ hs.symm⟩, by simp [intOf]⟩
                · have hp := mul_dig hx.b3 hy.b2
                  have hzk := hz3.b5
                  have w1 : IntKind.u64.wrap (x3 * y2) = x3 * y2 := u64_id (by omega) (by omega)
                  have w2 : IntKind.u64.wrap (z3_5 + x3 * y2) = z3_5 + x3 * y2 := u64_id (by omega) (by omega)
                  have w3 : IntKind.u64.wrap (z3_5 + x3 * y2 + c3) = z3_5 + x3 * y2 + c3 := u64_id (by omega) (by omega)
                  simp only [kI]
                  go_wp2
                  go_quiet (fail)
                  go_wp2
                  exact ⟨⟨3, z3_0, z3_1, z3_2, z3_3, z3_4, (z3_5 + x3 * y2 + c3) % 65536, z3_6, 0, (z3_5 + x3 * y2 + c3) / 65536, _, by omega, rfl, rfl, by omega, ⟨hz3.b0, hz3.b1, hz3.b2, hz3.b3, hz3.b4, by omega, hz3.b6, by omega⟩, rfl, ⟨by have := hE3.out; simp only [valS, pw, accS, rowS, Nat.reduceAdd] at this ⊢; omega⟩, set_draw _ _ _ _ _ _ _ hs.symm⟩, by simp [intOf]⟩
                · have hp := mul_dig hx.b3 hy.b3
                  have hzk := hz3.b6
                  have w1 : IntKind.u64.wrap (x3 * y3) = x3 * y3 := u64_id (by omega) (by omega)
                  have w2 : IntKind.u64.wrap (z3_6 + x3 * y3) = z3_6 + x3 * y3 := u64_id (by omega) (by omega)
                  have w3 : IntKind.u64.wrap (z3_6 + x3 * y3 + c3) = z3_6 + x3 * y3 + c3 := u64_id (by omega) (by omega)
                  simp only [kI]
                  go_wp2
                  go_quiet (fail)
                  go_wp2
                  exact ⟨⟨4, z3_0, z3_1, z3_2, z3_3, z3_4, z3_5, (z3_6 + x3 * y3 + c3) % 65536, 0, (z3_6 + x3 * y3 + c3) / 65536, _, by omega, rfl, rfl, by omega, ⟨hz3.b0, hz3.b1, hz3.b2, hz3.b3, hz3.b4, hz3.b5, by omega, by omega⟩, rfl, ⟨by have := hE3.out; simp only [valS, pw, accS, rowS, Nat.reduceAdd] at this ⊢; omega⟩, set_draw _ _ _ _ _ _ _ hs.symm⟩, by simp [intOf]⟩
                · simp only [kI]
                  go_wp2
                  rw [set_draw _ _ _ _ _ _ _ hs.symm]
                  obtain rfl := HBq.out
                  clear hs cx0 cx1 cx2 cx3 cy0 cy1 cy2 cy3 HBq
                  simp only [prodBase, bigO]
                  have hset := set_drewN
                  rw [rounds_succ]; go_wp2
                  have h1 := hE3.out
                  have h2 := hx.sum
                  have h3 := hy.sum
                  have hP : valS z3_0 z3_1 z3_2 z3_3 z3_4 z3_5 z3_6 c3 = mg a * mg b := prod_val h2 h3 (by simp only [valS, pw, accS, rowS, Nat.reduceAdd] at h1 ⊢; omega)
                  refine bodyPost_ret (v := bigV z3_0 z3_1 z3_2 z3_3 z3_4 z3_5 z3_6 c3) ?_ rfl (show ProdEnd (mg a * mg b) w _ _ from ⟨z3_0, z3_1, z3_2, z3_3, z3_4, z3_5, z3_6, c3, ⟨hz3.b0, hz3.b1, hz3.b2, hz3.b3, hz3.b4, hz3.b5, hz3.b6, hc3⟩, hP, rfl, ?_⟩)
                  · simp [results, Try.results55, go_sem, bigV]
                  · repeat (first | exact Below.refl _ _ | apply pw_below_drewN | apply below_alloc)
end Go.Proofs.Ytcbdcgghccjdpaa.Q

namespace Go.Proofs.Ytcbdcgghccjdpaa.Q
open Go.RowKit Go.Proofs.YtcbdcgghccjdpaaW.PrintWords Go.Proofs.YtcbdcgghccjdpaaW.PrintLast Go.Proofs.YtcbdcgghccjdpaaW.PrintMore
set_option linter.unusedVariables false
set_option linter.unusedSimpArgs false

/-- Digit j of eight. -/
def digS (z0 z1 z2 z3 z4 z5 z6 z7 : Int) : Nat → Int
  | 0 => z0
  | 1 => z1
  | 2 => z2
  | 3 => z3
  | 4 => z4
  | 5 => z5
  | 6 => z6
  | _ => z7
def half (d : Int) : Nat → Int
  | 0 => d
  | k + 1 => half d k / 2
theorem half_bd (d : Int) (h0 : 0 ≤ d) (h1 : d ≤ 65535) : ∀ k, 0 ≤ half d k ∧ half d k ≤ 65535
  | 0 => ⟨h0, h1⟩
  | k + 1 => by
    have := half_bd d h0 h1 k
    unfold half
    omega
theorem half_pow (d : Int) : ∀ k, half d k = d / 2 ^ k
  | 0 => by simp [half]
  | k + 1 => by
    rw [half, half_pow d k, Int.pow_succ, Int.ediv_ediv_of_nonneg (Int.pow_nonneg (by decide))]
def BitEnd (v : Int) (w : World) (e : Ending) (w' : World) : Prop := e = .returned (.int .u64 v) ∧ Below w.heap.size w w'
set_option maxHeartbeats 1000000 in
theorem ref01_bit.at (z0 z1 z2 z3 z4 z5 z6 z7 : Int) (hz : Dig8 z0 z1 z2 z3 z4 z5 z6 z7) (j m : Nat) (hj : j < 8) (hm : m < 16) (i : Int) (hi : i = 16 * j + m) (w : World) :
    Calls Try.prog 60 #[bigV z0 z1 z2 z3 z4 z5 z6 z7, .int .i64 i] w (BitEnd (half (digS z0 z1 z2 z3 z4 z5 z6 z7 j) m % 2) w) := by
  have e1 : i / 16 = (j : Int) := by omega
  have e2 : i % 16 = (m : Int) := by omega
  have i0 : 0 ≤ i := by omega
  have i1 : i ≤ 127 := by omega
  clear hi
  simp only [bigV]
  rcases (by omega : j = 0 ∨ j = 1 ∨ j = 2 ∨ j = 3 ∨ j = 4 ∨ j = 5 ∨ j = 6 ∨ j = 7) with rfl | rfl | rfl | rfl | rfl | rfl | rfl | rfl
  · have hb := hz.b0
    have hd := half_bd z0 hb.1 hb.2
    go_enter Try.func60, Try.ntmps60
    go_wp2
    go_loop [5, 6] (fun n k => ∃ kN : Nat, kN ≤ m ∧ k = .int .i64 kN ∧ n = .int .u64 (half z0 kN)) (fun _ k => m - (intOf k).toNat)
    case atStart => exact ⟨0, by omega, rfl, rfl⟩
    case round =>
      obtain ⟨kN, hk, rfl, rfl⟩ := hrel
      have hdk := hd kN
      have hs : half z0 (kN + 1) = half z0 kN / 2 := rfl
      have HS := Lib.hid hs
      clear hs hd
      by_cases hlt : kN < m
      · have t1 : decide (kN < m) = true := decide_eq_true hlt
        go_wp2
        go_round
        case rel => exact ⟨kN + 1, by omega, by go_num, by rw [HS.out]⟩
        case measure => simp [intOf]; omega
      · have t1 : decide (kN < m) = false := decide_eq_false hlt
        go_wp2
        go_ret
        exact ⟨by rw [show kN = m by omega]; rfl, below_alloc (Below.refl _ _) _⟩
  · have hb := hz.b1
    have hd := half_bd z1 hb.1 hb.2
    go_enter Try.func60, Try.ntmps60
    go_wp2
    go_loop [5, 6] (fun n k => ∃ kN : Nat, kN ≤ m ∧ k = .int .i64 kN ∧ n = .int .u64 (half z1 kN)) (fun _ k => m - (intOf k).toNat)
    case atStart => exact ⟨0, by omega, rfl, rfl⟩
    case round =>
      obtain ⟨kN, hk, rfl, rfl⟩ := hrel
      have hdk := hd kN
      have hs : half z1 (kN + 1) = half z1 kN / 2 := rfl
      have HS := Lib.hid hs
      clear hs hd
      by_cases hlt : kN < m
      · have t1 : decide (kN < m) = true := decide_eq_true hlt
        go_wp2
        go_round
        case rel => exact ⟨kN + 1, by omega, by go_num, by rw [HS.out]⟩
        case measure => simp [intOf]; omega
      · have t1 : decide (kN < m) = false := decide_eq_false hlt
        go_wp2
        go_ret
        exact ⟨by rw [show kN = m by omega]; rfl, below_alloc (Below.refl _ _) _⟩
  · have hb := hz.b2
    have hd := half_bd z2 hb.1 hb.2
    go_enter Try.func60, Try.ntmps60
    go_wp2
    go_loop [5, 6] (fun n k => ∃ kN : Nat, kN ≤ m ∧ k = .int .i64 kN ∧ n = .int .u64 (half z2 kN)) (fun _ k => m - (intOf k).toNat)
    case atStart => exact ⟨0, by omega, rfl, rfl⟩
    case round =>
      obtain ⟨kN, hk, rfl, rfl⟩ := hrel
      have hdk := hd kN
      have hs : half z2 (kN + 1) = half z2 kN / 2 := rfl
      have HS := Lib.hid hs
      clear hs hd
      by_cases hlt : kN < m
      · have t1 : decide (kN < m) = true := decide_eq_true hlt
        go_wp2
        go_round
        case rel => exact ⟨kN + 1, by omega, by go_num, by rw [HS.out]⟩
        case measure => simp [intOf]; omega
      · have t1 : decide (kN < m) = false := decide_eq_false hlt
        go_wp2
        go_ret
        exact ⟨by rw [show kN = m by omega]; rfl, below_alloc (Below.refl _ _) _⟩
  · have hb := hz.b3
    have hd := half_bd z3 hb.1 hb.2
    go_enter Try.func60, Try.ntmps60
    go_wp2
    go_loop [5, 6] (fun n k => ∃ kN : Nat, kN ≤ m ∧ k = .int .i64 kN ∧ n = .int .u64 (half z3 kN)) (fun _ k => m - (intOf k).toNat)
    case atStart => exact ⟨0, by omega, rfl, rfl⟩
    case round =>
      obtain ⟨kN, hk, rfl, rfl⟩ := hrel
      have hdk := hd kN
      have hs : half z3 (kN + 1) = half z3 kN / 2 := rfl
      have HS := Lib.hid hs
      clear hs hd
      by_cases hlt : kN < m
      · have t1 : decide (kN < m) = true := decide_eq_true hlt
        go_wp2
        go_round
        case rel => exact ⟨kN + 1, by omega, by go_num, by rw [HS.out]⟩
        case measure => simp [intOf]; omega
      · have t1 : decide (kN < m) = false := decide_eq_false hlt
        go_wp2
        go_ret
        exact ⟨by rw [show kN = m by omega]; rfl, below_alloc (Below.refl _ _) _⟩
  · have hb := hz.b4
    have hd := half_bd z4 hb.1 hb.2
    go_enter Try.func60, Try.ntmps60
    go_wp2
    go_loop [5, 6] (fun n k => ∃ kN : Nat, kN ≤ m ∧ k = .int .i64 kN ∧ n = .int .u64 (half z4 kN)) (fun _ k => m - (intOf k).toNat)
    case atStart => exact ⟨0, by omega, rfl, rfl⟩
    case round =>
      obtain ⟨kN, hk, rfl, rfl⟩ := hrel
      have hdk := hd kN
      have hs : half z4 (kN + 1) = half z4 kN / 2 := rfl
      have HS := Lib.hid hs
      clear hs hd
      by_cases hlt : kN < m
      · have t1 : decide (kN < m) = true := decide_eq_true hlt
        go_wp2
        go_round
        case rel => exact ⟨kN + 1, by omega, by go_num, by rw [HS.out]⟩
        case measure => simp [intOf]; omega
      · have t1 : decide (kN < m) = false := decide_eq_false hlt
        go_wp2
        go_ret
        exact ⟨by rw [show kN = m by omega]; rfl, below_alloc (Below.refl _ _) _⟩
  · have hb := hz.b5
    have hd := half_bd z5 hb.1 hb.2
    go_enter Try.func60, Try.ntmps60
    go_wp2
    go_loop [5, 6] (fun n k => ∃ kN : Nat, kN ≤ m ∧ k = .int .i64 kN ∧ n = .int .u64 (half z5 kN)) (fun _ k => m - (intOf k).toNat)
    case atStart => exact ⟨0, by omega, rfl, rfl⟩
    case round =>
      obtain ⟨kN, hk, rfl, rfl⟩ := hrel
      have hdk := hd kN
      have hs : half z5 (kN + 1) = half z5 kN / 2 := rfl
      have HS := Lib.hid hs
      clear hs hd
      by_cases hlt : kN < m
      · have t1 : decide (kN < m) = true := decide_eq_true hlt
        go_wp2
        go_round
        case rel => exact ⟨kN + 1, by omega, by go_num, by rw [HS.out]⟩
        case measure => simp [intOf]; omega
      · have t1 : decide (kN < m) = false := decide_eq_false hlt
        go_wp2
        go_ret
        exact ⟨by rw [show kN = m by omega]; rfl, below_alloc (Below.refl _ _) _⟩
  · have hb := hz.b6
    have hd := half_bd z6 hb.1 hb.2
    go_enter Try.func60, Try.ntmps60
    go_wp2
    go_loop [5, 6] (fun n k => ∃ kN : Nat, kN ≤ m ∧ k = .int .i64 kN ∧ n = .int .u64 (half z6 kN)) (fun _ k => m - (intOf k).toNat)
    case atStart => exact ⟨0, by omega, rfl, rfl⟩
    case round =>
      obtain ⟨kN, hk, rfl, rfl⟩ := hrel
      have hdk := hd kN
      have hs : half z6 (kN + 1) = half z6 kN / 2 := rfl
      have HS := Lib.hid hs
      clear hs hd
      by_cases hlt : kN < m
      · have t1 : decide (kN < m) = true := decide_eq_true hlt
        go_wp2
        go_round
        case rel => exact ⟨kN + 1, by omega, by go_num, by rw [HS.out]⟩
        case measure => simp [intOf]; omega
      · have t1 : decide (kN < m) = false := decide_eq_false hlt
        go_wp2
        go_ret
        exact ⟨by rw [show kN = m by omega]; rfl, below_alloc (Below.refl _ _) _⟩
  · have hb := hz.b7
    have hd := half_bd z7 hb.1 hb.2
    go_enter Try.func60, Try.ntmps60
    go_wp2
    go_loop [5, 6] (fun n k => ∃ kN : Nat, kN ≤ m ∧ k = .int .i64 kN ∧ n = .int .u64 (half z7 kN)) (fun _ k => m - (intOf k).toNat)
    case atStart => exact ⟨0, by omega, rfl, rfl⟩
    case round =>
      obtain ⟨kN, hk, rfl, rfl⟩ := hrel
      have hdk := hd kN
      have hs : half z7 (kN + 1) = half z7 kN / 2 := rfl
      have HS := Lib.hid hs
      clear hs hd
      by_cases hlt : kN < m
      · have t1 : decide (kN < m) = true := decide_eq_true hlt
        go_wp2
        go_round
        case rel => exact ⟨kN + 1, by omega, by go_num, by rw [HS.out]⟩
        case measure => simp [intOf]; omega
      · have t1 : decide (kN < m) = false := decide_eq_false hlt
        go_wp2
        go_ret
        exact ⟨by rw [show kN = m by omega]; rfl, below_alloc (Below.refl _ _) _⟩
theorem bit_val {z0 z1 z2 z3 z4 z5 z6 z7 P : Int} (hz : Dig8 z0 z1 z2 z3 z4 z5 z6 z7) (hP : valS z0 z1 z2 z3 z4 z5 z6 z7 = P) (j m : Nat) (hj : j < 8) (hm : m < 16) : half (digS z0 z1 z2 z3 z4 z5 z6 z7 j) m % 2 = P / 2 ^ (16 * j + m) % 2 := by
  obtain ⟨b0, b1, b2, b3, b4, b5, b6, b7⟩ := hz
  have hd : digS z0 z1 z2 z3 z4 z5 z6 z7 j = P / 2 ^ (16 * j) % 65536 := by
    subst hP
    unfold valS
    rcases (by omega : j = 0 ∨ j = 1 ∨ j = 2 ∨ j = 3 ∨ j = 4 ∨ j = 5 ∨ j = 6 ∨ j = 7) with rfl | rfl | rfl | rfl | rfl | rfl | rfl | rfl <;> simp only [digS, Nat.reduceMul, Int.reducePow] <;> omega
  rw [half_pow, hd, Int.pow_add, ← Int.ediv_ediv_of_nonneg (Int.pow_nonneg (by decide))]
  generalize P / 2 ^ (16 * j) = X
  rcases (by omega : m = 0 ∨ m = 1 ∨ m = 2 ∨ m = 3 ∨ m = 4 ∨ m = 5 ∨ m = 6 ∨ m = 7 ∨ m = 8 ∨ m = 9 ∨ m = 10 ∨ m = 11 ∨ m = 12 ∨ m = 13 ∨ m = 14 ∨ m = 15) with rfl | rfl | rfl | rfl | rfl | rfl | rfl | rfl | rfl | rfl | rfl | rfl | rfl | rfl | rfl | rfl <;> simp only [Int.reducePow] <;> omega
def bitS (P : Int) (i : Nat) : Int := P / 2 ^ i % 2
theorem bitS_bd (P : Int) (i : Nat) : 0 ≤ bitS P i ∧ bitS P i ≤ 1 := by unfold bitS; omega
theorem ref01_bit.same {z0 z1 z2 z3 z4 z5 z6 z7 P : Int} (hz : Dig8 z0 z1 z2 z3 z4 z5 z6 z7) (hP : valS z0 z1 z2 z3 z4 z5 z6 z7 = P) (i : Nat) (hi : i < 128) (w : World) :
    Calls Try.prog 60 #[bigV z0 z1 z2 z3 z4 z5 z6 z7, .int .i64 (i : Int)] w (BitEnd (bitS P i) w) := by
  have h := ref01_bit.at z0 z1 z2 z3 z4 z5 z6 z7 hz (i / 16) (i % 16) (by omega) (by omega) (i : Int) (by omega) w
  rw [bit_val hz hP _ _ (by omega) (by omega), show 16 * (i / 16) + i % 16 = i by omega] at h
  exact h

def dq (P d : Int) (n : Nat) : Int := P / 2 ^ n / d
def dr (P d : Int) (n : Nat) : Int := P / 2 ^ n % d
theorem div_step (P d : Int) (hd : 0 < d) (m : Nat) :
    dq P d m = 2 * dq P d (m + 1) + (if d ≤ 2 * dr P d (m + 1) + bitS P m then 1 else 0) ∧ dr P d m = 2 * dr P d (m + 1) + bitS P m - (if d ≤ 2 * dr P d (m + 1) + bitS P m then d else 0) := by
  have e : P / 2 ^ (m + 1) = P / 2 ^ m / 2 := by rw [Int.pow_succ, Int.ediv_ediv_of_nonneg (Int.pow_nonneg (by decide))]
  unfold dq dr bitS
  rw [e]
  generalize P / 2 ^ m = X
  have h1 := Int.emod_add_mul_ediv (X / 2) d
  have h2 := Int.emod_nonneg (X / 2) (show d ≠ 0 by omega)
  have h3 := Int.emod_lt_of_pos (X / 2) hd
  obtain ⟨q, hq⟩ : ∃ q, q = X / 2 / d := ⟨_, rfl⟩
  obtain ⟨r, hr⟩ : ∃ r, r = X / 2 % d := ⟨_, rfl⟩
  rw [← hq] at h1 ⊢
  rw [← hr] at h1 h2 h3 ⊢
  have hX : X = 2 * (d * q) + (2 * r + X % 2) := by omega
  by_cases c : d ≤ 2 * r + X % 2
  · rw [if_pos c, if_pos c]
    exact div_uniq (by omega) (by omega) (by rw [Int.add_mul, Int.mul_assoc, Int.mul_comm q d]; omega)
  · rw [if_neg c, if_neg c]
    have := div_uniq (n := X) (d := d) (q := 2 * q + 0) (r := 2 * r + X % 2 - 0) (by omega) (by omega) (by rw [Int.add_mul, Int.mul_assoc, Int.mul_comm q d]; omega)
    exact this
theorem dq_nn (P d : Int) (hP : 0 ≤ P) (hd : 0 < d) (n : Nat) : 0 ≤ dq P d n := Int.ediv_nonneg (Int.ediv_nonneg hP (Int.pow_nonneg (by decide))) (by omega)
theorem dr_bd (P d : Int) (hd : 0 < d) (n : Nat) : 0 ≤ dr P d n ∧ dr P d n < d := ⟨Int.emod_nonneg _ (by omega), Int.emod_lt_of_pos _ hd⟩
/-- The state of the long division at n bits to come. -/
theorem val_bd {z0 z1 z2 z3 z4 z5 z6 z7 P : Int} (hz : Dig8 z0 z1 z2 z3 z4 z5 z6 z7) (hP : valS z0 z1 z2 z3 z4 z5 z6 z7 = P) : 0 ≤ P ∧ P < 340282366920938463463374607431768211456 := by
  obtain ⟨b0, b1, b2, b3, b4, b5, b6, b7⟩ := hz
  unfold valS at hP
  omega
structure DivSt (P d : Int) (n : Nat) (q r : Int) (s : Bool) : Prop where
  q : q = dq P d n % 18446744073709551616
  r : r = dr P d n
  s : s = decide (dq P d n < 18446744073709551616)
theorem DivSt.next {P d q r fw q2 r2 q3 : Int} {m : Nat} {s po pq pd : Bool} (hP : 0 ≤ P) (hd : 0 < d) (hd2 : d ≤ 18446744073709551615) (h : DivSt P d (m + 1) q r s) (h1 : decide (9223372036854775808 ≤ r) = po) (h2 : decide (9223372036854775808 ≤ q) = pq) (h3 : decide (d ≤ fw) = pd)
    (e1 : IntKind.u64.wrap (IntKind.u64.wrap (2 * r) + bitS P m) = fw) (e2 : IntKind.u64.wrap (2 * q) = q2) (e3 : IntKind.u64.wrap (fw - d) = r2) (e4 : IntKind.u64.wrap (q2 + 1) = q3) :
    DivSt P d m (if (po || pd) = true then q3 else q2) (if (po || pd) = true then r2 else fw) (s && !pq) := by
  obtain ⟨hq, hr, hs⟩ := h
  obtain ⟨s1, s2⟩ := div_step P d hd m
  have b := bitS_bd P m
  have rb := dr_bd P d hd (m + 1)
  have qn := dq_nn P d hP hd (m + 1)
  rw [← hr] at s1 s2 rb
  subst h1 h2 h3 e3 e4 e2
  simp only [IntKind.wrap_u64] at e1 ⊢
  generalize bitS P m = bt at *
  generalize dq P d (m + 1) = Q at *
  have key : (decide (9223372036854775808 ≤ r) || decide (d ≤ fw)) = decide (d ≤ 2 * r + bt) := by
    rw [Bool.eq_iff_iff]; simp; omega
  rw [key]
  by_cases c : d ≤ 2 * r + bt
  · rw [if_pos c] at s1 s2
    rw [decide_eq_true c, if_pos rfl, if_pos rfl]
    refine ⟨by rw [s1]; omega, by rw [s2]; omega, ?_⟩
    rw [s1, hs, Bool.eq_iff_iff]; simp; omega
  · rw [if_neg c] at s1 s2
    rw [decide_eq_false c, if_neg (by decide), if_neg (by decide)]
    refine ⟨by rw [s1]; omega, by rw [s2]; omega, ?_⟩
    rw [s1, hs, Bool.eq_iff_iff]; simp; omega
theorem bcell {W w1 : World} {B : Nat} (hb : Below B W w1) : (∀ b o, b < B → w1.cell? ⟨b, o, none⟩ = W.cell? ⟨b, o, none⟩) ∧ (∀ b o, b < B → w1.frozen? ⟨b, o, none⟩ = W.frozen? ⟨b, o, none⟩) :=
  ⟨fun b o h => hb.cell (p := ⟨b, o, none⟩) h, fun b o h => hb.frozen (p := ⟨b, o, none⟩) h⟩
theorem DivSt.start {P d : Int} (h0 : 0 ≤ P) (h1 : P < 340282366920938463463374607431768211456) : DivSt P d 128 0 0 true := by
  have e : P / 2 ^ 128 = 0 := Int.ediv_eq_zero_of_lt h0 (by simpa using h1)
  exact ⟨by unfold dq; rw [e]; simp, by unfold dr; rw [e]; simp, by unfold dq; rw [e]; simp⟩
def DivEnd (P d : Int) (w : World) (e : Ending) (w' : World) : Prop := ∃ q r s, DivSt P d 0 q r s ∧ e = .returned (.tuple #[.int .u64 q, .int .u64 r, .bool s]) ∧ Below w.heap.size w w'
set_option maxHeartbeats 4000000 in
set_option maxRecDepth 100000 in
theorem ref01_divide.same {z0 z1 z2 z3 z4 z5 z6 z7 P : Int} (hz : Dig8 z0 z1 z2 z3 z4 z5 z6 z7) (hP : valS z0 z1 z2 z3 z4 z5 z6 z7 = P) (d : Int) (hd : 0 < d ∧ d ≤ 18446744073709551615) (w : World) :
    Calls Try.prog 54 #[bigV z0 z1 z2 z3 z4 z5 z6 z7, .int .u64 d] w (DivEnd P d w) := by
  have HBit := Lib.hid (fun (i : Nat) (hi : i < 128) (w : World) => ref01_bit.same hz hP i hi w)
  have hd0 := Lib.hid hd
  have hv := Lib.hid (val_bd hz hP)
  clear hz hP hd
  simp only [bigV] at HBit ⊢
  go_enter Try.func54, Try.ntmps54
  go_wp2
  go_loopw [7, 8, 9, 10] (fun q r s i wr => ∃ (n : Nat) (qv rv iI : Int) (sv : Bool), n ≤ 128 ∧ iI + 1 = n ∧ q = .int .u64 qv ∧ r = .int .u64 rv ∧ s = .bool sv ∧ i = .int .i64 iI ∧ Hid (DivSt P d n qv rv sv) ∧ Below (w.heap.size + 1) (w.alloc (.cells #[.int .u64 z0, .int .u64 z1, .int .u64 z2, .int .u64 z3, .int .u64 z4, .int .u64 z5, .int .u64 z6, .int .u64 z7] 94)) wr) (fun _ _ _ i _ => (intOf i + 1).toNat)
  case atStart => exact ⟨128, 0, 0, 127, true, by omega, by omega, rfl, rfl, rfl, rfl, Lib.hid (DivSt.start hv.out.1 hv.out.2), Below.refl _ _⟩
  case round =>
    obtain ⟨n, qv, rv, iI, sv, hn, hi, rfl, rfl, rfl, rfl, hst, hb⟩ := hrel
    cases n with
    | zero =>
      obtain rfl : iI = -1 := by omega
      go_wp2
      go_ret3
      exact ⟨qv, rv, sv, hst.out, rfl, (below_alloc (Below.refl _ _) _).trans (hb.mono (by omega))⟩
    | succ m =>
      obtain rfl : iI = (m : Int) := by omega
      obtain ⟨po, h1⟩ : ∃ p, decide (9223372036854775808 ≤ rv) = p := ⟨_, rfl⟩
      obtain ⟨pq, h2⟩ : ∃ p, decide (9223372036854775808 ≤ qv) = p := ⟨_, rfl⟩
      obtain ⟨fw, e1⟩ : ∃ p, IntKind.u64.wrap (IntKind.u64.wrap (2 * rv) + bitS P m) = p := ⟨_, rfl⟩
      obtain ⟨pd, h3⟩ : ∃ p, decide (d ≤ fw) = p := ⟨_, rfl⟩
      obtain ⟨q2, e2⟩ : ∃ p, IntKind.u64.wrap (2 * qv) = p := ⟨_, rfl⟩
      obtain ⟨r2, e3⟩ : ∃ p, IntKind.u64.wrap (fw - d) = p := ⟨_, rfl⟩
      obtain ⟨q3, e4⟩ : ∃ p, IntKind.u64.wrap (q2 + 1) = p := ⟨_, rfl⟩
      have HN := Lib.hid (DivSt.next hv.out.1 hd0.out.1 hd0.out.2 hst.out h1 h2 h3 e1 e2 e3 e4)
      clear hst
      obtain ⟨hc, hf⟩ := bcell hb
      have hm : m < 128 := by omega
      have hsz := hb.size
      cases po <;> cases pq <;> cases pd
      case false.false.false =>
        go_wp2_with (go_at_call 60; refine (HBit.out m hm _).mono ?_; rintro e w' ⟨rfl, hb1⟩)
        exact ⟨⟨m, q2, fw, (m : Int) - 1, sv, by omega, by omega, rfl, rfl, rfl, rfl, Lib.hid (by simpa using HN.out), below_then hb (by simpa using hsz) hb1⟩, by simp [intOf]⟩
      case false.false.true =>
        go_wp2_with (go_at_call 60; refine (HBit.out m hm _).mono ?_; rintro e w' ⟨rfl, hb1⟩)
        exact ⟨⟨m, q3, r2, (m : Int) - 1, sv, by omega, by omega, rfl, rfl, rfl, rfl, Lib.hid (by simpa using HN.out), below_then hb (by simpa using hsz) hb1⟩, by simp [intOf]⟩
      case false.true.false =>
        go_wp2_with (go_at_call 60; refine (HBit.out m hm _).mono ?_; rintro e w' ⟨rfl, hb1⟩)
        exact ⟨⟨m, q2, fw, (m : Int) - 1, false, by omega, by omega, rfl, rfl, rfl, rfl, Lib.hid (by simpa using HN.out), below_then hb (by simpa using hsz) hb1⟩, by simp [intOf]⟩
      case false.true.true =>
        go_wp2_with (go_at_call 60; refine (HBit.out m hm _).mono ?_; rintro e w' ⟨rfl, hb1⟩)
        exact ⟨⟨m, q3, r2, (m : Int) - 1, false, by omega, by omega, rfl, rfl, rfl, rfl, Lib.hid (by simpa using HN.out), below_then hb (by simpa using hsz) hb1⟩, by simp [intOf]⟩
      case true.false.false =>
        go_wp2_with (go_at_call 60; refine (HBit.out m hm _).mono ?_; rintro e w' ⟨rfl, hb1⟩)
        exact ⟨⟨m, q3, r2, (m : Int) - 1, sv, by omega, by omega, rfl, rfl, rfl, rfl, Lib.hid (by simpa using HN.out), below_then hb (by simpa using hsz) hb1⟩, by simp [intOf]⟩
      case true.false.true =>
        go_wp2_with (go_at_call 60; refine (HBit.out m hm _).mono ?_; rintro e w' ⟨rfl, hb1⟩)
        exact ⟨⟨m, q3, r2, (m : Int) - 1, sv, by omega, by omega, rfl, rfl, rfl, rfl, Lib.hid (by simpa using HN.out), below_then hb (by simpa using hsz) hb1⟩, by simp [intOf]⟩
      case true.true.false =>
        go_wp2_with (go_at_call 60; refine (HBit.out m hm _).mono ?_; rintro e w' ⟨rfl, hb1⟩)
        exact ⟨⟨m, q3, r2, (m : Int) - 1, false, by omega, by omega, rfl, rfl, rfl, rfl, Lib.hid (by simpa using HN.out), below_then hb (by simpa using hsz) hb1⟩, by simp [intOf]⟩
      case true.true.true =>
        go_wp2_with (go_at_call 60; refine (HBit.out m hm _).mono ?_; rintro e w' ⟨rfl, hb1⟩)
        exact ⟨⟨m, q3, r2, (m : Int) - 1, false, by omega, by omega, rfl, rfl, rfl, rfl, Lib.hid (by simpa using HN.out), below_then hb (by simpa using hsz) hb1⟩, by simp [intOf]⟩
end Go.Proofs.Ytcbdcgghccjdpaa.Q
