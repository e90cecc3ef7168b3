/- What is kept behind a call, for several blocks at once. -/
import Derived.Test.YtcbdcgghccjdpaaQ0
import Derived.IntWalk
import Derived.Laws.BitsLemmas
import Derived.Laws.Bits64
import Derived.Laws.BitsAllLaws
import Derived.Lib.Hide
import Derived.Deep.MidRow
import Derived.Deep.WholeRow
namespace Go.Proofs.Ytcbdcgghccjdpaa.Q
open Go.RowKit Go.Proofs.YtcbdcgghccjdpaaW.PrintWords
/-- Two worlds with one heap: the same cells, also behind stores. -/
theorem cellH {A B : World} (h : A.heap = B.heap) {a : Addr} : A.cell? a = B.cell? a := by simp only [World.cell?, h]
theorem setH {A B : World} {p : Addr} {u : Value} (h : A.heap = B.heap) : (A.setCell p u).heap = (B.setCell p u).heap := by simp only [World.setCell, h]
/-- An address moved within its block. -/
theorem nA {a : Addr} {n b : Nat} (h : a.block ≠ b) : (a.add n).block ≠ b := by rw [add_block]; exact h
theorem kS {W W' V : World} (hs : Below W.heap.size W W') (hb : Below W'.heap.size W' V) : Below W.heap.size W V := hs.trans (hb.mono hs.size)
theorem kB3 {w W W' V : World} {g0 : Nat} {o0 : Obj} {g1 : Nat} {o1 : Obj} {g2 : Nat} {o2 : Obj} (h0 : Aside0 (W.heap[g0]? = some o0)) (h1 : Aside0 (W.heap[g1]? = some o1)) (h2 : Aside0 (W.heap[g2]? = some o2)) (h : Aside0 (Below w.heap.size w W)) (hs : Below W.heap.size W W') (hb : Below W'.heap.size W' V) : Aside0 (V.heap[g0]? = some o0) ∧ Aside0 (V.heap[g1]? = some o1) ∧ Aside0 (V.heap[g2]? = some o2) ∧ Aside0 (Below w.heap.size w V) := ⟨⟨blk_below h0.out (kS hs hb)⟩, ⟨blk_below h1.out (kS hs hb)⟩, ⟨blk_below h2.out (kS hs hb)⟩, ⟨kS h.out ((kS hs hb).mono (Nat.le_refl _))⟩⟩
/-! A box laid: what is kept, and that it is none of the elder blocks. -/
theorem kL {w W W' : World} {b : Nat} (h : Below w.heap.size w W) (hs : Below W.heap.size W W') (hg : b = W'.heap.size) : w.heap.size ≤ b := by rw [hg]; exact Nat.le_trans h.size hs.size
theorem kM {W W' : World} {g b : Nat} {o : Obj} (h : W.heap[g]? = some o) (hs : Below W.heap.size W W') (hg : b = W'.heap.size) : g < b := by rw [hg]; exact Nat.lt_of_lt_of_le (blk_lt h) hs.size
/-! All cells of a block. -/
theorem kD2 {W : World} {g : Nat} {t : TypeId} {v0 v1 : Value} (h : W.heap[g]? = some (.cells #[v0, v1] t (0, 0))) : W.cell? ⟨g, 0, none⟩ = some v0 ∧ W.cell? ⟨g, 1, none⟩ = some v1 ∧ W.frozen? ⟨g, 0, none⟩ = false ∧ W.frozen? ⟨g, 1, none⟩ = false := ⟨(blk_cell h 0).trans rfl, (blk_cell h 1).trans rfl, blk_frozen h 0, blk_frozen h 1⟩
theorem kD5 {W : World} {g : Nat} {t : TypeId} {v0 v1 v2 v3 v4 : Value} (h : W.heap[g]? = some (.cells #[v0, v1, v2, v3, v4] t (0, 0))) : W.cell? ⟨g, 0, none⟩ = some v0 ∧ W.cell? ⟨g, 1, none⟩ = some v1 ∧ W.cell? ⟨g, 2, none⟩ = some v2 ∧ W.cell? ⟨g, 3, none⟩ = some v3 ∧ W.cell? ⟨g, 4, none⟩ = some v4 ∧ W.frozen? ⟨g, 0, none⟩ = false ∧ W.frozen? ⟨g, 1, none⟩ = false ∧ W.frozen? ⟨g, 2, none⟩ = false ∧ W.frozen? ⟨g, 3, none⟩ = false ∧ W.frozen? ⟨g, 4, none⟩ = false := ⟨(blk_cell h 0).trans rfl, (blk_cell h 1).trans rfl, (blk_cell h 2).trans rfl, (blk_cell h 3).trans rfl, (blk_cell h 4).trans rfl, blk_frozen h 0, blk_frozen h 1, blk_frozen h 2, blk_frozen h 3, blk_frozen h 4⟩
theorem kD10 {W : World} {g : Nat} {t : TypeId} {v0 v1 v2 v3 v4 v5 v6 v7 v8 v9 : Value} (h : W.heap[g]? = some (.cells #[v0, v1, v2, v3, v4, v5, v6, v7, v8, v9] t (0, 0))) : W.cell? ⟨g, 0, none⟩ = some v0 ∧ W.cell? ⟨g, 1, none⟩ = some v1 ∧ W.cell? ⟨g, 2, none⟩ = some v2 ∧ W.cell? ⟨g, 3, none⟩ = some v3 ∧ W.cell? ⟨g, 4, none⟩ = some v4 ∧ W.cell? ⟨g, 5, none⟩ = some v5 ∧ W.cell? ⟨g, 6, none⟩ = some v6 ∧ W.cell? ⟨g, 7, none⟩ = some v7 ∧ W.cell? ⟨g, 8, none⟩ = some v8 ∧ W.cell? ⟨g, 9, none⟩ = some v9 ∧ W.frozen? ⟨g, 0, none⟩ = false ∧ W.frozen? ⟨g, 1, none⟩ = false ∧ W.frozen? ⟨g, 2, none⟩ = false ∧ W.frozen? ⟨g, 3, none⟩ = false ∧ W.frozen? ⟨g, 4, none⟩ = false ∧ W.frozen? ⟨g, 5, none⟩ = false ∧ W.frozen? ⟨g, 6, none⟩ = false ∧ W.frozen? ⟨g, 7, none⟩ = false ∧ W.frozen? ⟨g, 8, none⟩ = false ∧ W.frozen? ⟨g, 9, none⟩ = false := ⟨(blk_cell h 0).trans rfl, (blk_cell h 1).trans rfl, (blk_cell h 2).trans rfl, (blk_cell h 3).trans rfl, (blk_cell h 4).trans rfl, (blk_cell h 5).trans rfl, (blk_cell h 6).trans rfl, (blk_cell h 7).trans rfl, (blk_cell h 8).trans rfl, (blk_cell h 9).trans rfl, blk_frozen h 0, blk_frozen h 1, blk_frozen h 2, blk_frozen h 3, blk_frozen h 4, blk_frozen h 5, blk_frozen h 6, blk_frozen h 7, blk_frozen h 8, blk_frozen h 9⟩
end Go.Proofs.Ytcbdcgghccjdpaa.Q

namespace Go.Proofs.Ytcbdcgghccjdpaa.Q
open Go.RowKit Go.Proofs.YtcbdcgghccjdpaaW.PrintWords Go.Proofs.YtcbdcgghccjdpaaW.PrintLast Go.Proofs.YtcbdcgghccjdpaaW.PrintMore
set_option linter.unusedVariables false

theorem wf_u64 {a : Int} (h : (Lit.int .u64 a).wf = true) : 0 ≤ a ∧ a ≤ 18446744073709551615 := by
  simpa [Lit.wf, IntKind.min, IntKind.max, IntKind.signed, IntKind.bits] using h
theorem wf_u32 {a : Int} (h : (Lit.int .u32 a).wf = true) : 0 ≤ a ∧ a ≤ 4294967295 := by
  simpa [Lit.wf, IntKind.min, IntKind.max, IntKind.signed, IntKind.bits] using h
theorem wf_u8 {a : Int} (h : (Lit.int .u8 a).wf = true) : 0 ≤ a ∧ a ≤ 255 := by
  simpa [Lit.wf, IntKind.min, IntKind.max, IntKind.signed, IntKind.bits] using h
theorem wf_i64 {a : Int} (h : (Lit.int .i64 a).wf = true) : -9223372036854775808 ≤ a ∧ a ≤ 9223372036854775807 := by
  simpa [Lit.wf, IntKind.min, IntKind.max, IntKind.signed, IntKind.bits] using h
theorem wf_i32 {a : Int} (h : (Lit.int .i32 a).wf = true) : -2147483648 ≤ a ∧ a ≤ 2147483647 := by
  simpa [Lit.wf, IntKind.min, IntKind.max, IntKind.signed, IntKind.bits] using h
theorem wf_i16 {a : Int} (h : (Lit.int .i16 a).wf = true) : -32768 ≤ a ∧ a ≤ 32767 := by
  simpa [Lit.wf, IntKind.min, IntKind.max, IntKind.signed, IntKind.bits] using h

theorem sq_mono {a b : Int} (h0 : 0 ≤ a) (h : a ≤ b) : a * a ≤ b * b := Int.mul_le_mul h h h0 (by omega)
theorem u64_id {n : Int} (h0 : 0 ≤ n) (h1 : n ≤ 18446744073709551615) : IntKind.u64.wrap n = n := IntWalk.u64_in _ ⟨h0, h1⟩
theorem w64_id {n : Int} (h0 : -9223372036854775808 ≤ n) (h1 : n ≤ 9223372036854775807) : wrap64 n = n := by unfold wrap64; omega
theorem w32_id {n : Int} (h0 : -2147483648 ≤ n) (h1 : n ≤ 2147483647) : wrap32 n = n := by unfold wrap32; omega
end Go.Proofs.Ytcbdcgghccjdpaa.Q

namespace Go.Proofs.Ytcbdcgghccjdpaa.Q
open Go.RowKit Go.Proofs.YtcbdcgghccjdpaaW.PrintWords Go.Proofs.YtcbdcgghccjdpaaW.PrintLast Go.Proofs.YtcbdcgghccjdpaaW.PrintMore
set_option linter.unusedVariables false

def i64B (a : Int) : Bool := decide (-9223372036854775808 ≤ a ∧ a ≤ 9223372036854775807)
def i32B (a : Int) : Bool := decide (-2147483648 ≤ a ∧ a ≤ 2147483647)
def u64B (a : Int) : Bool := decide (0 ≤ a ∧ a ≤ 18446744073709551615)
theorem i64B_iff {a : Int} : i64B a = true ↔ (-9223372036854775808 ≤ a ∧ a ≤ 9223372036854775807) := by simp [i64B]
theorem i32B_iff {a : Int} : i32B a = true ↔ (-2147483648 ≤ a ∧ a ≤ 2147483647) := by simp [i32B]
theorem u64B_iff {a : Int} : u64B a = true ↔ (0 ≤ a ∧ a ≤ 18446744073709551615) := by simp [u64B]
theorem i64B_neg {a : Int} : i64B a = false ↔ ¬ (-9223372036854775808 ≤ a ∧ a ≤ 9223372036854775807) := by simp [i64B]

/-- The absolute value. -/
def mg (a : Int) : Int := if a < 0 then -a else a
theorem mg_bd {a : Int} (h : -9223372036854775808 ≤ a ∧ a ≤ 9223372036854775807) : 0 ≤ mg a ∧ mg a ≤ 9223372036854775808 := by unfold mg; split <;> omega
theorem mg_bd_i32 {a : Int} (h : -2147483648 ≤ a ∧ a ≤ 2147483647) : 0 ≤ mg a ∧ mg a ≤ 2147483648 := by unfold mg; split <;> omega
theorem mg_mul (a b : Int) (ha : -9223372036854775808 ≤ a ∧ a ≤ 9223372036854775807) (hb : -9223372036854775808 ≤ b ∧ b ≤ 9223372036854775807) : 0 ≤ mg a * mg b ∧ mg a * mg b ≤ 85070591730234615865843651857942052864 := by
  have h1 := mg_bd ha
  have h2 := mg_bd hb
  exact ⟨Int.mul_nonneg h1.1 h2.1, by have := Int.mul_le_mul h1.2 h2.2 h2.1 (by omega : (0 : Int) ≤ 9223372036854775808); omega⟩
/-- The high and the low half of a wide number. -/
def hi64 (p : Int) : Int := p / 18446744073709551616
def lo64 (p : Int) : Int := p % 18446744073709551616
/-- All bits turned. -/
def not64 (x : Int) : Int := 18446744073709551615 - x
/-- The floor of a quotient, the divisor of any sign. -/
def fl (n d : Int) : Int := if 0 < d then n / d else (-n) / (-d)
/-- The nearest number of 32 bits. -/
def sat32 (n : Int) : Int := mx (-2147483648) (mn n 2147483647)
theorem sat32_bd (n : Int) : -2147483648 ≤ sat32 n ∧ sat32 n ≤ 2147483647 := by unfold sat32 mx mn; omega
theorem sat32_id {n : Int} (h : -2147483648 ≤ n ∧ n ≤ 2147483647) : sat32 n = n := by unfold sat32 mx mn; omega
theorem ret_int {k : IntKind} {a b : Int} (h : a = b) : Ending.returned (.int k a) = .returned (.int k b) := by rw [h]
theorem ret_two {j k : IntKind} {a b c d : Int} (h : a = b) (g : c = d) : Ending.returned (.tuple #[.int j a, .int k c]) = .returned (.tuple #[.int j b, .int k d]) := by rw [h, g]

theorem mul_i32 {a b : Int} (ha : -2147483648 ≤ a ∧ a ≤ 2147483647) (hb : -2147483648 ≤ b ∧ b ≤ 2147483647) : -4611686016279904256 ≤ a * b ∧ a * b ≤ 4611686018427387904 := by
  have h := mg_bd_i32 ha
  have g := mg_bd_i32 hb
  have k : mg a * mg b ≤ 2147483648 * 2147483648 := Int.mul_le_mul h.2 g.2 g.1 (by omega)
  have k0 : 0 ≤ mg a * mg b := Int.mul_nonneg h.1 g.1
  by_cases ca : a < 0 <;> by_cases cb : b < 0
  · have e : mg a * mg b = a * b := by simp [mg, ca, cb, Int.neg_mul, Int.mul_neg]
    omega
  · have e : mg a * mg b = -(a * b) := by simp [mg, ca, cb, Int.neg_mul]
    have k : mg a * mg b ≤ 2147483648 * 2147483647 := Int.mul_le_mul h.2 (by unfold mg; omega) g.1 (by omega)
    omega
  · have e : mg a * mg b = -(a * b) := by simp [mg, ca, cb, Int.mul_neg]
    have k : mg a * mg b ≤ 2147483647 * 2147483648 := Int.mul_le_mul (by unfold mg; omega) g.2 g.1 (by omega)
    omega
  · have e : mg a * mg b = a * b := by simp [mg, ca, cb]
    omega
theorem lo64_bd (p : Int) : 0 ≤ lo64 p ∧ lo64 p ≤ 18446744073709551615 := by unfold lo64; omega
theorem not64_bd {x : Int} (h : 0 ≤ x ∧ x ≤ 18446744073709551615) : 0 ≤ not64 x ∧ not64 x ≤ 18446744073709551615 := by unfold not64; omega
theorem not_u64 {x : Int} (h : 0 ≤ x ∧ x ≤ 18446744073709551615) : bits .xor .u64 IntKind.u64.max x = not64 x := by
  obtain ⟨n, rfl⟩ := Int.eq_ofNat_of_zero_le h.1
  have e : IntKind.u64.max = ((18446744073709551615 : Nat) : Int) := by decide
  rw [e, bits_xor_u64_nat _ n (by decide) (by omega)]
  have hn : n < 2 ^ 64 := by omega
  have := BitVec.toNat_not (x := BitVec.ofNat 64 n)
  have k : (BitVec.allOnes 64 ^^^ BitVec.ofNat 64 n).toNat = 2 ^ 64 - 1 - n := by
    rw [BitVec.allOnes_xor, this, BitVec.toNat_ofNat, Nat.mod_eq_of_lt hn]
  rw [BitVec.toNat_xor, BitVec.toNat_allOnes, BitVec.toNat_ofNat, Nat.mod_eq_of_lt hn] at k
  have k2 : 18446744073709551615 ^^^ n = 18446744073709551615 - n := k
  rw [k2]
  unfold not64
  omega

theorem wraps_u64 (n : Int) (h0 : 0 ≤ n) (h1 : n < 2 ^ 64) : IntKind.u64.wrap n = n := by rw [IntKind.wrap_u64]; omega
/-- The low half of a word. -/
theorem and_low {x : Int} (h0 : 0 ≤ x) (h1 : x ≤ 18446744073709551615) : bits .and .u64 x 4294967295 = x % 4294967296 :=
  bits_mask .u64 64 (by decide) wraps_u64 32 (by decide) x h0 (by omega)
/-- Two parts of a word joined. -/
theorem or_join (i : Nat) {x y : Int} (hx0 : 0 ≤ x) (hx : x % 2 ^ i = 0) (hx1 : x ≤ 18446744073709551615) (hy0 : 0 ≤ y) (hy : y < 2 ^ i) (hy1 : y ≤ 18446744073709551615) : bits .or .u64 x y = x + y :=
  bits_join .u64 64 (by decide) wraps_u64 i x y hx0 hx (by omega) hy0 hy (by omega)
theorem div_uniq {n d q r : Int} (h0 : 0 ≤ r) (h1 : r < d) (h : n = q * d + r) : n / d = q ∧ n % d = r := by
  subst h
  have hd : d ≠ 0 := by omega
  constructor
  · rw [Int.add_comm, Int.add_mul_ediv_right _ _ hd, Int.ediv_eq_zero_of_lt h0 h1, Int.zero_add]
  · rw [Int.add_comm, Int.add_mul_emod_self_right, Int.emod_eq_of_lt h0 h1]

theorem Drawn0.of_eq {w w' : World} (h : w = w') : Drawn0 w w' := h ▸ Drawn0.refl _
end Go.Proofs.Ytcbdcgghccjdpaa.Q

namespace Go.Proofs.Ytcbdcgghccjdpaa.Q
open Go.RowKit Go.Proofs.YtcbdcgghccjdpaaW.PrintWords Go.Proofs.YtcbdcgghccjdpaaW.PrintLast Go.Proofs.YtcbdcgghccjdpaaW.PrintMore
set_option linter.unusedVariables false

theorem sq_le {d m : Int} (h0 : -m ≤ d) (h1 : d ≤ m) : d * d ≤ m * m := by
  by_cases c : 0 ≤ d
  · exact sq_mono c h1
  · have := sq_mono (a := -d) (b := m) (by omega) (by omega)
    rwa [Int.neg_mul_neg] at this
theorem sq_nn (d : Int) : 0 ≤ d * d := by
  by_cases c : 0 ≤ d
  · exact Int.mul_nonneg c c
  · have := Int.mul_nonneg (a := -d) (b := -d) (by omega) (by omega)
    rwa [Int.neg_mul_neg] at this
theorem sq_lt_cancel {a b : Int} (hb : 0 ≤ b) (h : a * a < b * b) : -b < a ∧ a < b := by
  constructor
  · by_cases c : -b < a
    · exact c
    · have := sq_mono (a := b) (b := -a) hb (by omega)
      rw [Int.neg_mul_neg] at this
      omega
  · by_cases c : a < b
    · exact c
    · have := sq_mono (a := b) (b := a) hb (by omega)
      omega
theorem sq_le_cancel {a b : Int} (hb : 0 ≤ b) (h : a * a ≤ b * b) : -b ≤ a ∧ a ≤ b := by
  have := sq_lt_cancel (a := a) (b := b + 1) (by omega) (by have : (b + 1) * (b + 1) = b * b + 2 * b + 1 := by rw [Int.add_mul, Int.mul_add]; omega
                                                            omega)
  omega

theorem tdiv_floor (a b : Int) (hb : 0 < b) : (if Int.tmod a b < 0 then Int.tdiv a b - 1 else Int.tdiv a b) = a / b := by
  have h1 := Int.tdiv_eq_ediv (a := a) (b := b)
  have h2 := Int.tmod_eq_emod (a := a) (b := b)
  have h3 := Int.emod_nonneg a (show b ≠ 0 by omega)
  have h4 := Int.emod_lt_of_pos a hb
  rw [h1, h2]
  by_cases c : 0 ≤ a ∨ b ∣ a
  · rw [if_pos c, if_pos c, if_neg (by omega)]
    omega
  · rw [if_neg c, if_neg c, Int.sign_eq_one_of_pos hb, if_pos (by omega)]
    omega

theorem tdiv_bd (a b : Int) (hb : 0 < b) : mg (Int.tdiv a b) ≤ mg a := by
  have h : (Int.tdiv a b).natAbs ≤ a.natAbs := by rw [Int.natAbs_tdiv]; exact Nat.div_le_self _ _
  unfold mg
  split <;> split <;> omega

/-- The two floors of a quotient, with whatever wraps, in range. -/
theorem floor_wrap {a b : Int} (hb : 0 < b) (ha0 : -9223372036854775807 ≤ a) (ha1 : a ≤ 9223372036854775807) :
    (if b = 0 then (none : Option Int) else (if (Int.tmod a b) < 0 then (some (wrap64 ((wrap64 (Int.tdiv a b)) - 1))) else (some (wrap64 (Int.tdiv a b))))) = some (a / b) := by
  have h := tdiv_floor a b hb
  have hbd := tdiv_bd a b hb
  have hm : mg a ≤ 9223372036854775807 := by unfold mg; split <;> omega
  have hq : -9223372036854775807 ≤ Int.tdiv a b ∧ Int.tdiv a b ≤ 9223372036854775807 := by
    have : mg (Int.tdiv a b) ≤ 9223372036854775807 := by omega
    unfold mg at this
    split at this <;> omega
  rw [if_neg (by omega), w64_id (n := Int.tdiv a b) (by omega) (by omega)]
  · by_cases c : Int.tmod a b < 0
    · rw [if_pos c] at h ⊢
      rw [w64_id (by omega) (by omega), h]
    · rw [if_neg c] at h ⊢
      rw [h]

theorem prod_i32 {a b : Int} (ha : -2147483648 ≤ a ∧ a ≤ 2147483647) (hb : -2147483648 ≤ b ∧ b ≤ 2147483647) : wrap64 (wrap64 a * wrap64 b) = a * b := by
  have h := mul_i32 ha hb
  rw [w64_id (n := a) (by omega) (by omega), w64_id (n := b) (by omega) (by omega), w64_id (by omega) (by omega)]
theorem prod_i32' {a b : Int} (ha : -2147483648 < a ∧ a ≤ 2147483647) (hb : -2147483648 < b ∧ b ≤ 2147483647) : -4611686014132420609 ≤ a * b ∧ a * b ≤ 4611686014132420609 := by
  have h1 : mg a ≤ 2147483647 := by unfold mg; split <;> omega
  have h2 : mg b ≤ 2147483647 := by unfold mg; split <;> omega
  have h3 : 0 ≤ mg a := by unfold mg; split <;> omega
  have h4 : 0 ≤ mg b := by unfold mg; split <;> omega
  have k := Int.mul_le_mul h1 h2 h4 (by omega)
  have k0 : 0 ≤ mg a * mg b := Int.mul_nonneg h3 h4
  by_cases ca : a < 0 <;> by_cases cb : b < 0
  · have e : mg a * mg b = a * b := by simp [mg, ca, cb, Int.neg_mul, Int.mul_neg]
    omega
  · have e : mg a * mg b = -(a * b) := by simp [mg, ca, cb, Int.neg_mul]
    omega
  · have e : mg a * mg b = -(a * b) := by simp [mg, ca, cb, Int.mul_neg]
    omega
  · have e : mg a * mg b = a * b := by simp [mg, ca, cb]
    omega

theorem bits_i32 (x y : Int) : bits .and .i32 x y = IntKind.i32.wrap (((x % 4294967296).toNat &&& (y % 4294967296).toNat : Nat) : Int) := by
  show IntKind.i32.wrap ((BitVec.ofInt 32 x &&& BitVec.ofInt 32 y).toNat : Int) = _
  rw [BitVec.toNat_and, BitVec.toNat_ofInt, BitVec.toNat_ofInt]
  rfl
theorem and_frac {x : Int} : bits .and .i32 x 65535 = x % 65536 := by
  rw [bits_i32, show ((65535 : Int) % 4294967296).toNat = 2 ^ 16 - 1 from rfl, Nat.and_two_pow_sub_one_eq_mod, IntKind.wrap_i32]
  omega
end Go.Proofs.Ytcbdcgghccjdpaa.Q

namespace Go.Proofs.Ytcbdcgghccjdpaa.Q
open Go.RowKit Go.Proofs.YtcbdcgghccjdpaaW.PrintWords Go.Proofs.YtcbdcgghccjdpaaW.PrintLast Go.Proofs.YtcbdcgghccjdpaaW.PrintMore
set_option linter.unusedVariables false

/-- The floor of a quotient of a product, and the error. -/
def mulDivS (a b c : Int) : Int × Int := if c = 0 then (0, 2) else if i64B (fl (a * b) c) = true then (fl (a * b) c, 0) else (0, 3)
theorem div_parts {P C q r : Int} (hC : 0 < C) (hq : P / C = q) (hr : P % C = r) : P = q * C + r ∧ 0 ≤ r ∧ r < C := by
  have h1 := Int.emod_add_mul_ediv P C
  have h2 := Int.emod_nonneg P (show C ≠ 0 by omega)
  have h3 := Int.emod_lt_of_pos P hC
  rw [hq, hr] at h1
  rw [hr] at h2 h3
  exact ⟨by rw [Int.mul_comm q C]; omega, h2, h3⟩
theorem fl_neg {P C q r : Int} (hC : 0 < C) (hq : P / C = q) (hr : P % C = r) : (-P) / C = if r = 0 then -q else -(q + 1) := by
  obtain ⟨e, r0, r1⟩ := div_parts hC hq hr
  split
  · rename_i z
    exact (div_uniq (n := -P) (d := C) (q := -q) (r := 0) (by omega) hC (by rw [Int.neg_mul]; omega)).1
  · rename_i z
    exact (div_uniq (n := -P) (d := C) (q := -(q + 1)) (r := C - r) (by omega) (by omega) (by rw [Int.neg_mul, Int.add_mul]; omega)).1
/-- The floor by absolute values. -/
theorem fl_mg (a b c : Int) (hc : c ≠ 0) (pa pb pc : Bool) (hpa : decide (a < 0) = pa) (hpb : decide (b < 0) = pb) (hpc : decide (c < 0) = pc) :
    fl (a * b) c = if (!(!pa == pb) == pc) = true then (-(mg a * mg b)) / mg c else (mg a * mg b) / mg c := by
  subst hpa hpb hpc
  by_cases ca : a < 0 <;> by_cases cb : b < 0 <;> by_cases cc : c < 0 <;> simp [fl, mg, ca, cb, cc, Int.neg_mul, Int.mul_neg] <;> (intro h; exact absurd h (by omega))
/-- The floor, with a sign, of a quotient and a remainder. -/
def flS (p : Bool) (q r : Int) : Int := if p = true then (if r = 0 then -q else -(q + 1)) else q
end Go.Proofs.Ytcbdcgghccjdpaa.Q

namespace Go.Proofs.Ytcbdcgghccjdpaa.Q
open Go.RowKit Go.Proofs.YtcbdcgghccjdpaaW.PrintWords Go.Proofs.YtcbdcgghccjdpaaW.PrintLast Go.Proofs.YtcbdcgghccjdpaaW.PrintMore
set_option linter.unusedVariables false
/-- Two results in memory, in the blocks k and k + 1. -/
structure TwoV (w W : World) (k : Nat) (a0 a1 b0 b1 : Int) : Prop where
  below : Below w.heap.size w W
  base : w.heap.size ≤ k
  c0 : W.cell? ⟨k, 0, none⟩ = some (.int .i32 a0)
  c1 : W.cell? ⟨k, 1, none⟩ = some (.int .i32 a1)
  c2 : W.cell? ⟨k + 1, 0, none⟩ = some (.int .i32 b0)
  c3 : W.cell? ⟨k + 1, 1, none⟩ = some (.int .i32 b1)
  f0 : W.frozen? ⟨k, 0, none⟩ = false
  f1 : W.frozen? ⟨k, 1, none⟩ = false
  f2 : W.frozen? ⟨k + 1, 0, none⟩ = false
  f3 : W.frozen? ⟨k + 1, 1, none⟩ = false
theorem TwoV.stored {w W : World} {k : Nat} {a0 a1 b0 b1 : Int} (h : TwoV w W k a0 a1 b0 b1) (x0 x1 y0 y1 : Int) : TwoV w ((((W.setCell ⟨k, 0, none⟩ (.int .i32 x0)).setCell ⟨k, 1, none⟩ (.int .i32 x1)).setCell ⟨k + 1, 0, none⟩ (.int .i32 y0)).setCell ⟨k + 1, 1, none⟩ (.int .i32 y1)) k x0 x1 y0 y1 := by
  obtain ⟨h1, h2, c0, c1, c2, c3, f0, f1, f2, f3⟩ := h
  refine ⟨(((h1.setCell (by simpa using h2) _).setCell (by simpa using h2) _).setCell (by simp; omega) _).setCell (by simp; omega) _, h2, ?_, ?_, ?_, ?_, ?_, ?_, ?_, ?_⟩
  all_goals simp [go_sem, c0, c1, c2, c3, f0, f1, f2, f3]
theorem TwoV.drew {w W : World} {k : Nat} {a0 a1 b0 b1 : Int} (h : TwoV w W k a0 a1 b0 b1) : TwoV w W.drew k a0 a1 b0 b1 := ⟨h.below.drew, h.base, h.c0, h.c1, h.c2, h.c3, h.f0, h.f1, h.f2, h.f3⟩
theorem TwoV.fresh2 (w W : World) (t : Nat) (hW : Below w.heap.size w W) (a0 a1 b0 b1 : Int) : TwoV w ((W.alloc (.cells #[.int .i32 a0, .int .i32 a1] t)).alloc (.cells #[.int .i32 b0, .int .i32 b1] t)) W.heap.size a0 a1 b0 b1 := by
  have hs := hW.size
  refine ⟨below_alloc (below_alloc hW _) _, hs, ?_, ?_, ?_, ?_, ?_, ?_, ?_, ?_⟩
  all_goals simp [go_sem]
end Go.Proofs.Ytcbdcgghccjdpaa.Q

namespace Go.Proofs.Ytcbdcgghccjdpaa.Q
open Go.RowKit Go.Proofs.YtcbdcgghccjdpaaW.PrintWords Go.Proofs.YtcbdcgghccjdpaaW.PrintLast Go.Proofs.YtcbdcgghccjdpaaW.PrintMore
set_option linter.unusedVariables false
theorem there_of {W : World} {g n : Nat} {cs : Array Value} {t : TypeId} (h : W.heap[g]? = some (.cells cs t (0, 0))) (hs : cs.size = n) : W.there g 0 n := by
  intro j hj
  rw [Nat.zero_add]
  refine ⟨?_, blk_frozen h j⟩
  rw [blk_cell h j]
  simp
  omega
set_option maxHeartbeats 1000000 in
theorem exec_store5 {P : Program} {a : Act} {oi : Oper} {W : World} {g : Nat} {t T : TypeId} {x y : Operand} {cs : Array Value} {v0 v1 v2 v3 v4 : Value} (ho : oi.op = .store T x y) (hx : a.eval x = .pointer (some ⟨g, 0, none⟩)) (hy : a.eval y = .agg #[v0, v1, v2, v3, v4])
    (h : W.heap[g]? = some (.cells cs t (0, 0))) (hs : cs.size = 5) (hi : (P.info? T).map (·.size) = some 5) (h1 : List.all [v0, v1, v2, v3, v4] (fun v => v.oneCell') = true) : (execOp a.eval oi).run P W = .ok .skip (World.setCell (World.setCell (World.setCell (World.setCell (World.setCell W ⟨g, 0, none⟩ v0) ⟨g, 1, none⟩ v1) ⟨g, 2, none⟩ v2) ⟨g, 3, none⟩ v3) ⟨g, 4, none⟩ v4) := by
  have e : ((World.setCell (World.setCell (World.setCell (World.setCell (World.setCell W ⟨g, 0, none⟩ v0) ⟨g, 1, none⟩ v1) ⟨g, 2, none⟩ v2) ⟨g, 3, none⟩ v3) ⟨g, 4, none⟩ v4) : World) = W.setCells g 0 [v0, v1, v2, v3, v4] := rfl
  have hr := run_storeAt_mid (P := P) W g 0 T #[v0, v1, v2, v3, v4] (there_of h (by rw [hs]; rfl)) hi (by rw [List.all_toArray]; exact h1)
  rw [e]
  unfold execOp
  simp only [ho, hx, hy, hr, Sem.run_bind, Sem.run_pure, Result.andThen_ok]
set_option maxHeartbeats 1000000 in
theorem far5 {W : World} {g g' : Nat} {o : Option Obj} {v0 v1 v2 v3 v4 : Value} (h : W.heap[g]? = o) (hne : g ≠ g') : ((World.setCell (World.setCell (World.setCell (World.setCell (World.setCell W ⟨g', 0, none⟩ v0) ⟨g', 1, none⟩ v1) ⟨g', 2, none⟩ v2) ⟨g', 3, none⟩ v3) ⟨g', 4, none⟩ v4) : World).heap[g]? = o := by
  have e : ∀ (V : World) (i : Nat) (v : Value), (World.setCell V ⟨g', i, none⟩ v).heap[g]? = V.heap[g]? := fun V i v => Below.heap_setCell V ⟨g', i, none⟩ v g hne
  rw [e, e, e, e, e]
  exact h
set_option maxHeartbeats 1000000 in
theorem exec_store10 {P : Program} {a : Act} {oi : Oper} {W : World} {g : Nat} {t T : TypeId} {x y : Operand} {cs : Array Value} {v0 v1 v2 v3 v4 v5 v6 v7 v8 v9 : Value} (ho : oi.op = .store T x y) (hx : a.eval x = .pointer (some ⟨g, 0, none⟩)) (hy : a.eval y = .agg #[v0, v1, v2, v3, v4, v5, v6, v7, v8, v9])
    (h : W.heap[g]? = some (.cells cs t (0, 0))) (hs : cs.size = 10) (hi : (P.info? T).map (·.size) = some 10) (h1 : List.all [v0, v1, v2, v3, v4, v5, v6, v7, v8, v9] (fun v => v.oneCell') = true) : (execOp a.eval oi).run P W = .ok .skip (World.setCell (World.setCell (World.setCell (World.setCell (World.setCell (World.setCell (World.setCell (World.setCell (World.setCell (World.setCell W ⟨g, 0, none⟩ v0) ⟨g, 1, none⟩ v1) ⟨g, 2, none⟩ v2) ⟨g, 3, none⟩ v3) ⟨g, 4, none⟩ v4) ⟨g, 5, none⟩ v5) ⟨g, 6, none⟩ v6) ⟨g, 7, none⟩ v7) ⟨g, 8, none⟩ v8) ⟨g, 9, none⟩ v9) := by
  have e : ((World.setCell (World.setCell (World.setCell (World.setCell (World.setCell (World.setCell (World.setCell (World.setCell (World.setCell (World.setCell W ⟨g, 0, none⟩ v0) ⟨g, 1, none⟩ v1) ⟨g, 2, none⟩ v2) ⟨g, 3, none⟩ v3) ⟨g, 4, none⟩ v4) ⟨g, 5, none⟩ v5) ⟨g, 6, none⟩ v6) ⟨g, 7, none⟩ v7) ⟨g, 8, none⟩ v8) ⟨g, 9, none⟩ v9) : World) = W.setCells g 0 [v0, v1, v2, v3, v4, v5, v6, v7, v8, v9] := rfl
  have hr := run_storeAt_mid (P := P) W g 0 T #[v0, v1, v2, v3, v4, v5, v6, v7, v8, v9] (there_of h (by rw [hs]; rfl)) hi (by rw [List.all_toArray]; exact h1)
  rw [e]
  unfold execOp
  simp only [ho, hx, hy, hr, Sem.run_bind, Sem.run_pure, Result.andThen_ok]
set_option maxHeartbeats 1000000 in
theorem far10 {W : World} {g g' : Nat} {o : Option Obj} {v0 v1 v2 v3 v4 v5 v6 v7 v8 v9 : Value} (h : W.heap[g]? = o) (hne : g ≠ g') : ((World.setCell (World.setCell (World.setCell (World.setCell (World.setCell (World.setCell (World.setCell (World.setCell (World.setCell (World.setCell W ⟨g', 0, none⟩ v0) ⟨g', 1, none⟩ v1) ⟨g', 2, none⟩ v2) ⟨g', 3, none⟩ v3) ⟨g', 4, none⟩ v4) ⟨g', 5, none⟩ v5) ⟨g', 6, none⟩ v6) ⟨g', 7, none⟩ v7) ⟨g', 8, none⟩ v8) ⟨g', 9, none⟩ v9) : World).heap[g]? = o := by
  have e : ∀ (V : World) (i : Nat) (v : Value), (World.setCell V ⟨g', i, none⟩ v).heap[g]? = V.heap[g]? := fun V i v => Below.heap_setCell V ⟨g', i, none⟩ v g hne
  rw [e, e, e, e, e, e, e, e, e, e]
  exact h
set_option maxHeartbeats 1000000 in
theorem exec_store14 {P : Program} {a : Act} {oi : Oper} {W : World} {g : Nat} {t T : TypeId} {x y : Operand} {cs : Array Value} {v0 v1 v2 v3 v4 v5 v6 v7 v8 v9 v10 v11 v12 v13 : Value} (ho : oi.op = .store T x y) (hx : a.eval x = .pointer (some ⟨g, 0, none⟩)) (hy : a.eval y = .agg #[v0, v1, v2, v3, v4, v5, v6, v7, v8, v9, v10, v11, v12, v13])
    (h : W.heap[g]? = some (.cells cs t (0, 0))) (hs : cs.size = 14) (hi : (P.info? T).map (·.size) = some 14) (h1 : List.all [v0, v1, v2, v3, v4, v5, v6, v7, v8, v9, v10, v11, v12, v13] (fun v => v.oneCell') = true) : (execOp a.eval oi).run P W = .ok .skip (World.setCell (World.setCell (World.setCell (World.setCell (World.setCell (World.setCell (World.setCell (World.setCell (World.setCell (World.setCell (World.setCell (World.setCell (World.setCell (World.setCell W ⟨g, 0, none⟩ v0) ⟨g, 1, none⟩ v1) ⟨g, 2, none⟩ v2) ⟨g, 3, none⟩ v3) ⟨g, 4, none⟩ v4) ⟨g, 5, none⟩ v5) ⟨g, 6, none⟩ v6) ⟨g, 7, none⟩ v7) ⟨g, 8, none⟩ v8) ⟨g, 9, none⟩ v9) ⟨g, 10, none⟩ v10) ⟨g, 11, none⟩ v11) ⟨g, 12, none⟩ v12) ⟨g, 13, none⟩ v13) := by
  have e : ((World.setCell (World.setCell (World.setCell (World.setCell (World.setCell (World.setCell (World.setCell (World.setCell (World.setCell (World.setCell (World.setCell (World.setCell (World.setCell (World.setCell W ⟨g, 0, none⟩ v0) ⟨g, 1, none⟩ v1) ⟨g, 2, none⟩ v2) ⟨g, 3, none⟩ v3) ⟨g, 4, none⟩ v4) ⟨g, 5, none⟩ v5) ⟨g, 6, none⟩ v6) ⟨g, 7, none⟩ v7) ⟨g, 8, none⟩ v8) ⟨g, 9, none⟩ v9) ⟨g, 10, none⟩ v10) ⟨g, 11, none⟩ v11) ⟨g, 12, none⟩ v12) ⟨g, 13, none⟩ v13) : World) = W.setCells g 0 [v0, v1, v2, v3, v4, v5, v6, v7, v8, v9, v10, v11, v12, v13] := rfl
  have hr := run_storeAt_mid (P := P) W g 0 T #[v0, v1, v2, v3, v4, v5, v6, v7, v8, v9, v10, v11, v12, v13] (there_of h (by rw [hs]; rfl)) hi (by rw [List.all_toArray]; exact h1)
  rw [e]
  unfold execOp
  simp only [ho, hx, hy, hr, Sem.run_bind, Sem.run_pure, Result.andThen_ok]
set_option maxHeartbeats 1000000 in
theorem far14 {W : World} {g g' : Nat} {o : Option Obj} {v0 v1 v2 v3 v4 v5 v6 v7 v8 v9 v10 v11 v12 v13 : Value} (h : W.heap[g]? = o) (hne : g ≠ g') : ((World.setCell (World.setCell (World.setCell (World.setCell (World.setCell (World.setCell (World.setCell (World.setCell (World.setCell (World.setCell (World.setCell (World.setCell (World.setCell (World.setCell W ⟨g', 0, none⟩ v0) ⟨g', 1, none⟩ v1) ⟨g', 2, none⟩ v2) ⟨g', 3, none⟩ v3) ⟨g', 4, none⟩ v4) ⟨g', 5, none⟩ v5) ⟨g', 6, none⟩ v6) ⟨g', 7, none⟩ v7) ⟨g', 8, none⟩ v8) ⟨g', 9, none⟩ v9) ⟨g', 10, none⟩ v10) ⟨g', 11, none⟩ v11) ⟨g', 12, none⟩ v12) ⟨g', 13, none⟩ v13) : World).heap[g]? = o := by
  have e : ∀ (V : World) (i : Nat) (v : Value), (World.setCell V ⟨g', i, none⟩ v).heap[g]? = V.heap[g]? := fun V i v => Below.heap_setCell V ⟨g', i, none⟩ v g hne
  rw [e, e, e, e, e, e, e, e, e, e, e, e, e, e]
  exact h
theorem skip_store5 {P : Program} {ops : Array Oper} {Q : Exit → Act → World → Prop} {oi : Oper} {a : Act} {w : World} {K : Act → World → Prop} {g : Nat} {t T : TypeId} {x y : Operand} {cs : Array Value} {v0 v1 v2 v3 v4 : Value} (hw : Region.wanted oi (yielded ops a.tmps) = true) (hN : oi.dst = none) (ho : oi.op = .store T x y) (hx : a.eval x = .pointer (some ⟨g, 0, none⟩)) (hy : a.eval y = .agg #[v0, v1, v2, v3, v4])
    (h : w.heap[g]? = some (.cells cs t (0, 0))) (hs : cs.size = 5) (hi : (P.info? T).map (·.size) = some 5) (h1 : List.all [v0, v1, v2, v3, v4] (fun v => v.oneCell') = true) (hK : K a (World.setCell (World.setCell (World.setCell (World.setCell (World.setCell w ⟨g, 0, none⟩ v0) ⟨g, 1, none⟩ v1) ⟨g, 2, none⟩ v2) ⟨g, 3, none⟩ v3) ⟨g, 4, none⟩ v4)) :
    if Region.wanted oi (yielded ops a.tmps) = true then Oper.wp P oi a w K Q else K (a.put none undef) w := skip_ hw hN (exec_store5 ho hx hy h hs hi h1) hK
theorem skip_store10 {P : Program} {ops : Array Oper} {Q : Exit → Act → World → Prop} {oi : Oper} {a : Act} {w : World} {K : Act → World → Prop} {g : Nat} {t T : TypeId} {x y : Operand} {cs : Array Value} {v0 v1 v2 v3 v4 v5 v6 v7 v8 v9 : Value} (hw : Region.wanted oi (yielded ops a.tmps) = true) (hN : oi.dst = none) (ho : oi.op = .store T x y) (hx : a.eval x = .pointer (some ⟨g, 0, none⟩)) (hy : a.eval y = .agg #[v0, v1, v2, v3, v4, v5, v6, v7, v8, v9])
    (h : w.heap[g]? = some (.cells cs t (0, 0))) (hs : cs.size = 10) (hi : (P.info? T).map (·.size) = some 10) (h1 : List.all [v0, v1, v2, v3, v4, v5, v6, v7, v8, v9] (fun v => v.oneCell') = true) (hK : K a (World.setCell (World.setCell (World.setCell (World.setCell (World.setCell (World.setCell (World.setCell (World.setCell (World.setCell (World.setCell w ⟨g, 0, none⟩ v0) ⟨g, 1, none⟩ v1) ⟨g, 2, none⟩ v2) ⟨g, 3, none⟩ v3) ⟨g, 4, none⟩ v4) ⟨g, 5, none⟩ v5) ⟨g, 6, none⟩ v6) ⟨g, 7, none⟩ v7) ⟨g, 8, none⟩ v8) ⟨g, 9, none⟩ v9)) :
    if Region.wanted oi (yielded ops a.tmps) = true then Oper.wp P oi a w K Q else K (a.put none undef) w := skip_ hw hN (exec_store10 ho hx hy h hs hi h1) hK
theorem skip_store14 {P : Program} {ops : Array Oper} {Q : Exit → Act → World → Prop} {oi : Oper} {a : Act} {w : World} {K : Act → World → Prop} {g : Nat} {t T : TypeId} {x y : Operand} {cs : Array Value} {v0 v1 v2 v3 v4 v5 v6 v7 v8 v9 v10 v11 v12 v13 : Value} (hw : Region.wanted oi (yielded ops a.tmps) = true) (hN : oi.dst = none) (ho : oi.op = .store T x y) (hx : a.eval x = .pointer (some ⟨g, 0, none⟩)) (hy : a.eval y = .agg #[v0, v1, v2, v3, v4, v5, v6, v7, v8, v9, v10, v11, v12, v13])
    (h : w.heap[g]? = some (.cells cs t (0, 0))) (hs : cs.size = 14) (hi : (P.info? T).map (·.size) = some 14) (h1 : List.all [v0, v1, v2, v3, v4, v5, v6, v7, v8, v9, v10, v11, v12, v13] (fun v => v.oneCell') = true) (hK : K a (World.setCell (World.setCell (World.setCell (World.setCell (World.setCell (World.setCell (World.setCell (World.setCell (World.setCell (World.setCell (World.setCell (World.setCell (World.setCell (World.setCell w ⟨g, 0, none⟩ v0) ⟨g, 1, none⟩ v1) ⟨g, 2, none⟩ v2) ⟨g, 3, none⟩ v3) ⟨g, 4, none⟩ v4) ⟨g, 5, none⟩ v5) ⟨g, 6, none⟩ v6) ⟨g, 7, none⟩ v7) ⟨g, 8, none⟩ v8) ⟨g, 9, none⟩ v9) ⟨g, 10, none⟩ v10) ⟨g, 11, none⟩ v11) ⟨g, 12, none⟩ v12) ⟨g, 13, none⟩ v13)) :
    if Region.wanted oi (yielded ops a.tmps) = true then Oper.wp P oi a w K Q else K (a.put none undef) w := skip_ hw hN (exec_store14 ho hx hy h hs hi h1) hK
set_option maxHeartbeats 1000000 in
theorem fc5 {W : World} {g : Nat} {a : Addr} {x : Option Value} {v0 v1 v2 v3 v4 : Value} (hne : a.block ≠ g) (h : W.cell? a = x) : ((World.setCell (World.setCell (World.setCell (World.setCell (World.setCell W ⟨g, 0, none⟩ v0) ⟨g, 1, none⟩ v1) ⟨g, 2, none⟩ v2) ⟨g, 3, none⟩ v3) ⟨g, 4, none⟩ v4) : World).cell? a = x := by
  have e : ∀ (V : World) (i : Nat) (v : Value), (World.setCell V ⟨g, i, none⟩ v).cell? a = V.cell? a := fun V i v => cell_far (p := ⟨g, i, none⟩) hne v
  rw [e, e, e, e, e]
  exact h
set_option maxHeartbeats 1000000 in
theorem fc10 {W : World} {g : Nat} {a : Addr} {x : Option Value} {v0 v1 v2 v3 v4 v5 v6 v7 v8 v9 : Value} (hne : a.block ≠ g) (h : W.cell? a = x) : ((World.setCell (World.setCell (World.setCell (World.setCell (World.setCell (World.setCell (World.setCell (World.setCell (World.setCell (World.setCell W ⟨g, 0, none⟩ v0) ⟨g, 1, none⟩ v1) ⟨g, 2, none⟩ v2) ⟨g, 3, none⟩ v3) ⟨g, 4, none⟩ v4) ⟨g, 5, none⟩ v5) ⟨g, 6, none⟩ v6) ⟨g, 7, none⟩ v7) ⟨g, 8, none⟩ v8) ⟨g, 9, none⟩ v9) : World).cell? a = x := by
  have e : ∀ (V : World) (i : Nat) (v : Value), (World.setCell V ⟨g, i, none⟩ v).cell? a = V.cell? a := fun V i v => cell_far (p := ⟨g, i, none⟩) hne v
  rw [e, e, e, e, e, e, e, e, e, e]
  exact h
set_option maxHeartbeats 1000000 in
theorem fc14 {W : World} {g : Nat} {a : Addr} {x : Option Value} {v0 v1 v2 v3 v4 v5 v6 v7 v8 v9 v10 v11 v12 v13 : Value} (hne : a.block ≠ g) (h : W.cell? a = x) : ((World.setCell (World.setCell (World.setCell (World.setCell (World.setCell (World.setCell (World.setCell (World.setCell (World.setCell (World.setCell (World.setCell (World.setCell (World.setCell (World.setCell W ⟨g, 0, none⟩ v0) ⟨g, 1, none⟩ v1) ⟨g, 2, none⟩ v2) ⟨g, 3, none⟩ v3) ⟨g, 4, none⟩ v4) ⟨g, 5, none⟩ v5) ⟨g, 6, none⟩ v6) ⟨g, 7, none⟩ v7) ⟨g, 8, none⟩ v8) ⟨g, 9, none⟩ v9) ⟨g, 10, none⟩ v10) ⟨g, 11, none⟩ v11) ⟨g, 12, none⟩ v12) ⟨g, 13, none⟩ v13) : World).cell? a = x := by
  have e : ∀ (V : World) (i : Nat) (v : Value), (World.setCell V ⟨g, i, none⟩ v).cell? a = V.cell? a := fun V i v => cell_far (p := ⟨g, i, none⟩) hne v
  rw [e, e, e, e, e, e, e, e, e, e, e, e, e, e]
  exact h
end Go.Proofs.Ytcbdcgghccjdpaa.Q
