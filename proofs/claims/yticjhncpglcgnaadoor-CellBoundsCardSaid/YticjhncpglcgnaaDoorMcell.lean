/- Columns, cells, buckets: what the program and the reference return, in plain words. -/
import Derived.Test.YticjhncpglcgnaaDoorQcellA
import Derived.Test.YticjhncpglcgnaaDoorQcell
import Derived.Test.YticjhncpglcgnaaDoorQbilliardlaw09
import Derived.Test.YticjhncpglcgnaaDoorQbilliardref09
import Derived.Test.YticjhncpglcgnaaDoorMbox
import Derived.Test.YticjhncpglcgnaaDoorMspec
import Derived.Test.YticjhncpglcgnaaDoorMnum
import Derived.Laws.BitsLemmas
namespace Go.Proofs.YticjhncpglcgnaaDoor.Q
open Go.RowKit Go.Proofs.YticjhncpglcgnaaDoorW.PrintWords Go.Proofs.YticjhncpglcgnaaDoorW.PrintLast Go.Proofs.YticjhncpglcgnaaDoorW.PrintMore
set_option linter.unusedVariables false
set_option linter.unusedSimpArgs false
abbrev C29 := S29
abbrev C26 := S26
theorem Column.is {n : Int} (h : -2147483648 ≤ n ∧ n ≤ 2147483647) : billiardref09_Column.f n = some (n / 4194304) := by
  unfold billiardref09_Column.f billiardref01_Floor.f
  rw [w64_id (by omega) (by omega), floor_wrap (by omega) (by omega) (by omega), Option.bind_some, w32_id (by omega) (by omega)]
theorem awake_k (k : Nat) : billiardlaw09_awake.f (300 + k) = some true := at_rounds billiardlaw09_awake.mono (Nat.le_add_right 300 k) (by decide +kernel)
theorem mem_rowC {lx y : Int} {c : Nat} {z : C29} : z ∈ rowC lx y c ↔ (lx ≤ z.f0 ∧ z.f0 < lx + c) ∧ z.f1 = y := by
  unfold rowC
  rw [List.mem_map]
  constructor
  · rintro ⟨i, hi, rfl⟩
    have := List.mem_range.mp hi
    exact ⟨by simp only; omega, rfl⟩
  · rintro ⟨⟨h1, h2⟩, h3⟩
    refine ⟨(z.f0 - lx).toNat, List.mem_range.mpr (by omega), ?_⟩
    obtain ⟨a, b⟩ := z
    simp only at h1 h2 h3 ⊢
    subst h3
    congr 1
    omega
theorem mem_cellsC {lx ly : Int} {nx m : Nat} {z : C29} : z ∈ cellsC lx ly nx m ↔ (lx ≤ z.f0 ∧ z.f0 < lx + nx) ∧ (ly ≤ z.f1 ∧ z.f1 < ly + m) := by
  unfold cellsC
  rw [List.mem_flatMap]
  constructor
  · rintro ⟨j, hj, hz⟩
    have := List.mem_range.mp hj
    have := mem_rowC.mp hz
    exact ⟨this.1, by omega⟩
  · rintro ⟨h1, h2⟩
    exact ⟨(z.f1 - ly).toNat, List.mem_range.mpr (by omega), mem_rowC.mpr ⟨h1, by omega⟩⟩
/-- The cells of a box that is not empty. -/
def boxC (a b c d : Int) : List C29 := cellsC (a / 4194304) (b / 4194304) (c / 4194304 + 1 - a / 4194304).toNat (d / 4194304 + 1 - b / 4194304).toNat
theorem cell_All.is {a b c d : Int} (ha : -2147483648 ≤ a ∧ a ≤ 2147483647) (hb : -2147483648 ≤ b ∧ b ≤ 2147483647) (hc : -2147483648 ≤ c ∧ c ≤ 2147483647) (hd : -2147483648 ≤ d ∧ d ≤ 2147483647) :
    cell_All.f a b c d = some (if emptyB a b c d = true then [] else boxC a b c d) := by
  unfold cell_All.f
  rw [if_pos ⟨i32B_iff.mpr ha, i32B_iff.mpr hb, i32B_iff.mpr hc, i32B_iff.mpr hd⟩]
  by_cases h : a > c ∨ b > d
  · rw [if_pos h, if_pos (emptyB_iff.mpr h)]
  · rw [if_neg h, if_neg (by rw [emptyB_iff]; exact h)]
    rfl
theorem mem_boxC {a b c d : Int} (h1 : a ≤ c) (h2 : b ≤ d) {z : C29} : z ∈ boxC a b c d ↔ (a / 4194304 ≤ z.f0 ∧ z.f0 ≤ c / 4194304) ∧ (b / 4194304 ≤ z.f1 ∧ z.f1 ≤ d / 4194304) := by
  unfold boxC
  rw [mem_cellsC]
  omega
theorem boxC_len {a b c d : Int} : (boxC a b c d).length = (d / 4194304 + 1 - b / 4194304).toNat * (c / 4194304 + 1 - a / 4194304).toNat := cellsC_len ..
theorem rd_of_lt {xs : List C29} {i : Nat} (h : i < xs.length) : rd_T29 xs (i : Int) = xs[i] := by
  unfold rd_T29
  simp [List.getD, h]
theorem c29_ext {x y : C29} : (x.f0 == y.f0 && (x.f1 == y.f1)) = true ↔ x = y := by
  obtain ⟨a, b⟩ := x
  obtain ⟨c, d⟩ := y
  simp
/-! The bucket: both by the exclusive or of two numbers below 2^32. -/
theorem bits_xor32 (a b : Nat) (ha : a < 2 ^ 32) (hb : b < 2 ^ 32) : bits .xor .u32 a b = ((a ^^^ b : Nat) : Int) := by
  have ha' : a % 2 ^ IntKind.u32.bits = a := Nat.mod_eq_of_lt ha
  have hb' : b % 2 ^ IntKind.u32.bits = b := Nat.mod_eq_of_lt hb
  have hx := Nat.xor_lt_two_pow ha hb
  simp only [bits, BitVec.ofInt_natCast, BitVec.toNat_xor, BitVec.toNat_ofNat, ha', hb']
  rw [IntKind.wrap_u32]
  omega
theorem bits_and1023 (n : Nat) (hn : n < 2 ^ 32) : bits .and .u32 n 1023 = ((n % 1024 : Nat) : Int) := by
  have h := bits_mask .u32 32 (by decide) (fun n h0 h1 => by rw [IntKind.wrap_u32]; omega) 10 (by decide) (n : Int) (by omega) (by exact_mod_cast hn)
  have e : ((2 : Int) ^ 10 - 1) = 1023 := by decide
  rw [e] at h
  rw [h]
  simp
def fac (a b : Int) : Nat × Nat := ((a % 4294967296 * 73856093 % 4294967296).toNat, (b % 4294967296 * 19349663 % 4294967296).toNat)
theorem fac1 (a b : Int) : a % 4294967296 * 73856093 % 4294967296 = ((fac a b).1 : Int) := (Int.toNat_of_nonneg (Int.emod_nonneg _ (by decide))).symm
theorem fac2 (a b : Int) : b % 4294967296 * 19349663 % 4294967296 = ((fac a b).2 : Int) := (Int.toNat_of_nonneg (Int.emod_nonneg _ (by decide))).symm
theorem fac_lt (a b : Int) : (fac a b).1 < 2 ^ 32 ∧ (fac a b).2 < 2 ^ 32 := by
  have k1 := Int.emod_lt_of_pos (a % 4294967296 * 73856093) (show (0 : Int) < 4294967296 by decide)
  have k2 := Int.emod_lt_of_pos (b % 4294967296 * 19349663) (show (0 : Int) < 4294967296 by decide)
  rw [fac1 a b] at k1
  rw [fac2 a b] at k2
  constructor <;> omega
theorem cell_Bucket.is (a b : Int) : cell_Bucket.f a b = some ((((fac a b).1 ^^^ (fac a b).2) % 1024 : Nat) : Int) := by
  unfold cell_Bucket.f
  have h1 := fac1 a b
  have h2 := fac2 a b
  have l1 := (fac_lt a b).1
  have l2 := (fac_lt a b).2
  rw [h1, h2, bits_xor32 _ _ l1 l2, bits_and1023 _ (Nat.xor_lt_two_pow l1 l2)]
  generalize (fac a b).1 ^^^ (fac a b).2 = n
  rw [w64_id (by omega) (by omega)]
theorem bit_step (x y i : Nat) : (x ^^^ y) % 2 ^ (i + 1) = (x ^^^ y) % 2 ^ i + (if x / 2 ^ i % 2 = y / 2 ^ i % 2 then 0 else 2 ^ i) := by
  rw [Nat.mod_pow_succ]
  have h := Nat.testBit_xor x y i
  rw [Nat.testBit_eq_decide_div_mod_eq, Nat.testBit_eq_decide_div_mod_eq, Nat.testBit_eq_decide_div_mod_eq] at h
  have b0 : (x ^^^ y) / 2 ^ i % 2 < 2 := Nat.mod_lt _ (by decide)
  have b1 : x / 2 ^ i % 2 < 2 := Nat.mod_lt _ (by decide)
  have b2 : y / 2 ^ i % 2 < 2 := Nat.mod_lt _ (by decide)
  generalize (x ^^^ y) / 2 ^ i % 2 = n at *
  generalize x / 2 ^ i % 2 = p at *
  generalize y / 2 ^ i % 2 = q at *
  have hn : n = 0 ∨ n = 1 := by omega
  have hp : p = 0 ∨ p = 1 := by omega
  have hq : q = 0 ∨ q = 1 := by omega
  rcases hn with rfl | rfl <;> rcases hp with rfl | rfl <;> rcases hq with rfl | rfl <;> simp_all
theorem xor_loop (x y : Nat) (hx : x < 4294967296) (hy : y < 4294967296) (hxy : (x ^^^ y) < 4294967296) (d : Nat) : ∀ i : Nat, i + d = 32 → ∀ b : Int, (i < 32 → b = ((2 ^ i : Nat) : Int)) → ∀ k,
    billiardref09_xor.l0 (k + d + 1) (x : Int) (y : Int) (((x ^^^ y) % 2 ^ i : Nat) : Int) b (i : Int) = some ((x ^^^ y : Nat) : Int) := by
  induction d with
  | zero =>
    intro i hi b hb k
    have hm : (x ^^^ y) % 2 ^ i = x ^^^ y := by
      rw [show i = 32 by omega]
      exact Nat.mod_eq_of_lt hxy
    simp only [billiardref09_xor.l0]
    rw [if_neg (by omega), hm]
  | succ d ih =>
    intro i hi b hb k
    have hi32 : i < 32 := by omega
    have hi64 : (i : Int) < 32 := by omega
    have wi : wrap64 ((i : Int) + 1) = ((i + 1 : Nat) : Int) := by rw [w64_id (by omega) (by omega)]; omega
    have hi1 : i + 1 + d = 32 := by omega
    have hkd : k + (d + 1) + 1 = (k + d + 1) + 1 := by omega
    obtain rfl := hb hi32
    have hp : 0 < 2 ^ i := Nat.two_pow_pos i
    have hle : 2 ^ i ≤ 2147483648 := Nat.pow_le_pow_right (n := 2) (by decide) (show i ≤ 31 by omega)
    have hs := bit_step x y i
    have hm : (x ^^^ y) % 2 ^ i < 2 ^ i := Nat.mod_lt _ hp
    have hle2 : i + 1 < 32 → 2 ^ (i + 1) ≤ 2147483648 := fun h => Nat.pow_le_pow_right (n := 2) (by decide) (show i + 1 ≤ 31 by omega)
    have e2 : 2 ^ (i + 1) = 2 * 2 ^ i := by rw [Nat.pow_succ, Nat.mul_comm]
    have hdx : x / 2 ^ i ≤ x := Nat.div_le_self _ _
    have hdy : y / 2 ^ i ≤ y := Nat.div_le_self _ _
    have tx : Int.tdiv (x : Int) ((2 ^ i : Nat) : Int) = ((x / 2 ^ i : Nat) : Int) := rfl
    have ty : Int.tdiv (y : Int) ((2 ^ i : Nat) : Int) = ((y / 2 ^ i : Nat) : Int) := rfl
    have nb : i + 1 < 32 → (2 * ((2 ^ i : Nat) : Int)) % 4294967296 = ((2 ^ (i + 1) : Nat) : Int) := fun h => by
      have := hle2 h
      generalize 2 ^ (i + 1) = P at *
      generalize 2 ^ i = Q at *
      omega
    have hq : ¬ (((2 ^ i : Nat) : Int) = 0) := by
      generalize 2 ^ i = Q at hp
      omega
    have ih := ih (i + 1) hi1 ((2 * ((2 ^ i : Nat) : Int)) % 4294967296) nb k
    rw [hkd]
    simp only [billiardref09_xor.l0]
    rw [if_pos hi64, if_neg hq, tx, ty, wi]
    clear nb hle2 e2 tx ty hb hi64 wi hi1 hkd hq hi
    generalize (x ^^^ y) % 2 ^ (i + 1) = A at *
    generalize (x ^^^ y) % 2 ^ i = B at *
    generalize x / 2 ^ i = X at *
    generalize y / 2 ^ i = Y at *
    generalize 2 ^ i = Q at *
    by_cases c : X % 2 = Y % 2
    · rw [if_pos (show (X : Int) % 4294967296 % 2 = (Y : Int) % 4294967296 % 2 by omega)]
      rw [if_pos c] at hs
      obtain rfl : A = B := by omega
      exact ih
    · rw [if_neg (show ¬ ((X : Int) % 4294967296 % 2 = (Y : Int) % 4294967296 % 2) by omega)]
      rw [if_neg c] at hs
      rw [show ((B : Int) + (Q : Int)) % 4294967296 = (A : Int) by omega]
      exact ih
theorem billiardref09_Bucket.is (a b : Int) (k : Nat) : billiardref09_Bucket.f (k + 33) a b = some ((((fac a b).1 ^^^ (fac a b).2) % 1024 : Nat) : Int) := by
  have h1 := fac1 a b
  have h2 := fac2 a b
  have l1 := (fac_lt a b).1
  have l2 := (fac_lt a b).2
  have e := xor_loop (fac a b).1 (fac a b).2 (by omega) (by omega) (by have := Nat.xor_lt_two_pow l1 l2; omega) 32 0 (by omega) 1 (fun _ => by simp) k
  rw [Nat.pow_zero, Nat.mod_one] at e
  simp only [Int.natCast_zero] at e
  unfold billiardref09_Bucket.f billiardref09_xor.f
  rw [h1, h2, show k + 33 = k + 32 + 1 by omega]
  rw [e, Option.bind_some]
  have t : Int.tmod (((fac a b).1 ^^^ (fac a b).2 : Nat) : Int) 1024 = ((((fac a b).1 ^^^ (fac a b).2) % 1024 : Nat) : Int) := rfl
  rw [t]
  generalize (fac a b).1 ^^^ (fac a b).2 = n
  rw [w64_id (by omega) (by omega)]
end Go.Proofs.YticjhncpglcgnaaDoor.Q
