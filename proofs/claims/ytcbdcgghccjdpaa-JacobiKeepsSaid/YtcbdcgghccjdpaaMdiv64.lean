/- bits.Div64 answers quotient and remainder (Knuth's division of two words by one). -/
import Derived.Test.YtcbdcgghccjdpaaQbits
import Derived.Test.YtcbdcgghccjdpaaMspec
import Derived.Lib.ItoaNum
namespace Go.Proofs.Ytcbdcgghccjdpaa.Q
open Go.RowKit Go.Proofs.YtcbdcgghccjdpaaW.PrintWords Go.Proofs.YtcbdcgghccjdpaaW.PrintLast Go.Proofs.YtcbdcgghccjdpaaW.PrintMore
set_option linter.unusedVariables false

/-- One digit is found: q and r as they stand at the loop's head; Q the digit, v the divisor, u the dividend's head, d its next digit. -/
structure DivAt (v v1 v0 u d Q q r : Int) : Prop where
  hv : v = v1 * 4294967296 + v0
  v1lo : 2147483648 ≤ v1
  v1hi : v1 < 4294967296
  v0lo : 0 ≤ v0
  v0hi : v0 < 4294967296
  d0 : 0 ≤ d
  d1 : d < 4294967296
  Q0 : 0 ≤ Q
  Q1 : Q < 4294967296
  low : Q * v ≤ u * 4294967296 + d
  up : u * 4294967296 + d < (Q + 1) * v
  qr : q * v1 + r = u
  r0 : 0 ≤ r
  Qq : Q ≤ q
  q1 : q ≤ 4294967297

theorem DivAt.test {v v1 v0 u d Q q r : Int} (h : DivAt v v1 v0 u d Q q r) (hq : q < 4294967296) : (q * v0 > 4294967296 * r + d ↔ Q < q) := by
  obtain ⟨hv, _, _, v0lo, _, _, _, Q0, _, low, up, qr, r0, Qq, _⟩ := h
  have e : q * v = q * v1 * 4294967296 + q * v0 := by rw [hv, Int.mul_add, Int.mul_assoc]
  have hvpos : 0 ≤ v := by omega
  constructor
  · intro c
    by_cases k : Q < q
    · exact k
    · have : q * v ≤ Q * v := Int.mul_le_mul_of_nonneg_right (by omega) hvpos
      omega
  · intro c
    have : (Q + 1) * v ≤ q * v := Int.mul_le_mul_of_nonneg_right (by omega) hvpos
    omega

theorem DivAt.next {v v1 v0 u d Q q r : Int} (h : DivAt v v1 v0 u d Q q r) (c : Q < q) : DivAt v v1 v0 u d Q (q - 1) (r + v1) := by
  obtain ⟨hv, a1, a2, a3, a4, a5, a6, a7, a8, low, up, qr, r0, Qq, q1⟩ := h
  exact ⟨hv, a1, a2, a3, a4, a5, a6, a7, a8, low, up, by rw [Int.sub_mul]; omega, by omega, by omega, by omega⟩

theorem DivAt.last {v v1 v0 u d Q q r : Int} (h : DivAt v v1 v0 u d Q q r) (hq : q ≤ 4294967296) (c : 4294967296 ≤ r) : q = Q := by
  obtain ⟨hv, a1, a2, a3, a4, a5, a6, a7, a8, low, up, qr, r0, Qq, q1⟩ := h
  have e : q * v = q * v1 * 4294967296 + q * v0 := by rw [hv, Int.mul_add, Int.mul_assoc]
  have hvpos : 0 ≤ v := by omega
  by_cases k : q = Q
  · exact k
  · have h1 : (Q + 1) * v ≤ q * v := Int.mul_le_mul_of_nonneg_right (by omega) hvpos
    have h2 : q * v0 ≤ 4294967296 * v0 := Int.mul_le_mul_of_nonneg_right hq a3
    omega

theorem DivAt.qv0 {v v1 v0 u d Q q r : Int} (h : DivAt v v1 v0 u d Q q r) (hq : q < 4294967296) : 0 ≤ q * v0 ∧ q * v0 ≤ 18446744073709551615 := by
  have h1 : q * v0 ≤ 4294967295 * v0 := Int.mul_le_mul_of_nonneg_right (by omega) h.v0lo
  have h2 : 0 ≤ q * v0 := Int.mul_nonneg (by have := h.Q0; have := h.Qq; omega) h.v0lo
  have := h.v0hi
  omega

theorem div_loop0 (v v1 v0 u d e0 s Q : Int) (m : Nat) : ∀ (k : Nat) (q r : Int), DivAt v v1 v0 u d Q q r → (m = 0 → 4294967296 ≤ r) → (m = 1 → q ≤ 4294967296 ∧ 2147483648 ≤ r) → m ≤ 2 → r < 4294967296 → 2 * m < k →
    ∃ k', k ≤ k' + 2 * m ∧ bits_Div64.l0 k v s v1 v0 u d e0 q r = bits_Div64.j2 k' v s v1 v0 u d e0 Q := by
  induction m with
  | zero => intro k q r h h0 _ _ hr; exact absurd (h0 rfl) (by omega)
  | succ m ih =>
    intro k q r h _ hm1 hm2 hr hk
    obtain ⟨k, rfl⟩ : ∃ j, k = j + 2 := ⟨k - 2, by omega⟩
    have hq0 := h.Qq
    have hQ0 := h.Q0
    have hq1 := h.q1
    have hv1 := h.v1lo
    have hv2 := h.v1hi
    have hr0 := h.r0
    have d0 := h.d0
    have d1 := h.d1
    -- the step when the guess is too great
    have step : Q < q → ∃ k', k + 2 ≤ k' + 2 * (m + 1) ∧ bits_Div64.j1 (k + 1) v s v1 v0 u d e0 q r true = bits_Div64.j2 k' v s v1 v0 u d e0 Q := by
      intro c
      have hn := h.next c
      simp only [bits_Div64.j1]
      rw [if_pos trivial, u64_id (n := r + v1) (by omega) (by omega), u64_id (n := q - 1) (by omega) (by omega)]
      by_cases c2 : r + v1 ≥ 4294967296
      · rw [if_pos c2, hn.last (by omega) (by omega)]
        exact ⟨k, by omega, rfl⟩
      · rw [if_neg c2]
        have hm : m = 1 ∨ m = 0 := by omega
        obtain ⟨k', h1, h2⟩ := ih k (q - 1) (r + v1) hn (fun e => by have := hm1 (by omega); omega) (fun e => ⟨by omega, by omega⟩) (by omega) (by omega) (by omega)
        exact ⟨k', by omega, h2⟩
    simp only [bits_Div64.l0]
    by_cases c1 : q ≥ 4294967296
    · rw [if_pos c1]
      exact step (by have := h.Q1; omega)
    · have hb := h.qv0 (by omega)
      rw [if_neg c1, u64_id hb.1 hb.2, u64_id (n := 4294967296 * r) (by omega) (by omega), u64_id (n := 4294967296 * r + d) (by omega) (by omega)]
      by_cases c2 : Q < q
      · rw [decide_eq_true ((h.test (by omega)).mpr c2)]
        exact step c2
      · rw [decide_eq_false (fun c => c2 ((h.test (by omega)).mp c))]
        simp only [bits_Div64.j1]
        rw [if_neg (by decide), show q = Q by omega]
        exact ⟨k, by omega, rfl⟩

/-- What stands behind the second loop. -/
theorem div_loop1 (v v1 v0 u d s Q q1 : Int) (hs : 0 ≤ s) (m : Nat) : ∀ (k : Nat) (q r : Int), DivAt v v1 v0 u d Q q r → (m = 0 → 4294967296 ≤ r) → (m = 1 → q ≤ 4294967296 ∧ 2147483648 ≤ r) → m ≤ 2 → r < 4294967296 → 2 * m < k →
    bits_Div64.l1 k v s v1 v0 d q1 r u q = some (IntKind.u64.wrap (IntKind.u64.wrap (q1 * 4294967296) + Q), shr .u64 (IntKind.u64.wrap (IntKind.u64.wrap (IntKind.u64.wrap (u * 4294967296) + d) - IntKind.u64.wrap (Q * v))) s) := by
  induction m with
  | zero => intro k q r h h0 _ _ hr; exact absurd (h0 rfl) (by omega)
  | succ m ih =>
    intro k q r h _ hm1 hm2 hr hk
    obtain ⟨k, rfl⟩ : ∃ j, k = j + 2 := ⟨k - 2, by omega⟩
    have hq0 := h.Qq
    have hQ0 := h.Q0
    have hq1 := h.q1
    have hv1 := h.v1lo
    have hv2 := h.v1hi
    have hr0 := h.r0
    have d0 := h.d0
    have d1 := h.d1
    have step : Q < q → bits_Div64.j4 (k + 1) v s v1 v0 d q1 r u q true = some (IntKind.u64.wrap (IntKind.u64.wrap (q1 * 4294967296) + Q), shr .u64 (IntKind.u64.wrap (IntKind.u64.wrap (IntKind.u64.wrap (u * 4294967296) + d) - IntKind.u64.wrap (Q * v))) s) := by
      intro c
      have hn := h.next c
      simp only [bits_Div64.j4]
      rw [if_pos trivial, u64_id (n := r + v1) (by omega) (by omega), u64_id (n := q - 1) (by omega) (by omega)]
      by_cases c2 : r + v1 ≥ 4294967296
      · rw [if_pos c2, hn.last (by omega) (by omega), if_pos hs]
      · rw [if_neg c2]
        exact ih k (q - 1) (r + v1) hn (fun e => by have := hm1 (by omega); omega) (fun e => ⟨by omega, by omega⟩) (by omega) (by omega) (by omega)
    simp only [bits_Div64.l1]
    by_cases c1 : q ≥ 4294967296
    · rw [if_pos c1]
      exact step (by have := h.Q1; omega)
    · have hb := h.qv0 (by omega)
      rw [if_neg c1, u64_id hb.1 hb.2, u64_id (n := 4294967296 * r) (by omega) (by omega), u64_id (n := 4294967296 * r + d) (by omega) (by omega)]
      by_cases c2 : Q < q
      · rw [decide_eq_true ((h.test (by omega)).mpr c2)]
        exact step c2
      · rw [decide_eq_false (fun c => c2 ((h.test (by omega)).mp c))]
        simp only [bits_Div64.j4]
        rw [if_neg (by decide), if_pos hs, show q = Q by omega]

/-- The first guess of a digit. -/
theorem DivAt.start {v v1 v0 u d : Int} (hv : v = v1 * 4294967296 + v0) (a1 : 2147483648 ≤ v1) (a2 : v1 < 4294967296) (a3 : 0 ≤ v0) (a4 : v0 < 4294967296) (a5 : 0 ≤ d) (a6 : d < 4294967296) (u0 : 0 ≤ u) (hu : u < v) :
    DivAt v v1 v0 u d ((u * 4294967296 + d) / v) (u / v1) (u - u / v1 * v1) ∧ u - u / v1 * v1 < v1 := by
  have hvpos : 0 < v := by omega
  have e1 := Int.emod_add_mul_ediv u v1
  have e2 := Int.emod_nonneg u (show v1 ≠ 0 by omega)
  have e3 := Int.emod_lt_of_pos u (show 0 < v1 by omega)
  have f1 := Int.emod_add_mul_ediv (u * 4294967296 + d) v
  have f2 := Int.emod_nonneg (u * 4294967296 + d) (show v ≠ 0 by omega)
  have f3 := Int.emod_lt_of_pos (u * 4294967296 + d) hvpos
  obtain ⟨q, hq⟩ : ∃ q, q = u / v1 := ⟨_, rfl⟩
  obtain ⟨Q, hQ⟩ : ∃ Q, Q = (u * 4294967296 + d) / v := ⟨_, rfl⟩
  have q0 : 0 ≤ q := by rw [hq]; exact Int.ediv_nonneg u0 (by omega)
  have Q0 : 0 ≤ Q := by rw [hQ]; exact Int.ediv_nonneg (by omega) (by omega)
  rw [← hq] at e1 ⊢
  rw [← hQ] at f1 ⊢
  rw [Int.mul_comm v1 q] at e1
  rw [Int.mul_comm v Q] at f1
  have low : Q * v ≤ u * 4294967296 + d := by omega
  have up : u * 4294967296 + d < (Q + 1) * v := by rw [Int.add_mul]; omega
  have Q1 : Q < 4294967296 := by
    by_cases c : Q < 4294967296
    · exact c
    · have : 4294967296 * v ≤ Q * v := Int.mul_le_mul_of_nonneg_right (by omega) (by omega)
      omega
  have q1 : q ≤ 4294967297 := by
    by_cases c : q ≤ 4294967297
    · exact c
    · have : 4294967298 * v1 ≤ q * v1 := Int.mul_le_mul_of_nonneg_right (by omega) (by omega)
      omega
  have ev : q * v = q * v1 * 4294967296 + q * v0 := by rw [hv, Int.mul_add, Int.mul_assoc]
  have Qq : Q ≤ q := by
    by_cases c : Q ≤ q
    · exact c
    · have h1 : (q + 1) * v ≤ Q * v := Int.mul_le_mul_of_nonneg_right (by omega) (by omega)
      have h2 : (q + 1) * v = q * v + v := by rw [Int.add_mul]; omega
      have h3 : 0 ≤ q * v0 := Int.mul_nonneg q0 a3
      omega
  exact ⟨⟨hv, a1, a2, a3, a4, a5, a6, Q0, Q1, low, up, by omega, by omega, Qq, q1⟩, by omega⟩

theorem u64_sub {a b : Int} (h0 : 0 ≤ a - b) (h1 : a - b ≤ 18446744073709551615) : IntKind.u64.wrap (IntKind.u64.wrap a - IntKind.u64.wrap b) = a - b := by
  simp only [IntKind.wrap_u64]; omega

/-- The normalized division. -/
theorem div_norm (v v1 v0 u d e s : Int) (hs : 0 ≤ s) (hv : v = v1 * 4294967296 + v0) (a1 : 2147483648 ≤ v1) (a2 : v1 < 4294967296) (a3 : 0 ≤ v0) (a4 : v0 < 4294967296) (a5 : 0 ≤ d) (a6 : d < 4294967296) (b5 : 0 ≤ e) (b6 : e < 4294967296) (u0 : 0 ≤ u) (hu : u < v) (k : Nat) (hk : 12 ≤ k) :
    ∃ q r, bits_Div64.l0 k v s v1 v0 u d e (IntKind.u64.wrap (Int.tdiv u v1)) (IntKind.u64.wrap (u - IntKind.u64.wrap (IntKind.u64.wrap (Int.tdiv u v1) * v1))) = some (q, shr .u64 r s) ∧
      0 ≤ q ∧ q ≤ 18446744073709551615 ∧ 0 ≤ r ∧ r < v ∧ u * 18446744073709551616 + d * 4294967296 + e = q * v + r := by
  obtain ⟨hd, hr⟩ := DivAt.start hv a1 a2 a3 a4 a5 a6 u0 hu
  have hdq := hd.q1
  have hdQ := hd.Qq
  have hdQ0 := hd.Q0
  have hdr := hd.r0
  have hqr := hd.qr
  have qv0 : 0 ≤ u / v1 * v1 := Int.mul_nonneg (by omega) (by omega)
  have t1 : Int.tdiv u v1 = u / v1 := Int.tdiv_eq_ediv_of_nonneg u0
  rw [t1, u64_id (n := u / v1) (by omega) (by omega), u64_id (n := u / v1 * v1) qv0 (by omega), u64_id (n := u - u / v1 * v1) (by omega) (by omega)]
  obtain ⟨k', hk', hj⟩ := div_loop0 v v1 v0 u d e s _ 2 k _ _ hd (by omega) (by omega) (by omega) (by omega) (by omega)
  rw [hj]
  clear hj
  obtain ⟨Q, hQ⟩ : ∃ Q, Q = (u * 4294967296 + d) / v := ⟨_, rfl⟩
  have low := hd.low
  have up := hd.up
  have Q1 := hd.Q1
  rw [← hQ] at low up Q1 hdQ0 ⊢
  have up' : u * 4294967296 + d < Q * v + v := by rw [Int.add_mul] at up; omega
  obtain ⟨k', rfl⟩ : ∃ j, k' = j + 1 := ⟨k' - 1, by omega⟩
  simp only [bits_Div64.j2]
  have m1 : IntKind.u64.wrap (IntKind.u64.wrap (IntKind.u64.wrap (u * 4294967296) + d) - IntKind.u64.wrap (Q * v)) = u * 4294967296 + d - Q * v := by
    simp only [IntKind.wrap_u64]; omega
  rw [if_neg (by omega), m1]
  obtain ⟨u2, hu2⟩ : ∃ u2, u2 = u * 4294967296 + d - Q * v := ⟨_, rfl⟩
  rw [← hu2]
  obtain ⟨gd, gr⟩ := DivAt.start (u := u2) (d := e) hv a1 a2 a3 a4 b5 b6 (by omega) (by omega)
  have gdq := gd.q1
  have gdQ := gd.Qq
  have gdQ0 := gd.Q0
  have gdr := gd.r0
  have gqr := gd.qr
  have gv0 : 0 ≤ u2 / v1 * v1 := Int.mul_nonneg (by omega) (by omega)
  have t2 : Int.tdiv u2 v1 = u2 / v1 := Int.tdiv_eq_ediv_of_nonneg (by omega)
  rw [t2, u64_id (n := u2 / v1) (by omega) (by omega), u64_id (n := u2 / v1 * v1) gv0 (by omega), u64_id (n := u2 - u2 / v1 * v1) (by omega) (by omega)]
  rw [div_loop1 v v1 v0 u2 e s _ Q hs 2 k' _ _ gd (by omega) (by omega) (by omega) (by omega) (by omega)]
  obtain ⟨P, hP⟩ : ∃ P, P = (u2 * 4294967296 + e) / v := ⟨_, rfl⟩
  have low2 := gd.low
  have up2 := gd.up
  have P1 := gd.Q1
  rw [← hP] at low2 up2 P1 gdQ0 ⊢
  have up2' : u2 * 4294967296 + e < P * v + v := by rw [Int.add_mul] at up2; omega
  have m2 : IntKind.u64.wrap (IntKind.u64.wrap (IntKind.u64.wrap (u2 * 4294967296) + e) - IntKind.u64.wrap (P * v)) = u2 * 4294967296 + e - P * v := by
    simp only [IntKind.wrap_u64]; omega
  rw [m2, u64_id (n := Q * 4294967296) (by omega) (by omega), u64_id (n := Q * 4294967296 + P) (by omega) (by omega)]
  refine ⟨_, _, rfl, by omega, by omega, by omega, by omega, ?_⟩
  rw [Int.add_mul, Int.mul_assoc, Int.mul_comm 4294967296 v, ← Int.mul_assoc]
  omega

theorem pow_split : ∀ s : Fin 64, (2 : Int) ^ s.val * 2 ^ (64 - s.val) = 18446744073709551616 ∧ (1 : Int) ≤ 2 ^ s.val ∧ (1 : Int) ≤ 2 ^ (64 - s.val) := by decide +kernel

/-- How far the divisor is moved. -/
theorem lead_of (y : Int) (h0 : 0 < y) (h1 : y ≤ 18446744073709551615) : ∃ s : Nat, s ≤ 63 ∧ bits_LeadingZeros64.f y = some (s : Int) ∧ 9223372036854775808 ≤ y * 2 ^ s ∧ y * 2 ^ s ≤ 18446744073709551615 := by
  obtain ⟨n, rfl⟩ := Int.eq_ofNat_of_zero_le (by omega : 0 ≤ y)
  have hb := Lib.bitLenAux_bounds 64 n (by omega) (by omega)
  have hl := Any.bitLen_le64 (n : Int) (by omega) (by omega)
  have e : Lib.bitLen n = Lib.bitLenAux 64 n := rfl
  rw [← e] at hb
  simp only [Int.toNat_natCast] at hl
  obtain ⟨b1, b2, b3⟩ := hb
  refine ⟨64 - Lib.bitLen n, by omega, ?_, ?_, ?_⟩
  · unfold bits_LeadingZeros64.f bits_Len64.f
    rw [if_pos (u64B_iff.mpr ⟨by omega, by omega⟩)]
    simp only [Option.bind_some, Int.toNat_natCast]
    rw [w64_id (by omega) (by omega)]
    congr 1
    omega
  · have h := Nat.mul_le_mul_right (2 ^ (64 - Lib.bitLen n)) b2
    rw [← Nat.pow_add, show Lib.bitLen n - 1 + (64 - Lib.bitLen n) = 63 by omega] at h
    have : ((2 ^ 63 : Nat) : Int) ≤ ((n * 2 ^ (64 - Lib.bitLen n) : Nat) : Int) := Int.ofNat_le.mpr h
    simpa using this
  · have h := Nat.mul_lt_mul_of_pos_right b3 (Nat.two_pow_pos (64 - Lib.bitLen n))
    rw [← Nat.pow_add, show Lib.bitLen n + (64 - Lib.bitLen n) = 64 by omega] at h
    have : ((n * 2 ^ (64 - Lib.bitLen n) : Nat) : Int) < ((2 ^ 64 : Nat) : Int) := Int.ofNat_lt.mpr h
    have k : (n : Int) * 2 ^ (64 - Lib.bitLen n) < 18446744073709551616 := by simpa using this
    omega

/-- bits.Div64: the quotient and the remainder of a number of two words, if the quotient has one word. -/
theorem bits_Div64.is (hi lo y : Int) (h0 : 0 ≤ hi) (h1 : hi < y) (y1 : y ≤ 18446744073709551615) (l0 : 0 ≤ lo) (l1 : lo ≤ 18446744073709551615) (k : Nat) (hk : 12 ≤ k) :
    bits_Div64.f k hi lo y = some ((hi * 18446744073709551616 + lo) / y, (hi * 18446744073709551616 + lo) % y) := by
  unfold bits_Div64.f
  rw [if_neg (by omega), if_neg (by omega)]
  by_cases c : hi = 0
  · subst c
    have e1 : Int.tdiv lo y = lo / y := Int.tdiv_eq_ediv_of_nonneg l0
    have e2 : Int.tmod lo y = lo % y := Int.tmod_eq_emod_of_nonneg l0
    have e3 : 0 ≤ lo / y := Int.ediv_nonneg l0 (by omega)
    have e4 : lo / y ≤ lo := Int.ediv_le_self _ l0
    rw [if_pos rfl, e1, e2, u64_id e3 (by omega)]
    simp
  · rw [if_neg c]
    obtain ⟨s, s1, hs, v0, v1⟩ := lead_of y (by omega) y1
    rw [hs]
    simp only [Option.bind_some]
    have ws : IntKind.u64.wrap (s : Int) = (s : Int) := u64_id (by omega) (by omega)
    have ws2 : IntKind.u64.wrap (64 - (s : Int)) = ((64 - s : Nat) : Int) := by rw [u64_id (by omega) (by omega)]; omega
    rw [ws, if_pos (by omega), ws2, if_pos (by omega)]
    obtain ⟨p1, p2, p3⟩ := pow_split ⟨s, by omega⟩
    simp only [] at p1 p2 p3
    have es : shl .u64 y (s : Int) = y * 2 ^ s := by
      unfold shl
      rw [Int.toNat_natCast, show IntKind.u64.bits = 64 from rfl, Nat.min_eq_left (by omega), u64_id (by omega) (by omega)]
    have eh : shl .u64 hi (s : Int) = IntKind.u64.wrap (hi * 2 ^ s) := by
      unfold shl
      rw [Int.toNat_natCast, show IntKind.u64.bits = 64 from rfl, Nat.min_eq_left (by omega)]
    have el : shl .u64 lo (s : Int) = IntKind.u64.wrap (lo * 2 ^ s) := by
      unfold shl
      rw [Int.toNat_natCast, show IntKind.u64.bits = 64 from rfl, Nat.min_eq_left (by omega)]
    have er : shr .u64 lo ((64 - s : Nat) : Int) = lo / 2 ^ (64 - s) := by
      unfold shr
      rw [Int.toNat_natCast, show IntKind.u64.bits = 64 from rfl, Nat.min_eq_left (by omega)]
    have hsr : ∀ r, shr .u64 r (s : Int) = r / 2 ^ s := by
      intro r
      unfold shr
      rw [Int.toNat_natCast, show IntKind.u64.bits = 64 from rfl, Nat.min_eq_left (by omega)]
    have hor : ∀ x z : Int, 0 ≤ x → x % 2 ^ s = 0 → x ≤ 18446744073709551615 → 0 ≤ z → z < 2 ^ s → z ≤ 18446744073709551615 → bits .or .u64 x z = x + z := fun x z a b c d e f => or_join s a b c d e f
    rw [es, eh, el, er]
    generalize (2 : Int) ^ s = p at *
    generalize (2 : Int) ^ (64 - s) = p' at *
    -- the parts of the low word
    have g1 := Int.emod_add_mul_ediv lo p'
    have g2 := Int.emod_nonneg lo (show p' ≠ 0 by omega)
    have g3 := Int.emod_lt_of_pos lo (show 0 < p' by omega)
    have g4 : 0 ≤ lo / p' := Int.ediv_nonneg l0 (by omega)
    obtain ⟨lq, hlq⟩ : ∃ x, x = lo / p' := ⟨_, rfl⟩
    obtain ⟨lr, hlr⟩ : ∃ x, x = lo % p' := ⟨_, rfl⟩
    rw [← hlq] at g1 g4 ⊢
    rw [← hlr] at g1 g2 g3
    have m1 : lo * p = lq * 18446744073709551616 + lr * p := by
      have : lo * p = (lr + p' * lq) * p := by rw [g1]
      rw [this, Int.add_mul, Int.mul_comm p' lq, Int.mul_assoc, Int.mul_comm p' p, p1]
      omega
    have m2 : 0 ≤ lr * p := Int.mul_nonneg g2 (by omega)
    have m3 : lr * p < 18446744073709551616 := by
      have := Int.mul_lt_mul_of_pos_right g3 (show 0 < p by omega)
      rw [Int.mul_comm p' p, p1] at this
      omega
    have m4 : IntKind.u64.wrap (lo * p) = lr * p := by rw [IntKind.wrap_u64, m1]; omega
    have m5 : lq < p := by
      by_cases q : lq < p
      · exact q
      · have : p * p' ≤ lq * p' := Int.mul_le_mul_of_nonneg_right (by omega) (by omega)
        rw [p1, Int.mul_comm lq p'] at this
        omega
    have m6 : hi * p + p ≤ y * p := by
      have : (hi + 1) * p ≤ y * p := Int.mul_le_mul_of_nonneg_right (by omega) (by omega)
      rw [Int.add_mul] at this
      omega
    have m7 : 0 ≤ hi * p := Int.mul_nonneg h0 (by omega)
    have m8 : IntKind.u64.wrap (hi * p) = hi * p := u64_id m7 (by omega)
    have m9 : bits .or .u64 (hi * p) lq = hi * p + lq := hor _ _ m7 (Int.mul_emod_left _ _) (by omega) g4 m5 (by omega)
    rw [m4, m8, m9, and_low (by omega) v1, and_low m2 (by omega), if_neg (by omega)]
    obtain ⟨v, hv⟩ : ∃ v, v = y * p := ⟨_, rfl⟩
    rw [← hv] at v0 v1 m6 ⊢
    obtain ⟨q, r, hl, q0, q1, r0, r1, hqr⟩ := div_norm v (v / 4294967296) (v % 4294967296) (hi * p + lq) (lr * p / 4294967296) (lr * p % 4294967296) s (by omega) (by omega) (by omega) (by omega) (by omega) (by omega) (by omega) (by omega) (by omega) (by omega) (by omega) (by omega) k hk
    rw [hl, hsr]
    -- back to the given numbers
    have n1 : (hi * 18446744073709551616 + lo) * p = q * v + r := by
      rw [Int.add_mul, m1, Int.mul_assoc, Int.mul_comm 18446744073709551616 p, ← Int.mul_assoc]
      omega
    have n2 : r = (hi * 18446744073709551616 + lo - q * y) * p := by
      rw [Int.sub_mul, n1, hv, ← Int.mul_assoc]
      omega
    have n3 : r / p = hi * 18446744073709551616 + lo - q * y := by rw [n2]; exact Int.mul_ediv_cancel _ (by omega)
    obtain ⟨t, ht⟩ : ∃ t, t = hi * 18446744073709551616 + lo - q * y := ⟨_, rfl⟩
    rw [← ht] at n2 n3
    have t0 : 0 ≤ t := by rw [← n3]; exact Int.ediv_nonneg r0 (by omega)
    have t1 : t < y := by
      by_cases z : t < y
      · exact z
      · have : y * p ≤ t * p := Int.mul_le_mul_of_nonneg_right (by omega) (by omega)
        omega
    obtain ⟨w1, w2⟩ := div_uniq (n := hi * 18446744073709551616 + lo) t0 t1 (q := q) (by omega)
    rw [n3, w1, w2]
end Go.Proofs.Ytcbdcgghccjdpaa.Q
