-- PRINTED by print.py (a twelfth state) out of the translation. Not trusted: Lean checks it.
import Derived.Test.YtcbdcgghccjdpaaQ0
import Derived.Test.YtcbdcgghccjdpaaQcmp
import Derived.Lib.Hide
import Derived.Test.YtcbdcgghccjdpaaMspec
namespace Go.Proofs.Ytcbdcgghccjdpaa.Q
open Go.RowKit Go.Proofs.YtcbdcgghccjdpaaW.PrintWords Go.Proofs.YtcbdcgghccjdpaaW.PrintLast Go.Proofs.YtcbdcgghccjdpaaW.PrintMore
open Go.Proofs.YtcbdcgghccjdpaaW.PrintWords renaming below_alloc → lA
open Bool renaming true → T, false → F
attribute [local go_sem] max2_int min2_int max_two min_two max_three min_three max_four min_four   -- for this text's walks alone
set_option linter.unusedVariables false
set_option linter.unusedSimpArgs false

/-! ### view_Find: function 28 (given) -/
-- IMPORT Derived.Test.YtcbdcgghccjdpaaMspec
-- IMPORT Derived.Lib.Hide
-- NEEDS cmp.Compare[uint32]
/-- How many bodies at the beginning of the list have lesser keys. -/
def cutK (l : List S44) (key : Int) : Nat := (l.takeWhile (fun x => decide (x.f0 < key))).length
/-- Where no body behind these has a lesser key: their number, and whether the next one has the key. -/
def view_Find.f (l : List S44) (key : Int) : Option (Int × Bool) := if (l.drop (cutK l key)).all (fun x => decide (key ≤ x.f0)) = true then some ((cutK l key : Int), decide (cutK l key < l.length) && ((rd_T44 l (cutK l key : Int)).f0 == key)) else none
theorem cutK_le (l : List S44) (key : Int) : cutK l key ≤ l.length := (List.takeWhile_sublist _).length_le
theorem rd_nat {l : List S44} {i : Nat} (h : i < l.length) : rd_T44 l (i : Int) = l[i] := by
 unfold rd_T44
 simp [List.getD, h]
theorem cutK_lt : ∀ (l : List S44) (key : Int) (i : Nat) (h : i < l.length), i < cutK l key → (l[i]).f0 < key
 | [], _, _, h, _ => absurd h (by simp)
 | x :: l, key, i, h, hc => by
  unfold cutK at hc
  rw [List.takeWhile_cons] at hc
  split at hc
  ·rename_i c
   cases i with
   | zero => exact of_decide_eq_true c
   | succ i =>
    simp only [List.getElem_cons_succ]
    exact cutK_lt l key i (by simpa using h) (by simpa [cutK] using hc)
  ·simp at hc
theorem cutK_ge {l : List S44} {key : Int} (h : (l.drop (cutK l key)).all (fun x => decide (key ≤ x.f0)) = true) (i : Nat) (hi : i < l.length) (hc : cutK l key ≤ i) : key ≤ (l[i]).f0 := by
 have h1 := List.all_eq_true.mp h l[i] (by
  rw [List.mem_drop_iff_getElem]
  exact ⟨i - cutK l key, by omega, by simp only [show cutK l key + (i - cutK l key) = i by omega]⟩)
 exact of_decide_eq_true h1
def cmpV (a b : Int) : Int := if a < b then -1 else if a > b then 1 else 0
theorem half_trick {s : Int} (h : 0 ≤ s ∧ s < 18446744073709551616) : wrap64 s % 18446744073709551616 = s := by
 have e : wrap64 s = s ∨ wrap64 s = s - 18446744073709551616 := by
  unfold wrap64
  rcases Int.lt_or_le s 9223372036854775808 with c | c
  ·left; rw [Int.emod_eq_of_lt (by omega) (by omega)]; omega
  ·right
   rw [show s + 9223372036854775808 = (s - 9223372036854775808) + 18446744073709551616 by omega, Int.add_emod_right, Int.emod_eq_of_lt (by omega) (by omega)]
   omega
 rcases e with e | e
 ·rw [e, Int.emod_eq_of_lt h.1 h.2]
 ·rw [e, Int.sub_emod_right, Int.emod_eq_of_lt h.1 h.2]
theorem cmp_is (a b : Int) : cmp_Compare_uint32.f a b = some (cmpV a b) := by
 unfold cmp_Compare_uint32.f cmp_isNaN_uint32.f cmpV
 simp only [Option.bind_some, bne_self_eq_false, Bool.false_eq_true, if_false]
 split
 ·rfl
 ·split <;> rfl
set_option maxHeartbeats 2000000 in
theorem view_cmp.same (x : S44) (key : Int) (w : World) :
  Calls Try.prog 36 #[.agg #[.int .u32 x.f0, .int .i32 x.f1, .int .i32 x.f2.f0, .int .i32 x.f2.f1, .int .i32 x.f3, .int .i32 x.f4, .int .i32 x.f5.f0, .int .i32 x.f5.f1, .int .i32 x.f6.f0, .int .i32 x.f6.f1], .int .u32 key] w fun e w' => e = .returned (.int .i64 (cmpV x.f0 key)) ∧ Below w.heap.size w w' := by
 have HC := Lib.hid (fun w => cmp_Compare_uint32.calls x.f0 key (cmpV x.f0 key) w (cmp_is _ _))
 go_enter Try.func36, Try.ntmps36
 go_wp2_with fail
 refine (HC.out _).mono ?_
 rintro e w1 ⟨rfl, hb⟩
 have hb := hb.below
 go_wp2
 go_ret
 exact ⟨rfl, (lA (Below.refl _ _) _).trans (hb.mono (by simp))⟩
set_option maxRecDepth 100000 in
set_option maxHeartbeats 8000000 in
theorem view_search.same (A0 : Option Addr) (c0 : Nat) (l : List S44) (key : Int) (w : World) (hr0 : Kd.C k44 w A0 l.length l) (hc0 : l.length ≤ c0) (h : (l.drop (cutK l key)).all (fun x => decide (key ≤ x.f0)) = true) :
  Calls Try.prog 35 #[.slice A0 l.length c0, .int .u32 key, .func (.func 36) #[] #[]] w fun e w' => e = .returned (.tuple #[.int .i64 (cutK l key), .bool (decide (cutK l key < l.length) && ((rd_T44 l (cutK l key : Int)).f0 == key))]) ∧ Below w.heap.size w w' := by
 have HR := Lib.hid hr0
 have HL := Lib.hid (cutK_lt l key)
 have HG := Lib.hid (fun i hi hc => cutK_ge h i hi hc)
 have HM := Lib.hid (Kd.C_max hr0)
 have hcl := cutK_le l key
 clear hr0 h
 obtain ⟨c, hc⟩ : ∃ c, cutK l key = c := ⟨_, rfl⟩
 rw [hc] at HL HG hcl ⊢
 clear hc
 have HX := Lib.hid (fun x w => view_cmp.same x key w)
 go_enter Try.func35, Try.ntmps35
 go_wp2
 go_loopw [9, 10] (fun p q wr => ∃ a b : Nat, p = .int .i64 a ∧ q = .int .i64 b ∧ a ≤ c ∧ c ≤ b ∧ b ≤ l.length ∧ Below w.heap.size w wr)
  (fun p q _ => (intOf q - intOf p).toNat)
 case atStart => exact ⟨0, l.length, by simp, rfl, by omega, hcl, by omega, Below.refl _ _⟩
 case round =>
  obtain ⟨a, b, rfl, rfl, ha, hb, hbl, hB⟩ := hrel
  have HB := Lib.hid hB
  clear hB
  by_cases hlt : a < b
  ·have d1 : decide ((a : Int) < (b : Int)) = true := decide_eq_true (by omega)
   obtain ⟨m, hm0⟩ : ∃ m : Nat, m = (a + b) / 2 := ⟨_, rfl⟩
   have hm : wrap64 (IntKind.u64.wrap (wrap64 ((a : Int) + (b : Int))) / 2) = (m : Int) := by
    have := HM.out
    have hu : ∀ n, IntKind.u64.wrap n = n % 18446744073709551616 := fun n => by simp [IntKind.wrap, IntKind.bits, IntKind.signed]
    rw [hu, half_trick (by omega), w64_id (by omega) (by omega)]
    omega
   have hml : m < l.length := by omega
   have hmab : a ≤ m ∧ m < b := by omega
   clear hm0
   have hrd := rd_nat hml
   obtain ⟨M, hM⟩ : ∃ M : Int, M = (m : Int) := ⟨_, rfl⟩
   rw [← hM] at hm hrd
   have HMm := Lib.hid hM
   have p1 : ((0 : Int) ≤ M) = True := eq_true (by omega)
   have q1 : (M < (l.length : Int)) = True := eq_true (by omega)
   obtain ⟨ad, e, x0, x1, x2, x3, x4, x5, x6, x7, x8, x9⟩ := at_T44 (Kd.C_below HR.out HB.out) M (by omega) (by omega)
   cases e
   clear hM
   generalize hx : rd_T44 l M = x at *
   by_cases hk : x.f0 < key
   ·have hv : cmpV x.f0 key = -1 := by unfold cmpV; rw [if_pos hk]
    have HY := Lib.hid (fun w => by have := HX.out x w; rw [hv] at this; exact this)
    have hca : m < c := by
     rcases Nat.lt_or_ge m c with z | z
     ·exact z
     ·have := HG.out m hml z
      rw [← hrd] at this
      omega
    clear hx hv HX hrd
    go_wp2_with fail
    refine (HY.out _).mono ?_
    rintro e w1 ⟨rfl, hb1⟩
    have HB1 := Lib.hid (HB.out.trans (hb1.mono HB.out.size))
    clear hb1 x0 x1 x2 x3 x4 x5 x6 x7 x8 x9
    go_wp2_with fail
    have e1 : wrap64 (M + 1) = ((m + 1 : Nat) : Int) := by
     have := HM.out
     rw [HMm.out, w64_id (by omega) (by omega)]
     omega
    rw [e1]
    exact ⟨⟨m + 1, b, rfl, rfl, by omega, hb, hbl, HB1.out⟩, by simp only [intOf]; omega⟩
   ·obtain ⟨v, hv⟩ : ∃ v, cmpV x.f0 key = v := ⟨_, rfl⟩
    have hv0 : decide (v < 0) = false := by
     rw [← hv]
     unfold cmpV
     rw [if_neg hk]
     split <;> rfl
    have HY := Lib.hid (fun w => by have := HX.out x w; rw [hv] at this; exact this)
    have hca : c ≤ m := by
     rcases Nat.lt_or_ge m c with z | z
     ·have := HL.out m hml z
      rw [← hrd] at this
      omega
     ·exact z
    clear hx hv HX hrd
    go_wp2_with fail
    refine (HY.out _).mono ?_
    rintro e w1 ⟨rfl, hb1⟩
    have HB1 := Lib.hid (HB.out.trans (hb1.mono HB.out.size))
    clear hb1 x0 x1 x2 x3 x4 x5 x6 x7 x8 x9
    go_wp2_with fail
    have e1 := HMm.out
    rw [e1]
    exact ⟨⟨a, m, rfl, rfl, ha, hca, by omega, HB1.out⟩, by simp only [intOf]; omega⟩
  ·have d1 : decide ((a : Int) < (b : Int)) = false := decide_eq_false (by omega)
   obtain rfl : a = c := by omega
   by_cases hcn : a < l.length
   ·have d2 : decide ((a : Int) < (l.length : Int)) = true := decide_eq_true (by omega)
    have p1 : ((0 : Int) ≤ (a : Int)) = True := eq_true (by omega)
    have q1 : ((a : Int) < (l.length : Int)) = True := eq_true (by omega)
    obtain ⟨ad, e, x0, x1, x2, x3, x4, x5, x6, x7, x8, x9⟩ := at_T44 (Kd.C_below HR.out HB.out) (a : Int) (by omega) (by omega)
    cases e
    simp only [Int.toNat_natCast] at x0 x1 x2 x3 x4 x5 x6 x7 x8 x9
    obtain ⟨x, hx⟩ : ∃ x, rd_T44 l (a : Int) = x := ⟨_, rfl⟩
    rw [hx] at x0 x1 x2 x3 x4 x5 x6 x7 x8 x9
    have hv : (x.f0 == key) = (cmpV x.f0 key == 0) := by
     rw [Bool.eq_iff_iff, beq_iff_eq, beq_iff_eq]
     unfold cmpV
     split
     ·omega
     ·split <;> omega
    obtain ⟨v, hw⟩ : ∃ v, cmpV x.f0 key = v := ⟨_, rfl⟩
    have HY := Lib.hid (fun w => by have := HX.out x w; rw [hw] at this; exact this)
    rw [hw] at hv
    have HV := Lib.hid (show (decide (a < l.length) && ((rd_T44 l (a : Int)).f0 == key)) = (v == 0) by rw [decide_eq_true hcn, Bool.true_and, hx, hv])
    clear hv hw hx HX
    go_wp2_with fail
    refine (HY.out _).mono ?_
    rintro e w1 ⟨rfl, hb1⟩
    have HB1 := Lib.hid (HB.out.trans (hb1.mono HB.out.size))
    clear hb1 x0 x1 x2 x3 x4 x5 x6 x7 x8 x9
    go_wp2_with fail
    go_ret2
    exact ⟨by rw [HV.out]; rfl, HB1.out⟩
   ·have d2 : decide ((a : Int) < (l.length : Int)) = false := decide_eq_false (by omega)
    go_wp2_with fail
    go_ret2
    exact ⟨by rw [decide_eq_false hcn, Bool.false_and]; rfl, HB.out⟩
set_option maxRecDepth 100000 in
set_option maxHeartbeats 4000000 in
theorem view_Find.calls (A0 : Option Addr) (c0 : Nat) (l0 : List S44) (a1 r1 : Int) (r2 : Bool) (w : World) (hr0 : Kd.C k44 w A0 l0.length l0) (hc0 : l0.length ≤ c0) (h : view_Find.f l0 a1 = some (r1, r2)) :
  Calls Try.prog 28 #[.slice A0 l0.length c0, .int .u32 a1] w fun e w' => e = .returned (.tuple #[.int .i64 r1, .bool r2]) ∧ Below w.heap.size w w' := by
 unfold view_Find.f at h
 split at h
 ·rename_i ha
  simp only [Option.some.injEq, Prod.mk.injEq] at h
  obtain ⟨rfl, rfl⟩ := h
  have HS := Lib.hid (view_search.same A0 c0 l0 a1 w hr0 hc0 ha)
  generalize (decide (cutK l0 a1 < l0.length) && ((rd_T44 l0 (cutK l0 a1 : Int)).f0 == a1)) = B at *
  generalize cutK l0 a1 = C at *
  clear hr0 ha
  go_enter Try.func28, Try.ntmps28
  go_wp2_with fail
  refine HS.out.mono ?_
  rintro e w1 ⟨rfl, hb1⟩
  go_wp2_with fail
  go_ret2
  exact ⟨rfl, hb1⟩
 ·cases h

end Go.Proofs.Ytcbdcgghccjdpaa.Q
