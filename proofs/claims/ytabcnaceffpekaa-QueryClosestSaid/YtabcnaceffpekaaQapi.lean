-- PRINTED by print.py (a twelfth state) out of the translation. Not trusted: Lean checks it.
import Derived.Test.YtabcnaceffpekaaQ0
import Derived.Deep.RegionHeld3
import Derived.Deep.RegionWith
import Derived.Lib.Hide
import Derived.Test.YtabcnaceffpekaaMspec
namespace Go.Proofs.Ytabcnaceffpekaa.Q
open Go.RowKit Go.Proofs.YtabcnaceffpekaaW.PrintWords Go.Proofs.YtabcnaceffpekaaW.PrintLast Go.Proofs.YtabcnaceffpekaaW.PrintMore
open Go.Proofs.YtabcnaceffpekaaW.PrintWords renaming blk_cell → bC, blk_lt → bL, below_alloc → lA, Aside0.mk → aM
attribute [local go_sem] max2_int min2_int max_two min_two max_three min_three max_four min_four   -- for this text's walks alone
set_option linter.unusedVariables false
set_option linter.unusedSimpArgs false

/-! ### query_keys: function 36 (given) -/
-- IMPORT Derived.Test.YtabcnaceffpekaaMspec
-- IMPORT Derived.Lib.Hide
-- IMPORT Derived.Deep.RegionHeld3
-- IMPORT Derived.Deep.RegionWith
/-- The keys of the first bodies that are picked. -/
def keysT (hs : Nat → Bool) (l : List S32) : Nat → List Int
 | 0 => []
 | i + 1 => keysT hs l i ++ (if hs i = true then [(rd_T32 l (i : Int)).f0] else [])
theorem keysT_len (hs : Nat → Bool) (l : List S32) : ∀ i, (keysT hs l i).length ≤ i
 | 0 => Nat.le_refl _
 | i + 1 => by
  have := keysT_len hs l i
  rw [keysT, List.length_append]
  split
  ·rw [List.length_singleton]; omega
  ·rw [List.length_nil]; omega
/-- The keys of the bodies that a test picks. -/
def pickL (F : S32 → Option Bool) : List S32 → Option (List Int)
 | [] => some []
 | b :: l => (F b).bind fun t => (pickL F l).bind fun r => some (if t = true then b.f0 :: r else r)
theorem keysT_cons (hs : Nat → Bool) (b : S32) (l : List S32) (t : Bool) : ∀ i, i ≤ l.length → keysT (fun j => if j = 0 then t else hs (j - 1)) (b :: l) (i + 1) = (if t = true then [b.f0] else []) ++ keysT hs l i
 | 0, _ => by simp [keysT, rd_T32]
 | i + 1, h => by
  have e : rd_T32 (b :: l) ((i + 1 : Nat) : Int) = rd_T32 l (i : Int) := by unfold rd_T32; simp
  have e2 : (if i + 1 = 0 then t else hs (i + 1 - 1)) = hs i := by rw [if_neg (by omega)]; rfl
  rw [show keysT (fun j => if j = 0 then t else hs (j - 1)) (b :: l) (i + 1 + 1) = keysT (fun j => if j = 0 then t else hs (j - 1)) (b :: l) (i + 1) ++ (if (if i + 1 = 0 then t else hs (i + 1 - 1)) = true then [(rd_T32 (b :: l) ((i + 1 : Nat) : Int)).f0] else []) from rfl, keysT_cons hs b l t i (by omega), List.append_assoc, e, e2]
  rfl
theorem pickL_hs (F : S32 → Option Bool) : ∀ (l : List S32) (r : List Int), pickL F l = some r → ∃ hs : Nat → Bool, (∀ i (h : i < l.length), F (rd_T32 l (i : Int)) = some (hs i)) ∧ keysT hs l l.length = r
 | [], r, h => ⟨fun _ => false, fun i h => by simp at h, by simpa [pickL, keysT] using h⟩
 | b :: l, r, h => by
  unfold pickL at h
  obtain ⟨t, h1, h2⟩ := Option.bind_eq_some_iff.mp h
  obtain ⟨r', h3, h4⟩ := Option.bind_eq_some_iff.mp h2
  obtain ⟨hs, ha, hb⟩ := pickL_hs F l r' h3
  refine ⟨fun j => if j = 0 then t else hs (j - 1), fun i hi => ?_, ?_⟩
  ·match i, hi with
   | 0, _ => simpa [rd_T32] using h1
   | i + 1, hi =>
    have e : rd_T32 (b :: l) ((i + 1 : Nat) : Int) = rd_T32 l (i : Int) := by unfold rd_T32; simp
    rw [e, ha i (by simpa using hi)]
    simp
  ·rw [List.length_cons, keysT_cons hs b l t l.length (Nat.le_refl _), hb]
   simp only [Option.some.injEq] at h4
   rw [← h4]
   cases t <;> simp
/-- The cells of a body. -/
abbrev bodyA (b : S32) : Value := .agg #[.int .u32 b.f0, .int .i32 b.f1, .int .i32 b.f2.f0, .int .i32 b.f2.f1, .int .i32 b.f3, .int .i32 b.f4, .int .i32 b.f5.f0, .int .i32 b.f5.f1, .int .i32 b.f6.f0, .int .i32 b.f6.f1]
theorem keys_next {i n : Nat} (h : i < n) (hn : n ≤ 9223372036854775807) : wrap64 ((i : Int) + 1) = ((i + 1 : Nat) : Int) := by unfold wrap64; omega
theorem keys_measure {i n : Nat} (h : i < n) : ((n : Int) - intOf (.int .i64 ((i : Int) + 1))).toNat < ((n : Int) - intOf (.int .i64 (i : Int))).toNat := by show ((n : Int) - ((i : Int) + 1)).toNat < ((n : Int) - (i : Int)).toNat; omega
set_option maxRecDepth 100000 in
set_option maxHeartbeats 8000000 in
/-- The keys of the bodies that a function picks; Inv: what the function keeps and turns, in the blocks that are elder than this call. -/
theorem query_keys.calls {w0 W : World} {A0 : Option Addr} {c0 : Nat} {l0 : List S32} (hr0 : Kd.C k32 w0 A0 l0.length l0) (hc0 : l0.length ≤ c0) (K : Nat) (caps : Array Value) (Inv : Nat → World → Prop) (hs : Nat → Bool)
  (hK : ∀ args V, (callFunc K args).run Try.prog V = .ok (.enter K args) V) (hB : ∀ i V, Inv i V → Below w0.heap.size w0 V) (hN : ∀ i V V', Inv i V → Below W.heap.size V V' → Inv i V')
  (hC : ∀ i V, i < l0.length → Inv i V → W.heap.size ≤ V.heap.size → Calls Try.prog K (#[bodyA (rd_T32 l0 (i : Int))] ++ caps) V fun e V' => e = .returned (.bool (hs i)) ∧ Inv (i + 1) V' ∧ V.heap.size ≤ V'.heap.size ∧ ∀ k, W.heap.size ≤ k → k < V.heap.size → V'.heap[k]? = V.heap[k]?)
  (h0 : Inv 0 W) (hlen : l0.length ≤ 1000000) :
  Calls Try.prog 36 #[.slice A0 l0.length c0, .func (.func K) #[] caps] W fun e W' => ∃ v_, e = .returned v_ ∧ Kd.R (Kd.int .u32) 30 W' W.heap.size (fun _ => True) v_ (keysT hs l0 l0.length) ∧ Inv l0.length W' ∧ W.heap.size ≤ W'.heap.size := by
 have HR0 := Lib.hid hr0
 have HB := Lib.hid hB
 have HN := Lib.hid hN
 have HC := Lib.hid hC
 have H0 := Lib.hid h0
 clear hr0 hB hN hC h0
 go_enter Try.func36, Try.ntmps36
 go_wp2_with fail
 go_loopw [5, 10] (fun v5 v10 wr => ∃ i : Nat, v10 = .int .i64 i ∧ i ≤ l0.length ∧ Aside0 (Inv i wr) ∧ Aside0 (Kd.R (Kd.int .u32) 30 wr W.heap.size (fun _ => True) v5 (keysT hs l0 i)) ∧ Aside0 (W.heap.size ≤ wr.heap.size))
  (fun _ v10 _ => (l0.length - intOf v10).toNat)
 case atStart => exact ⟨0, by simp, by omega, aM H0.out, aM (Kd.R_nil _ _ _ _ _), aM (Nat.le_refl _)⟩
 case round =>
  clear H0
  obtain ⟨i, rfl, hi, HI, HO, HZ⟩ := hrel
  by_cases hlt : i < l0.length
  ·have d1 : decide ((i : Int) < (l0.length : Int)) = true := decide_eq_true (by omega)
   have p1 : ((0 : Int) ≤ (i : Int)) = True := eq_true (by omega)
   have q1 : ((i : Int) < (l0.length : Int)) = True := eq_true (by omega)
   obtain ⟨ad, e, x0, x1, x2, x3, x4, x5, x6, x7, x8, x9⟩ := at_T32 (Kd.C_below HR0.out (HB.out _ _ HI.out)) (i : Int) (by omega) (by omega)
   cases e
   simp only [Int.toNat_natCast] at x0 x1 x2 x3 x4 x5 x6 x7 x8 x9
   go_wp2_with fail
   have hQ : (wr.alloc (.cells #[.int .u32 (rd_T32 l0 (i : Int)).f0, .int .i32 (rd_T32 l0 (i : Int)).f1, .int .i32 (rd_T32 l0 (i : Int)).f2.f0, .int .i32 (rd_T32 l0 (i : Int)).f2.f1, .int .i32 (rd_T32 l0 (i : Int)).f3, .int .i32 (rd_T32 l0 (i : Int)).f4, .int .i32 (rd_T32 l0 (i : Int)).f5.f0, .int .i32 (rd_T32 l0 (i : Int)).f5.f1, .int .i32 (rd_T32 l0 (i : Int)).f6.f0, .int .i32 (rd_T32 l0 (i : Int)).f6.f1] 32 (0, 0))).heap[wr.heap.size]? = some (.cells #[.int .u32 (rd_T32 l0 (i : Int)).f0, .int .i32 (rd_T32 l0 (i : Int)).f1, .int .i32 (rd_T32 l0 (i : Int)).f2.f0, .int .i32 (rd_T32 l0 (i : Int)).f2.f1, .int .i32 (rd_T32 l0 (i : Int)).f3, .int .i32 (rd_T32 l0 (i : Int)).f4, .int .i32 (rd_T32 l0 (i : Int)).f5.f0, .int .i32 (rd_T32 l0 (i : Int)).f5.f1, .int .i32 (rd_T32 l0 (i : Int)).f6.f0, .int .i32 (rd_T32 l0 (i : Int)).f6.f1] 32 (0, 0)) := blk_new _ _
   have hI := HN.out _ _ _ HI.out ((lA (Below.refl wr.heap.size wr) (.cells #[.int .u32 (rd_T32 l0 (i : Int)).f0, .int .i32 (rd_T32 l0 (i : Int)).f1, .int .i32 (rd_T32 l0 (i : Int)).f2.f0, .int .i32 (rd_T32 l0 (i : Int)).f2.f1, .int .i32 (rd_T32 l0 (i : Int)).f3, .int .i32 (rd_T32 l0 (i : Int)).f4, .int .i32 (rd_T32 l0 (i : Int)).f5.f0, .int .i32 (rd_T32 l0 (i : Int)).f5.f1, .int .i32 (rd_T32 l0 (i : Int)).f6.f0, .int .i32 (rd_T32 l0 (i : Int)).f6.f1] 32 (0, 0))).mono HZ.out)
   have hO := Kd.R_alloc HO.out (.cells #[.int .u32 (rd_T32 l0 (i : Int)).f0, .int .i32 (rd_T32 l0 (i : Int)).f1, .int .i32 (rd_T32 l0 (i : Int)).f2.f0, .int .i32 (rd_T32 l0 (i : Int)).f2.f1, .int .i32 (rd_T32 l0 (i : Int)).f3, .int .i32 (rd_T32 l0 (i : Int)).f4, .int .i32 (rd_T32 l0 (i : Int)).f5.f0, .int .i32 (rd_T32 l0 (i : Int)).f5.f1, .int .i32 (rd_T32 l0 (i : Int)).f6.f0, .int .i32 (rd_T32 l0 (i : Int)).f6.f1] 32 (0, 0))
   have hZ : wr.heap.size < (wr.alloc (.cells #[.int .u32 (rd_T32 l0 (i : Int)).f0, .int .i32 (rd_T32 l0 (i : Int)).f1, .int .i32 (rd_T32 l0 (i : Int)).f2.f0, .int .i32 (rd_T32 l0 (i : Int)).f2.f1, .int .i32 (rd_T32 l0 (i : Int)).f3, .int .i32 (rd_T32 l0 (i : Int)).f4, .int .i32 (rd_T32 l0 (i : Int)).f5.f0, .int .i32 (rd_T32 l0 (i : Int)).f5.f1, .int .i32 (rd_T32 l0 (i : Int)).f6.f0, .int .i32 (rd_T32 l0 (i : Int)).f6.f1] 32 (0, 0))).heap.size := bL hQ
   have hW := HZ.out
   generalize wr.alloc (.cells #[.int .u32 (rd_T32 l0 (i : Int)).f0, .int .i32 (rd_T32 l0 (i : Int)).f1, .int .i32 (rd_T32 l0 (i : Int)).f2.f0, .int .i32 (rd_T32 l0 (i : Int)).f2.f1, .int .i32 (rd_T32 l0 (i : Int)).f3, .int .i32 (rd_T32 l0 (i : Int)).f4, .int .i32 (rd_T32 l0 (i : Int)).f5.f0, .int .i32 (rd_T32 l0 (i : Int)).f5.f1, .int .i32 (rd_T32 l0 (i : Int)).f6.f0, .int .i32 (rd_T32 l0 (i : Int)).f6.f1] 32 (0, 0)) = V at hQ hI hO hZ ⊢
   generalize wr.heap.size = q at *
   refine (HC.out i V hlt hI (by omega)).mono ?_
   rintro e V1 ⟨rfl, hI1, hz1, hk1⟩
   have hQ1 := (hk1 q hW hZ).trans hQ
   have hO1 : Kd.R (Kd.int .u32) 30 V1 W.heap.size (fun _ => True) u5 (keysT hs l0 i) := Kd.R_step (Kd.R_bound hO) (fun k ho hlt => hk1 k ho.2.1 hlt) |> fun h => Kd.R_mono h (fun _ _ => trivial)
   have y0 : V1.cell? ⟨q, 0, none⟩ = some (.int .u32 (rd_T32 l0 (i : Int)).f0) := (bC hQ1 0).trans rfl
   have HI1 := Lib.hid hI1
   have HO1 := Lib.hid hO1
   have HZ1 := Lib.hid (show W.heap.size ≤ V1.heap.size by omega)
   have hkey : keysT hs l0 (i + 1) = keysT hs l0 i ++ (if hs i = true then [(rd_T32 l0 (i : Int)).f0] else []) := rfl
   have hlen1 := keysT_len hs l0 i
   have hw1 : wrap64 ((i : Int) + 1) = ((i + 1 : Nat) : Int) := keys_next hlt (by omega)
   clear hI hO hI1 hO1 hQ1 hk1 hQ x0 x1 x2 x3 x4 x5 x6 x7 x8 x9 HI HO HZ HC
   cases hh : hs i
   ·rw [hh, if_neg (by decide), List.append_nil] at hkey
    have HKY := Lib.hid hkey
    clear hkey hh
    go_wp2_with fail
    go_roundw
    case rel => exact ⟨i + 1, by first | rfl | (rw [Int.natCast_add]; rfl), hlt, aM HI1.out, aM (by rw [HKY.out]; exact HO1.out), aM HZ1.out⟩
    case measure => exact keys_measure hlt
   ·rw [hh, if_pos rfl] at hkey
    have HKY := Lib.hid hkey
    clear hkey hh
    go_wp2_with (first | ((with_reducible refine gate_builtin (b := .append) (xs := #[.tmp 17, .tmp 20]) rfl ?_); at_builtin; refine Kd.R_append (Kd.int .u32) (w0 := V1) W.heap.size rfl (.tmp 17) (.tmp 20) 35 30 (.int .u32 0) 4 rfl Try.underlying35 info30 rfl (by decide) (by omega) u5 (keysT hs l0 i) ((rd_T32 l0 (i : Int)).f0) [.int .u32 ((rd_T32 l0 (i : Int)).f0)] (fun _ => True) (fun _ => False) rfl rfl ?aP (fun _ hk => hk.elim) ?aF ?aO ?aB ?aS ?aL ?_; (case aP => exact rfl); (case aB => exact Below.refl _ _); (case aF => exact (fun _ _ => trivial)); (case aO => exact HO1.out); (case aS => exact HZ1.out); (case aL => omega); intro v240 w11 ho hb hg hat; have HO2 := Lib.hid ho; have HI2 := Lib.hid (HN.out _ _ _ HI1.out hb); have HZ2 := Lib.hid (Nat.le_trans HZ1.out hb.size); clear ho hb hg hat))
    go_roundw
    case rel => exact ⟨i + 1, by first | rfl | (rw [Int.natCast_add]; rfl), hlt, aM HI2.out, aM (by rw [HKY.out]; exact HO2.out), aM HZ2.out⟩
    case measure => exact keys_measure hlt
  ·have d1 : decide ((i : Int) < (l0.length : Int)) = false := decide_eq_false (by omega)
   obtain rfl : i = l0.length := by omega
   go_wp2_with fail
   go_ret
   exact ⟨_, rfl, HO.out, HI.out, HZ.out⟩

end Go.Proofs.Ytabcnaceffpekaa.Q
