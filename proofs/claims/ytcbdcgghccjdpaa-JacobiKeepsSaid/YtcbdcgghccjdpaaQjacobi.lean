-- PRINTED by print.py (a twelfth state) out of the translation. Not trusted: Lean checks it.
import Derived.Test.YtcbdcgghccjdpaaQ0
import Derived.Test.YtcbdcgghccjdpaaMspec
import Derived.Test.YtcbdcgghccjdpaaQfx
import Derived.Test.YtcbdcgghccjdpaaQimpulse
import Derived.Test.YtcbdcgghccjdpaaQview
import Derived.Deep.RegionHeld3
import Derived.Deep.RegionWith
import Derived.Lib.Hide
namespace Go.Proofs.Ytcbdcgghccjdpaa.Q
open Go.RowKit Go.Proofs.YtcbdcgghccjdpaaW.PrintWords Go.Proofs.YtcbdcgghccjdpaaW.PrintLast Go.Proofs.YtcbdcgghccjdpaaW.PrintMore
open Go.Proofs.YtcbdcgghccjdpaaW.PrintWords renaming blk_drewN → bN, blk_drew → bD, blk_alloc → bA, blk_below → bB, blk_cell → bC, blk_frozen → bF, blk_far → bR, blk_lt → bL, blk_put → bP, below_alloc → lA, pw_below_drewN → lN, below_drew1 → lD, below_set → lS, below_step → lT, below_size → lZ, Aside0.mk → aM
open List renaming setIfInBounds_toArray → sA, set_cons_zero → sB, set_cons_succ → sC
open Bool renaming true → T, false → F
attribute [local go_sem] max2_int min2_int max_two min_two max_three min_three max_four min_four   -- for this text's walks alone
set_option linter.unusedVariables false
set_option linter.unusedSimpArgs false

/-! ### jacobi_Sums: function 11 (given) -/
-- IMPORT Derived.Test.YtcbdcgghccjdpaaMspec
-- IMPORT Derived.Lib.Hide
-- IMPORT Derived.Deep.RegionHeld3
-- IMPORT Derived.Deep.RegionWith
-- NEEDS billiard/view.Find
-- NEEDS billiard/impulse.Strength
-- NEEDS billiard/impulse.Change
/-- What a contact adds to the two lists of sums: the changes of velocity of both bodies. -/
def sumsL (v : List S44) : List S41 → List Int → List Int → Option (List Int × List Int)
 | [], xs, ys => some (xs, ys)
 | c :: l, xs, ys => (view_Find.f v c.f0.f0).bind fun p => (view_Find.f v c.f0.f1).bind fun q => if p.1 < (v.length : Int) ∧ q.1 < (v.length : Int) then
   (let a := rd_T44 v p.1; let b := rd_T44 v q.1
    (impulse_Strength.f 1 c.f0.f0 c.f0.f1 c.f1.f0 c.f1.f1 c.f2 a.f0 a.f1 a.f2.f0 a.f2.f1 a.f3 a.f4 a.f5.f0 a.f5.f1 a.f6.f0 a.f6.f1 b.f0 b.f1 b.f2.f0 b.f2.f1 b.f3 b.f4 b.f5.f0 b.f5.f1 b.f6.f0 b.f6.f1).bind fun j => (impulse_Change.f j a.f3 c.f1.f0 c.f1.f1).bind fun d => (impulse_Change.f j b.f3 c.f1.f0 c.f1.f1).bind fun e =>
    (let xs1 := xs.set p.1.toNat (wrap64 (xs.getD p.1.toNat 0 - d.1)); let ys1 := ys.set p.1.toNat (wrap64 (ys.getD p.1.toNat 0 - d.2))
    sumsL v l (xs1.set q.1.toNat (wrap64 (xs1.getD q.1.toNat 0 + e.1))) (ys1.set q.1.toNat (wrap64 (ys1.getD q.1.toNat 0 + e.2)))))
   else none
def jacobi_Sums.f (v : List S44) (l : List S41) : Option (List Int × List Int) := if v.length ≤ 1000000 then sumsL v l (List.replicate v.length 0) (List.replicate v.length 0) else none
/-- The cells of a list of numbers. -/
def i64s (xs : List Int) : Array Value := (xs.map (fun x => Value.int .i64 x)).toArray
theorem i64s_at {xs : List Int} {m : Nat} (h : m < xs.length) : (i64s xs)[m]? = some (.int .i64 (xs.getD m 0)) := by simp [i64s, List.getD, h]
theorem i64s_set (xs : List Int) (m : Nat) (y : Int) : (i64s xs).setIfInBounds m (.int .i64 y) = i64s (xs.set m y) := by simp [i64s, List.map_set]
/-- What stands between two contacts. -/
structure SumS (w W : World) (b g h : Nat) (A0 : Option Addr) (n c0 : Nat) (xs ys : List Int) : Prop where
 hw : Below w.heap.size w W
 bb : w.heap.size ≤ b
 gb : w.heap.size ≤ g
 hb : w.heap.size ≤ h
 ng : b ≠ g
 nh : b ≠ h
 gh : g ≠ h
 hs : W.heap[b]? = some (.cells #[.slice A0 n c0, .slice (some ⟨g, 0, none⟩) n n, .slice (some ⟨h, 0, none⟩) n n] 51 (0, 0))
 hx : W.heap[g]? = some (.cells (i64s xs) 2 (0, 0))
 hy : W.heap[h]? = some (.cells (i64s ys) 2 (0, 0))
 lx : xs.length = n
 ly : ys.length = n
theorem SumS.next {w W W' : World} {b g h n c0 : Nat} {A0 : Option Addr} {xs ys : List Int} (k : SumS w W b g h A0 n c0 xs ys) (hb : Below W.heap.size W W') : SumS w W' b g h A0 n c0 xs ys :=
 ⟨k.hw.trans (hb.mono k.hw.size), k.bb, k.gb, k.hb, k.ng, k.nh, k.gh, bB k.hs hb, bB k.hx hb, bB k.hy hb, k.lx, k.ly⟩
theorem SumS.put {w W : World} {b g h n c0 : Nat} {A0 : Option Addr} {xs ys : List Int} (k : SumS w W b g h A0 n c0 xs ys) (m : Nat) (x y : Int) : SumS w ((W.setCell ⟨g, m, none⟩ (.int .i64 x)).setCell ⟨h, m, none⟩ (.int .i64 y)) b g h A0 n c0 (xs.set m x) (ys.set m y) :=
 ⟨lS (lS k.hw k.gb) k.hb, k.bb, k.gb, k.hb, k.ng, k.nh, k.gh, bR (bR k.hs (p := ⟨g, m, none⟩) k.ng _) (p := ⟨h, m, none⟩) k.nh _,
  bR (bP k.hx m _ (i64s_set xs m x)) (p := ⟨h, m, none⟩) k.gh _, bP (bR k.hy (p := ⟨g, m, none⟩) (fun e => k.gh e.symm) _) m _ (i64s_set ys m y), by simp [k.lx], by simp [k.ly]⟩
theorem SumS.cells {w W : World} {b g h n c0 : Nat} {A0 : Option Addr} {xs ys : List Int} (k : SumS w W b g h A0 n c0 xs ys) : W.cell? ⟨b, 0, none⟩ = some (.slice A0 n c0) ∧ W.cell? ⟨b, 1, none⟩ = some (.slice (some ⟨g, 0, none⟩) n n) ∧ W.cell? ⟨b, 2, none⟩ = some (.slice (some ⟨h, 0, none⟩) n n) :=
 ⟨(bC k.hs 0).trans rfl, (bC k.hs 1).trans rfl, (bC k.hs 2).trans rfl⟩
theorem sum_body {W : World} {ad0 : Addr} {n : Nat} {v : List S44} (h : Kd.C k44 W (some ad0) n v) (m : Nat) (hm : m < n) : W.cell? (ad0.add (m * 10)) = some (.int .u32 (rd_T44 v (m : Int)).f0) ∧ W.cell? ⟨(ad0.add (m * 10)).block, (ad0.add (m * 10)).off + 1, none⟩ = some (.int .i32 (rd_T44 v (m : Int)).f1) ∧ W.cell? ⟨(ad0.add (m * 10)).block, (ad0.add (m * 10)).off + 2, none⟩ = some (.int .i32 (rd_T44 v (m : Int)).f2.f0) ∧ W.cell? ⟨(ad0.add (m * 10)).block, (ad0.add (m * 10)).off + 3, none⟩ = some (.int .i32 (rd_T44 v (m : Int)).f2.f1) ∧ W.cell? ⟨(ad0.add (m * 10)).block, (ad0.add (m * 10)).off + 4, none⟩ = some (.int .i32 (rd_T44 v (m : Int)).f3) ∧ W.cell? ⟨(ad0.add (m * 10)).block, (ad0.add (m * 10)).off + 5, none⟩ = some (.int .i32 (rd_T44 v (m : Int)).f4) ∧ W.cell? ⟨(ad0.add (m * 10)).block, (ad0.add (m * 10)).off + 6, none⟩ = some (.int .i32 (rd_T44 v (m : Int)).f5.f0) ∧ W.cell? ⟨(ad0.add (m * 10)).block, (ad0.add (m * 10)).off + 7, none⟩ = some (.int .i32 (rd_T44 v (m : Int)).f5.f1) ∧ W.cell? ⟨(ad0.add (m * 10)).block, (ad0.add (m * 10)).off + 8, none⟩ = some (.int .i32 (rd_T44 v (m : Int)).f6.f0) ∧ W.cell? ⟨(ad0.add (m * 10)).block, (ad0.add (m * 10)).off + 9, none⟩ = some (.int .i32 (rd_T44 v (m : Int)).f6.f1) := by
 obtain ⟨ad', e, x⟩ := at_T44 h (m : Int) (by omega) (by omega)
 cases e
 simpa only [Int.toNat_natCast] using x
theorem sum_box {W : World} {q : Nat} {c : S41} (h : W.heap[q]? = some (.cells #[.int .u32 c.f0.f0, .int .u32 c.f0.f1, .int .i32 c.f1.f0, .int .i32 c.f1.f1, .int .i32 c.f2] 41 (0, 0))) : W.cell? ⟨q, 0, none⟩ = some (.int .u32 c.f0.f0) ∧ W.cell? ⟨q, 1, none⟩ = some (.int .u32 c.f0.f1) ∧ W.cell? ⟨q, 2, none⟩ = some (.int .i32 c.f1.f0) ∧ W.cell? ⟨q, 3, none⟩ = some (.int .i32 c.f1.f1) ∧ W.cell? ⟨q, 4, none⟩ = some (.int .i32 c.f2) :=
 ⟨(bC h 0).trans rfl, (bC h 1).trans rfl, (bC h 2).trans rfl, (bC h 3).trans rfl, (bC h 4).trans rfl⟩
set_option maxRecDepth 100000 in
set_option maxHeartbeats 16000000 in
theorem sums_add.calls {w W : World} {b g h c0 : Nat} {A0 : Option Addr} {v : List S44} {xs ys : List Int} (hr0 : Kd.C k44 w A0 v.length v) (hc0 : v.length ≤ c0) (hS : SumS w W b g h A0 v.length c0 xs ys) (c : S41) {m k : Nat} {pb qb : Bool} {j d1 d2 e1 e2 : Int}
  (hF1 : view_Find.f v c.f0.f0 = some ((m : Int), pb)) (hF2 : view_Find.f v c.f0.f1 = some ((k : Int), qb)) (hm : m < v.length) (hk : k < v.length)
  (hJ : impulse_Strength.f 1 c.f0.f0 c.f0.f1 c.f1.f0 c.f1.f1 c.f2 (rd_T44 v (m : Int)).f0 (rd_T44 v (m : Int)).f1 (rd_T44 v (m : Int)).f2.f0 (rd_T44 v (m : Int)).f2.f1 (rd_T44 v (m : Int)).f3 (rd_T44 v (m : Int)).f4 (rd_T44 v (m : Int)).f5.f0 (rd_T44 v (m : Int)).f5.f1 (rd_T44 v (m : Int)).f6.f0 (rd_T44 v (m : Int)).f6.f1 (rd_T44 v (k : Int)).f0 (rd_T44 v (k : Int)).f1 (rd_T44 v (k : Int)).f2.f0 (rd_T44 v (k : Int)).f2.f1 (rd_T44 v (k : Int)).f3 (rd_T44 v (k : Int)).f4 (rd_T44 v (k : Int)).f5.f0 (rd_T44 v (k : Int)).f5.f1 (rd_T44 v (k : Int)).f6.f0 (rd_T44 v (k : Int)).f6.f1 = some j)
  (hD : impulse_Change.f j (rd_T44 v (m : Int)).f3 c.f1.f0 c.f1.f1 = some (d1, d2)) (hE : impulse_Change.f j (rd_T44 v (k : Int)).f3 c.f1.f0 c.f1.f1 = some (e1, e2)) :
  Calls Try.prog 22 #[.pointer (some ⟨b, 0, none⟩), .agg #[.int .u32 c.f0.f0, .int .u32 c.f0.f1, .int .i32 c.f1.f0, .int .i32 c.f1.f1, .int .i32 c.f2]] W fun e W' => e = .returned (.tuple #[]) ∧ SumS w W' b g h A0 v.length c0
   ((xs.set m (wrap64 (xs.getD m 0 - d1))).set k (wrap64 ((xs.set m (wrap64 (xs.getD m 0 - d1))).getD k 0 + e1))) ((ys.set m (wrap64 (ys.getD m 0 - d2))).set k (wrap64 ((ys.set m (wrap64 (ys.getD m 0 - d2))).getD k 0 + e2))) := by
 have HR0 := Lib.hid hr0
 have HF1 := Lib.hid (fun W hr => view_Find.calls A0 c0 v _ _ _ W hr hc0 hF1)
 have HF2 := Lib.hid (fun W hr => view_Find.calls A0 c0 v _ _ _ W hr hc0 hF2)
 have HJ := Lib.hid (fun W => impulse_Strength.calls 1 _ _ _ _ _ _ _ _ _ _ _ _ _ _ _ _ _ _ _ _ _ _ _ _ _ _ W hJ)
 have HD := Lib.hid (fun W => impulse_Change.calls _ _ _ _ _ _ W hD)
 have HE := Lib.hid (fun W => impulse_Change.calls _ _ _ _ _ _ W hE)
 obtain ⟨ad0, rfl, _⟩ := at_T44 (Kd.C_below hr0 hS.hw) (m : Int) (by omega) (by omega)
 have HS := Lib.hid hS
 have i1 : ((0 : Int) ≤ (m : Int)) = True := eq_true (by omega)
 have i2 : ((m : Int) < (v.length : Int)) = True := eq_true (by omega)
 have i3 : ((0 : Int) ≤ (k : Int)) = True := eq_true (by omega)
 have i4 : ((k : Int) < (v.length : Int)) = True := eq_true (by omega)
 clear hr0 hF1 hF2 hJ hD hE hS
 go_enter Try.func22, Try.ntmps22
 go_wp2_with fail
 have hC0 : (W.alloc (.cells #[.int .u32 c.f0.f0, .int .u32 c.f0.f1, .int .i32 c.f1.f0, .int .i32 c.f1.f1, .int .i32 c.f2] 41 (0, 0))).heap[W.heap.size]? = some (.cells #[.int .u32 c.f0.f0, .int .u32 c.f0.f1, .int .i32 c.f1.f0, .int .i32 c.f1.f1, .int .i32 c.f2] 41 (0, 0)) := blk_new _ _
 have hS0 := HS.out.next (lA (Below.refl _ _) (.cells #[.int .u32 c.f0.f0, .int .u32 c.f0.f1, .int .i32 c.f1.f0, .int .i32 c.f1.f1, .int .i32 c.f2] 41 (0, 0)))
 have hqg : W.heap.size ≠ g := by have := bL HS.out.hx; omega
 have hqh : W.heap.size ≠ h := by have := bL HS.out.hy; omega
 generalize W.alloc (.cells #[.int .u32 c.f0.f0, .int .u32 c.f0.f1, .int .i32 c.f1.f0, .int .i32 c.f1.f1, .int .i32 c.f2] 41 (0, 0)) = V0 at *
 generalize W.heap.size = q at *
 have hS1 := hS0.next (below_drew (Below.refl _ _))
 have hC1 := bB hC0 (below_drew (Below.refl V0.heap.size V0))
 have K1 := (⟨hS1.cells, sum_box hC1⟩ : (V0.drew.cell? ⟨b, 0, none⟩ = some (.slice (some ad0) v.length c0) ∧ V0.drew.cell? ⟨b, 1, none⟩ = some (.slice (some ⟨g, 0, none⟩) v.length v.length) ∧ V0.drew.cell? ⟨b, 2, none⟩ = some (.slice (some ⟨h, 0, none⟩) v.length v.length)) ∧ (V0.drew.cell? ⟨q, 0, none⟩ = some (.int .u32 c.f0.f0) ∧ V0.drew.cell? ⟨q, 1, none⟩ = some (.int .u32 c.f0.f1) ∧ V0.drew.cell? ⟨q, 2, none⟩ = some (.int .i32 c.f1.f0) ∧ V0.drew.cell? ⟨q, 3, none⟩ = some (.int .i32 c.f1.f1) ∧ V0.drew.cell? ⟨q, 4, none⟩ = some (.int .i32 c.f2)))
 go_region_held3 (fun V => (V.cell? ⟨b, 0, none⟩ = some (.slice (some ad0) v.length c0) ∧ V.cell? ⟨b, 1, none⟩ = some (.slice (some ⟨g, 0, none⟩) v.length v.length) ∧ V.cell? ⟨b, 2, none⟩ = some (.slice (some ⟨h, 0, none⟩) v.length v.length)) ∧ (V.cell? ⟨q, 0, none⟩ = some (.int .u32 c.f0.f0) ∧ V.cell? ⟨q, 1, none⟩ = some (.int .u32 c.f0.f1) ∧ V.cell? ⟨q, 2, none⟩ = some (.int .i32 c.f1.f0) ∧ V.cell? ⟨q, 3, none⟩ = some (.int .i32 c.f1.f1) ∧ V.cell? ⟨q, 4, none⟩ = some (.int .i32 c.f2)))
  (first | (with_reducible exact K1) | (with_reducible exact K2))
  (first | (go_at_call 28; refine (HF1.out _ (Kd.C_below HR0.out hS1.hw)).mono ?_; rintro e W1 ⟨rfl, hb2⟩; have hS2 := hS1.next hb2; have hC2 := bB hC1 hb2; have K2 := (⟨hS2.cells, sum_box hC2⟩ : (W1.cell? ⟨b, 0, none⟩ = some (.slice (some ad0) v.length c0) ∧ W1.cell? ⟨b, 1, none⟩ = some (.slice (some ⟨g, 0, none⟩) v.length v.length) ∧ W1.cell? ⟨b, 2, none⟩ = some (.slice (some ⟨h, 0, none⟩) v.length v.length)) ∧ (W1.cell? ⟨q, 0, none⟩ = some (.int .u32 c.f0.f0) ∧ W1.cell? ⟨q, 1, none⟩ = some (.int .u32 c.f0.f1) ∧ W1.cell? ⟨q, 2, none⟩ = some (.int .i32 c.f1.f0) ∧ W1.cell? ⟨q, 3, none⟩ = some (.int .i32 c.f1.f1) ∧ W1.cell? ⟨q, 4, none⟩ = some (.int .i32 c.f2)))))
 rename_i hHeld
 clear hHeld K1 K2 hS0 hS1 hC0 hC1 hb2
 go_wp2_with fail
 have hS3 := hS2.next (below_drew (Below.refl _ _))
 have hC3 := bB hC2 (below_drew (Below.refl W1.heap.size W1))
 have K3 := (⟨hS3.cells, sum_box hC3⟩ : (W1.drew.cell? ⟨b, 0, none⟩ = some (.slice (some ad0) v.length c0) ∧ W1.drew.cell? ⟨b, 1, none⟩ = some (.slice (some ⟨g, 0, none⟩) v.length v.length) ∧ W1.drew.cell? ⟨b, 2, none⟩ = some (.slice (some ⟨h, 0, none⟩) v.length v.length)) ∧ (W1.drew.cell? ⟨q, 0, none⟩ = some (.int .u32 c.f0.f0) ∧ W1.drew.cell? ⟨q, 1, none⟩ = some (.int .u32 c.f0.f1) ∧ W1.drew.cell? ⟨q, 2, none⟩ = some (.int .i32 c.f1.f0) ∧ W1.drew.cell? ⟨q, 3, none⟩ = some (.int .i32 c.f1.f1) ∧ W1.drew.cell? ⟨q, 4, none⟩ = some (.int .i32 c.f2)))
 go_region_held3 (fun V => (V.cell? ⟨b, 0, none⟩ = some (.slice (some ad0) v.length c0) ∧ V.cell? ⟨b, 1, none⟩ = some (.slice (some ⟨g, 0, none⟩) v.length v.length) ∧ V.cell? ⟨b, 2, none⟩ = some (.slice (some ⟨h, 0, none⟩) v.length v.length)) ∧ (V.cell? ⟨q, 0, none⟩ = some (.int .u32 c.f0.f0) ∧ V.cell? ⟨q, 1, none⟩ = some (.int .u32 c.f0.f1) ∧ V.cell? ⟨q, 2, none⟩ = some (.int .i32 c.f1.f0) ∧ V.cell? ⟨q, 3, none⟩ = some (.int .i32 c.f1.f1) ∧ V.cell? ⟨q, 4, none⟩ = some (.int .i32 c.f2)))
  (first | (with_reducible exact K3) | (with_reducible exact K4))
  (first | (go_at_call 28; refine (HF2.out _ (Kd.C_below HR0.out hS3.hw)).mono ?_; rintro e W2 ⟨rfl, hb4⟩; have hS4 := hS3.next hb4; have hC4 := bB hC3 hb4; have K4 := (⟨hS4.cells, sum_box hC4⟩ : (W2.cell? ⟨b, 0, none⟩ = some (.slice (some ad0) v.length c0) ∧ W2.cell? ⟨b, 1, none⟩ = some (.slice (some ⟨g, 0, none⟩) v.length v.length) ∧ W2.cell? ⟨b, 2, none⟩ = some (.slice (some ⟨h, 0, none⟩) v.length v.length)) ∧ (W2.cell? ⟨q, 0, none⟩ = some (.int .u32 c.f0.f0) ∧ W2.cell? ⟨q, 1, none⟩ = some (.int .u32 c.f0.f1) ∧ W2.cell? ⟨q, 2, none⟩ = some (.int .i32 c.f1.f0) ∧ W2.cell? ⟨q, 3, none⟩ = some (.int .i32 c.f1.f1) ∧ W2.cell? ⟨q, 4, none⟩ = some (.int .i32 c.f2)))))
 rename_i hHeld
 clear hHeld K3 K4 hS2 hS3 hC2 hC3 hb4
 go_wp2_with fail
 have hS5 := hS4.next (below_drew (Below.refl _ _))
 have hC5 := bB hC4 (below_drew (Below.refl W2.heap.size W2))
 have K5 := (⟨hS5.cells, sum_box hC5, sum_body (Kd.C_below HR0.out hS5.hw) m hm, sum_body (Kd.C_below HR0.out hS5.hw) k hk⟩ : (W2.drew.cell? ⟨b, 0, none⟩ = some (.slice (some ad0) v.length c0) ∧ W2.drew.cell? ⟨b, 1, none⟩ = some (.slice (some ⟨g, 0, none⟩) v.length v.length) ∧ W2.drew.cell? ⟨b, 2, none⟩ = some (.slice (some ⟨h, 0, none⟩) v.length v.length)) ∧ (W2.drew.cell? ⟨q, 0, none⟩ = some (.int .u32 c.f0.f0) ∧ W2.drew.cell? ⟨q, 1, none⟩ = some (.int .u32 c.f0.f1) ∧ W2.drew.cell? ⟨q, 2, none⟩ = some (.int .i32 c.f1.f0) ∧ W2.drew.cell? ⟨q, 3, none⟩ = some (.int .i32 c.f1.f1) ∧ W2.drew.cell? ⟨q, 4, none⟩ = some (.int .i32 c.f2)) ∧ (W2.drew.cell? (ad0.add (m * 10)) = some (.int .u32 (rd_T44 v (m : Int)).f0) ∧ W2.drew.cell? ⟨(ad0.add (m * 10)).block, (ad0.add (m * 10)).off + 1, none⟩ = some (.int .i32 (rd_T44 v (m : Int)).f1) ∧ W2.drew.cell? ⟨(ad0.add (m * 10)).block, (ad0.add (m * 10)).off + 2, none⟩ = some (.int .i32 (rd_T44 v (m : Int)).f2.f0) ∧ W2.drew.cell? ⟨(ad0.add (m * 10)).block, (ad0.add (m * 10)).off + 3, none⟩ = some (.int .i32 (rd_T44 v (m : Int)).f2.f1) ∧ W2.drew.cell? ⟨(ad0.add (m * 10)).block, (ad0.add (m * 10)).off + 4, none⟩ = some (.int .i32 (rd_T44 v (m : Int)).f3) ∧ W2.drew.cell? ⟨(ad0.add (m * 10)).block, (ad0.add (m * 10)).off + 5, none⟩ = some (.int .i32 (rd_T44 v (m : Int)).f4) ∧ W2.drew.cell? ⟨(ad0.add (m * 10)).block, (ad0.add (m * 10)).off + 6, none⟩ = some (.int .i32 (rd_T44 v (m : Int)).f5.f0) ∧ W2.drew.cell? ⟨(ad0.add (m * 10)).block, (ad0.add (m * 10)).off + 7, none⟩ = some (.int .i32 (rd_T44 v (m : Int)).f5.f1) ∧ W2.drew.cell? ⟨(ad0.add (m * 10)).block, (ad0.add (m * 10)).off + 8, none⟩ = some (.int .i32 (rd_T44 v (m : Int)).f6.f0) ∧ W2.drew.cell? ⟨(ad0.add (m * 10)).block, (ad0.add (m * 10)).off + 9, none⟩ = some (.int .i32 (rd_T44 v (m : Int)).f6.f1)) ∧ (W2.drew.cell? (ad0.add (k * 10)) = some (.int .u32 (rd_T44 v (k : Int)).f0) ∧ W2.drew.cell? ⟨(ad0.add (k * 10)).block, (ad0.add (k * 10)).off + 1, none⟩ = some (.int .i32 (rd_T44 v (k : Int)).f1) ∧ W2.drew.cell? ⟨(ad0.add (k * 10)).block, (ad0.add (k * 10)).off + 2, none⟩ = some (.int .i32 (rd_T44 v (k : Int)).f2.f0) ∧ W2.drew.cell? ⟨(ad0.add (k * 10)).block, (ad0.add (k * 10)).off + 3, none⟩ = some (.int .i32 (rd_T44 v (k : Int)).f2.f1) ∧ W2.drew.cell? ⟨(ad0.add (k * 10)).block, (ad0.add (k * 10)).off + 4, none⟩ = some (.int .i32 (rd_T44 v (k : Int)).f3) ∧ W2.drew.cell? ⟨(ad0.add (k * 10)).block, (ad0.add (k * 10)).off + 5, none⟩ = some (.int .i32 (rd_T44 v (k : Int)).f4) ∧ W2.drew.cell? ⟨(ad0.add (k * 10)).block, (ad0.add (k * 10)).off + 6, none⟩ = some (.int .i32 (rd_T44 v (k : Int)).f5.f0) ∧ W2.drew.cell? ⟨(ad0.add (k * 10)).block, (ad0.add (k * 10)).off + 7, none⟩ = some (.int .i32 (rd_T44 v (k : Int)).f5.f1) ∧ W2.drew.cell? ⟨(ad0.add (k * 10)).block, (ad0.add (k * 10)).off + 8, none⟩ = some (.int .i32 (rd_T44 v (k : Int)).f6.f0) ∧ W2.drew.cell? ⟨(ad0.add (k * 10)).block, (ad0.add (k * 10)).off + 9, none⟩ = some (.int .i32 (rd_T44 v (k : Int)).f6.f1)))
 go_region_held3 (fun V => (V.cell? ⟨b, 0, none⟩ = some (.slice (some ad0) v.length c0) ∧ V.cell? ⟨b, 1, none⟩ = some (.slice (some ⟨g, 0, none⟩) v.length v.length) ∧ V.cell? ⟨b, 2, none⟩ = some (.slice (some ⟨h, 0, none⟩) v.length v.length)) ∧ (V.cell? ⟨q, 0, none⟩ = some (.int .u32 c.f0.f0) ∧ V.cell? ⟨q, 1, none⟩ = some (.int .u32 c.f0.f1) ∧ V.cell? ⟨q, 2, none⟩ = some (.int .i32 c.f1.f0) ∧ V.cell? ⟨q, 3, none⟩ = some (.int .i32 c.f1.f1) ∧ V.cell? ⟨q, 4, none⟩ = some (.int .i32 c.f2)) ∧ (V.cell? (ad0.add (m * 10)) = some (.int .u32 (rd_T44 v (m : Int)).f0) ∧ V.cell? ⟨(ad0.add (m * 10)).block, (ad0.add (m * 10)).off + 1, none⟩ = some (.int .i32 (rd_T44 v (m : Int)).f1) ∧ V.cell? ⟨(ad0.add (m * 10)).block, (ad0.add (m * 10)).off + 2, none⟩ = some (.int .i32 (rd_T44 v (m : Int)).f2.f0) ∧ V.cell? ⟨(ad0.add (m * 10)).block, (ad0.add (m * 10)).off + 3, none⟩ = some (.int .i32 (rd_T44 v (m : Int)).f2.f1) ∧ V.cell? ⟨(ad0.add (m * 10)).block, (ad0.add (m * 10)).off + 4, none⟩ = some (.int .i32 (rd_T44 v (m : Int)).f3) ∧ V.cell? ⟨(ad0.add (m * 10)).block, (ad0.add (m * 10)).off + 5, none⟩ = some (.int .i32 (rd_T44 v (m : Int)).f4) ∧ V.cell? ⟨(ad0.add (m * 10)).block, (ad0.add (m * 10)).off + 6, none⟩ = some (.int .i32 (rd_T44 v (m : Int)).f5.f0) ∧ V.cell? ⟨(ad0.add (m * 10)).block, (ad0.add (m * 10)).off + 7, none⟩ = some (.int .i32 (rd_T44 v (m : Int)).f5.f1) ∧ V.cell? ⟨(ad0.add (m * 10)).block, (ad0.add (m * 10)).off + 8, none⟩ = some (.int .i32 (rd_T44 v (m : Int)).f6.f0) ∧ V.cell? ⟨(ad0.add (m * 10)).block, (ad0.add (m * 10)).off + 9, none⟩ = some (.int .i32 (rd_T44 v (m : Int)).f6.f1)) ∧ (V.cell? (ad0.add (k * 10)) = some (.int .u32 (rd_T44 v (k : Int)).f0) ∧ V.cell? ⟨(ad0.add (k * 10)).block, (ad0.add (k * 10)).off + 1, none⟩ = some (.int .i32 (rd_T44 v (k : Int)).f1) ∧ V.cell? ⟨(ad0.add (k * 10)).block, (ad0.add (k * 10)).off + 2, none⟩ = some (.int .i32 (rd_T44 v (k : Int)).f2.f0) ∧ V.cell? ⟨(ad0.add (k * 10)).block, (ad0.add (k * 10)).off + 3, none⟩ = some (.int .i32 (rd_T44 v (k : Int)).f2.f1) ∧ V.cell? ⟨(ad0.add (k * 10)).block, (ad0.add (k * 10)).off + 4, none⟩ = some (.int .i32 (rd_T44 v (k : Int)).f3) ∧ V.cell? ⟨(ad0.add (k * 10)).block, (ad0.add (k * 10)).off + 5, none⟩ = some (.int .i32 (rd_T44 v (k : Int)).f4) ∧ V.cell? ⟨(ad0.add (k * 10)).block, (ad0.add (k * 10)).off + 6, none⟩ = some (.int .i32 (rd_T44 v (k : Int)).f5.f0) ∧ V.cell? ⟨(ad0.add (k * 10)).block, (ad0.add (k * 10)).off + 7, none⟩ = some (.int .i32 (rd_T44 v (k : Int)).f5.f1) ∧ V.cell? ⟨(ad0.add (k * 10)).block, (ad0.add (k * 10)).off + 8, none⟩ = some (.int .i32 (rd_T44 v (k : Int)).f6.f0) ∧ V.cell? ⟨(ad0.add (k * 10)).block, (ad0.add (k * 10)).off + 9, none⟩ = some (.int .i32 (rd_T44 v (k : Int)).f6.f1)))
  (first | (with_reducible exact K5) | (with_reducible exact K6))
  (first | (go_at_call 29; refine (HJ.out _).mono ?_; rintro e W3 ⟨rfl, hb6⟩; have hS6 := hS5.next hb6; have hC6 := bB hC5 hb6; have K6 := (⟨hS6.cells, sum_box hC6, sum_body (Kd.C_below HR0.out hS6.hw) m hm, sum_body (Kd.C_below HR0.out hS6.hw) k hk⟩ : (W3.cell? ⟨b, 0, none⟩ = some (.slice (some ad0) v.length c0) ∧ W3.cell? ⟨b, 1, none⟩ = some (.slice (some ⟨g, 0, none⟩) v.length v.length) ∧ W3.cell? ⟨b, 2, none⟩ = some (.slice (some ⟨h, 0, none⟩) v.length v.length)) ∧ (W3.cell? ⟨q, 0, none⟩ = some (.int .u32 c.f0.f0) ∧ W3.cell? ⟨q, 1, none⟩ = some (.int .u32 c.f0.f1) ∧ W3.cell? ⟨q, 2, none⟩ = some (.int .i32 c.f1.f0) ∧ W3.cell? ⟨q, 3, none⟩ = some (.int .i32 c.f1.f1) ∧ W3.cell? ⟨q, 4, none⟩ = some (.int .i32 c.f2)) ∧ (W3.cell? (ad0.add (m * 10)) = some (.int .u32 (rd_T44 v (m : Int)).f0) ∧ W3.cell? ⟨(ad0.add (m * 10)).block, (ad0.add (m * 10)).off + 1, none⟩ = some (.int .i32 (rd_T44 v (m : Int)).f1) ∧ W3.cell? ⟨(ad0.add (m * 10)).block, (ad0.add (m * 10)).off + 2, none⟩ = some (.int .i32 (rd_T44 v (m : Int)).f2.f0) ∧ W3.cell? ⟨(ad0.add (m * 10)).block, (ad0.add (m * 10)).off + 3, none⟩ = some (.int .i32 (rd_T44 v (m : Int)).f2.f1) ∧ W3.cell? ⟨(ad0.add (m * 10)).block, (ad0.add (m * 10)).off + 4, none⟩ = some (.int .i32 (rd_T44 v (m : Int)).f3) ∧ W3.cell? ⟨(ad0.add (m * 10)).block, (ad0.add (m * 10)).off + 5, none⟩ = some (.int .i32 (rd_T44 v (m : Int)).f4) ∧ W3.cell? ⟨(ad0.add (m * 10)).block, (ad0.add (m * 10)).off + 6, none⟩ = some (.int .i32 (rd_T44 v (m : Int)).f5.f0) ∧ W3.cell? ⟨(ad0.add (m * 10)).block, (ad0.add (m * 10)).off + 7, none⟩ = some (.int .i32 (rd_T44 v (m : Int)).f5.f1) ∧ W3.cell? ⟨(ad0.add (m * 10)).block, (ad0.add (m * 10)).off + 8, none⟩ = some (.int .i32 (rd_T44 v (m : Int)).f6.f0) ∧ W3.cell? ⟨(ad0.add (m * 10)).block, (ad0.add (m * 10)).off + 9, none⟩ = some (.int .i32 (rd_T44 v (m : Int)).f6.f1)) ∧ (W3.cell? (ad0.add (k * 10)) = some (.int .u32 (rd_T44 v (k : Int)).f0) ∧ W3.cell? ⟨(ad0.add (k * 10)).block, (ad0.add (k * 10)).off + 1, none⟩ = some (.int .i32 (rd_T44 v (k : Int)).f1) ∧ W3.cell? ⟨(ad0.add (k * 10)).block, (ad0.add (k * 10)).off + 2, none⟩ = some (.int .i32 (rd_T44 v (k : Int)).f2.f0) ∧ W3.cell? ⟨(ad0.add (k * 10)).block, (ad0.add (k * 10)).off + 3, none⟩ = some (.int .i32 (rd_T44 v (k : Int)).f2.f1) ∧ W3.cell? ⟨(ad0.add (k * 10)).block, (ad0.add (k * 10)).off + 4, none⟩ = some (.int .i32 (rd_T44 v (k : Int)).f3) ∧ W3.cell? ⟨(ad0.add (k * 10)).block, (ad0.add (k * 10)).off + 5, none⟩ = some (.int .i32 (rd_T44 v (k : Int)).f4) ∧ W3.cell? ⟨(ad0.add (k * 10)).block, (ad0.add (k * 10)).off + 6, none⟩ = some (.int .i32 (rd_T44 v (k : Int)).f5.f0) ∧ W3.cell? ⟨(ad0.add (k * 10)).block, (ad0.add (k * 10)).off + 7, none⟩ = some (.int .i32 (rd_T44 v (k : Int)).f5.f1) ∧ W3.cell? ⟨(ad0.add (k * 10)).block, (ad0.add (k * 10)).off + 8, none⟩ = some (.int .i32 (rd_T44 v (k : Int)).f6.f0) ∧ W3.cell? ⟨(ad0.add (k * 10)).block, (ad0.add (k * 10)).off + 9, none⟩ = some (.int .i32 (rd_T44 v (k : Int)).f6.f1)))))
 rename_i hHeld
 clear hHeld K5 K6 hS4 hS5 hC4 hC5 hb6
 go_wp2_with fail
 have hS7 := hS6.next (below_drew (Below.refl _ _))
 have hC7 := bB hC6 (below_drew (Below.refl W3.heap.size W3))
 have K7 := (⟨hS7.cells, sum_box hC7, sum_body (Kd.C_below HR0.out hS7.hw) m hm⟩ : (W3.drew.cell? ⟨b, 0, none⟩ = some (.slice (some ad0) v.length c0) ∧ W3.drew.cell? ⟨b, 1, none⟩ = some (.slice (some ⟨g, 0, none⟩) v.length v.length) ∧ W3.drew.cell? ⟨b, 2, none⟩ = some (.slice (some ⟨h, 0, none⟩) v.length v.length)) ∧ (W3.drew.cell? ⟨q, 0, none⟩ = some (.int .u32 c.f0.f0) ∧ W3.drew.cell? ⟨q, 1, none⟩ = some (.int .u32 c.f0.f1) ∧ W3.drew.cell? ⟨q, 2, none⟩ = some (.int .i32 c.f1.f0) ∧ W3.drew.cell? ⟨q, 3, none⟩ = some (.int .i32 c.f1.f1) ∧ W3.drew.cell? ⟨q, 4, none⟩ = some (.int .i32 c.f2)) ∧ (W3.drew.cell? (ad0.add (m * 10)) = some (.int .u32 (rd_T44 v (m : Int)).f0) ∧ W3.drew.cell? ⟨(ad0.add (m * 10)).block, (ad0.add (m * 10)).off + 1, none⟩ = some (.int .i32 (rd_T44 v (m : Int)).f1) ∧ W3.drew.cell? ⟨(ad0.add (m * 10)).block, (ad0.add (m * 10)).off + 2, none⟩ = some (.int .i32 (rd_T44 v (m : Int)).f2.f0) ∧ W3.drew.cell? ⟨(ad0.add (m * 10)).block, (ad0.add (m * 10)).off + 3, none⟩ = some (.int .i32 (rd_T44 v (m : Int)).f2.f1) ∧ W3.drew.cell? ⟨(ad0.add (m * 10)).block, (ad0.add (m * 10)).off + 4, none⟩ = some (.int .i32 (rd_T44 v (m : Int)).f3) ∧ W3.drew.cell? ⟨(ad0.add (m * 10)).block, (ad0.add (m * 10)).off + 5, none⟩ = some (.int .i32 (rd_T44 v (m : Int)).f4) ∧ W3.drew.cell? ⟨(ad0.add (m * 10)).block, (ad0.add (m * 10)).off + 6, none⟩ = some (.int .i32 (rd_T44 v (m : Int)).f5.f0) ∧ W3.drew.cell? ⟨(ad0.add (m * 10)).block, (ad0.add (m * 10)).off + 7, none⟩ = some (.int .i32 (rd_T44 v (m : Int)).f5.f1) ∧ W3.drew.cell? ⟨(ad0.add (m * 10)).block, (ad0.add (m * 10)).off + 8, none⟩ = some (.int .i32 (rd_T44 v (m : Int)).f6.f0) ∧ W3.drew.cell? ⟨(ad0.add (m * 10)).block, (ad0.add (m * 10)).off + 9, none⟩ = some (.int .i32 (rd_T44 v (m : Int)).f6.f1)))
 go_region_held3 (fun V => (V.cell? ⟨b, 0, none⟩ = some (.slice (some ad0) v.length c0) ∧ V.cell? ⟨b, 1, none⟩ = some (.slice (some ⟨g, 0, none⟩) v.length v.length) ∧ V.cell? ⟨b, 2, none⟩ = some (.slice (some ⟨h, 0, none⟩) v.length v.length)) ∧ (V.cell? ⟨q, 0, none⟩ = some (.int .u32 c.f0.f0) ∧ V.cell? ⟨q, 1, none⟩ = some (.int .u32 c.f0.f1) ∧ V.cell? ⟨q, 2, none⟩ = some (.int .i32 c.f1.f0) ∧ V.cell? ⟨q, 3, none⟩ = some (.int .i32 c.f1.f1) ∧ V.cell? ⟨q, 4, none⟩ = some (.int .i32 c.f2)) ∧ (V.cell? (ad0.add (m * 10)) = some (.int .u32 (rd_T44 v (m : Int)).f0) ∧ V.cell? ⟨(ad0.add (m * 10)).block, (ad0.add (m * 10)).off + 1, none⟩ = some (.int .i32 (rd_T44 v (m : Int)).f1) ∧ V.cell? ⟨(ad0.add (m * 10)).block, (ad0.add (m * 10)).off + 2, none⟩ = some (.int .i32 (rd_T44 v (m : Int)).f2.f0) ∧ V.cell? ⟨(ad0.add (m * 10)).block, (ad0.add (m * 10)).off + 3, none⟩ = some (.int .i32 (rd_T44 v (m : Int)).f2.f1) ∧ V.cell? ⟨(ad0.add (m * 10)).block, (ad0.add (m * 10)).off + 4, none⟩ = some (.int .i32 (rd_T44 v (m : Int)).f3) ∧ V.cell? ⟨(ad0.add (m * 10)).block, (ad0.add (m * 10)).off + 5, none⟩ = some (.int .i32 (rd_T44 v (m : Int)).f4) ∧ V.cell? ⟨(ad0.add (m * 10)).block, (ad0.add (m * 10)).off + 6, none⟩ = some (.int .i32 (rd_T44 v (m : Int)).f5.f0) ∧ V.cell? ⟨(ad0.add (m * 10)).block, (ad0.add (m * 10)).off + 7, none⟩ = some (.int .i32 (rd_T44 v (m : Int)).f5.f1) ∧ V.cell? ⟨(ad0.add (m * 10)).block, (ad0.add (m * 10)).off + 8, none⟩ = some (.int .i32 (rd_T44 v (m : Int)).f6.f0) ∧ V.cell? ⟨(ad0.add (m * 10)).block, (ad0.add (m * 10)).off + 9, none⟩ = some (.int .i32 (rd_T44 v (m : Int)).f6.f1)))
  (first | (with_reducible exact K7) | (with_reducible exact K8))
  (first | (go_at_call 30; refine (HD.out _).mono ?_; rintro e W4 ⟨rfl, hb8⟩; have hS8 := hS7.next hb8; have hC8 := bB hC7 hb8; have K8 := (⟨hS8.cells, sum_box hC8, sum_body (Kd.C_below HR0.out hS8.hw) m hm⟩ : (W4.cell? ⟨b, 0, none⟩ = some (.slice (some ad0) v.length c0) ∧ W4.cell? ⟨b, 1, none⟩ = some (.slice (some ⟨g, 0, none⟩) v.length v.length) ∧ W4.cell? ⟨b, 2, none⟩ = some (.slice (some ⟨h, 0, none⟩) v.length v.length)) ∧ (W4.cell? ⟨q, 0, none⟩ = some (.int .u32 c.f0.f0) ∧ W4.cell? ⟨q, 1, none⟩ = some (.int .u32 c.f0.f1) ∧ W4.cell? ⟨q, 2, none⟩ = some (.int .i32 c.f1.f0) ∧ W4.cell? ⟨q, 3, none⟩ = some (.int .i32 c.f1.f1) ∧ W4.cell? ⟨q, 4, none⟩ = some (.int .i32 c.f2)) ∧ (W4.cell? (ad0.add (m * 10)) = some (.int .u32 (rd_T44 v (m : Int)).f0) ∧ W4.cell? ⟨(ad0.add (m * 10)).block, (ad0.add (m * 10)).off + 1, none⟩ = some (.int .i32 (rd_T44 v (m : Int)).f1) ∧ W4.cell? ⟨(ad0.add (m * 10)).block, (ad0.add (m * 10)).off + 2, none⟩ = some (.int .i32 (rd_T44 v (m : Int)).f2.f0) ∧ W4.cell? ⟨(ad0.add (m * 10)).block, (ad0.add (m * 10)).off + 3, none⟩ = some (.int .i32 (rd_T44 v (m : Int)).f2.f1) ∧ W4.cell? ⟨(ad0.add (m * 10)).block, (ad0.add (m * 10)).off + 4, none⟩ = some (.int .i32 (rd_T44 v (m : Int)).f3) ∧ W4.cell? ⟨(ad0.add (m * 10)).block, (ad0.add (m * 10)).off + 5, none⟩ = some (.int .i32 (rd_T44 v (m : Int)).f4) ∧ W4.cell? ⟨(ad0.add (m * 10)).block, (ad0.add (m * 10)).off + 6, none⟩ = some (.int .i32 (rd_T44 v (m : Int)).f5.f0) ∧ W4.cell? ⟨(ad0.add (m * 10)).block, (ad0.add (m * 10)).off + 7, none⟩ = some (.int .i32 (rd_T44 v (m : Int)).f5.f1) ∧ W4.cell? ⟨(ad0.add (m * 10)).block, (ad0.add (m * 10)).off + 8, none⟩ = some (.int .i32 (rd_T44 v (m : Int)).f6.f0) ∧ W4.cell? ⟨(ad0.add (m * 10)).block, (ad0.add (m * 10)).off + 9, none⟩ = some (.int .i32 (rd_T44 v (m : Int)).f6.f1)))))
 rename_i hHeld
 clear hHeld K7 K8 hS6 hS7 hC6 hC7 hb8
 go_wp2_with fail
 obtain ⟨s0, s1, s2⟩ := hS8.cells
 have x0 : W4.cell? ⟨g, m, none⟩ = some (.int .i64 (xs.getD m 0)) := (bC hS8.hx _).trans (i64s_at (by rw [hS8.lx]; exact hm))
 have y0 : W4.cell? ⟨h, m, none⟩ = some (.int .i64 (ys.getD m 0)) := (bC hS8.hy _).trans (i64s_at (by rw [hS8.ly]; exact hm))
 have xf := bF hS8.hx m
 have yf := bF hS8.hy m
 have hgh := hS8.gh
 have HSx := Lib.hid ((hS8.put m (wrap64 (xs.getD m 0 - d1)) (wrap64 (ys.getD m 0 - d2))).next (below_drew (Below.refl _ _)))
 have HCx := Lib.hid (bD (bR (bR hC8 (p := ⟨g, m, none⟩) hqg (.int .i64 (wrap64 (xs.getD m 0 - d1)))) (p := ⟨h, m, none⟩) hqh (.int .i64 (wrap64 (ys.getD m 0 - d2)))))
 clear hS8 hC8
 generalize hX_ : xs.getD m 0 = X8 at *
 generalize hY_ : ys.getD m 0 = Y8 at *
 have HX8 := Lib.hid hX_; have HY8 := Lib.hid hY_
 clear hX_ hY_
 go_region
 generalize ((W4.setCell ⟨g, m, none⟩ (.int .i64 (wrap64 (X8 - d1)))).setCell ⟨h, m, none⟩ (.int .i64 (wrap64 (Y8 - d2)))).drew = W5 at *
 have hS10 := HSx.out; have hC10 := HCx.out
 clear HSx HCx s0 s1 s2 x0 y0 xf yf hgh
 generalize hz_ : xs.set m (wrap64 (X8 - d1)) = xs1 at *
 have Hxs := Lib.hid hz_
 clear hz_
 generalize hz_ : ys.set m (wrap64 (Y8 - d2)) = ys1 at *
 have Hys := Lib.hid hz_
 clear hz_
 go_wp2_with fail
 have hS11 := hS10.next (below_drew (Below.refl _ _))
 have hC11 := bB hC10 (below_drew (Below.refl W5.heap.size W5))
 have K11 := (⟨hS11.cells, sum_box hC11, sum_body (Kd.C_below HR0.out hS11.hw) k hk⟩ : (W5.drew.cell? ⟨b, 0, none⟩ = some (.slice (some ad0) v.length c0) ∧ W5.drew.cell? ⟨b, 1, none⟩ = some (.slice (some ⟨g, 0, none⟩) v.length v.length) ∧ W5.drew.cell? ⟨b, 2, none⟩ = some (.slice (some ⟨h, 0, none⟩) v.length v.length)) ∧ (W5.drew.cell? ⟨q, 0, none⟩ = some (.int .u32 c.f0.f0) ∧ W5.drew.cell? ⟨q, 1, none⟩ = some (.int .u32 c.f0.f1) ∧ W5.drew.cell? ⟨q, 2, none⟩ = some (.int .i32 c.f1.f0) ∧ W5.drew.cell? ⟨q, 3, none⟩ = some (.int .i32 c.f1.f1) ∧ W5.drew.cell? ⟨q, 4, none⟩ = some (.int .i32 c.f2)) ∧ (W5.drew.cell? (ad0.add (k * 10)) = some (.int .u32 (rd_T44 v (k : Int)).f0) ∧ W5.drew.cell? ⟨(ad0.add (k * 10)).block, (ad0.add (k * 10)).off + 1, none⟩ = some (.int .i32 (rd_T44 v (k : Int)).f1) ∧ W5.drew.cell? ⟨(ad0.add (k * 10)).block, (ad0.add (k * 10)).off + 2, none⟩ = some (.int .i32 (rd_T44 v (k : Int)).f2.f0) ∧ W5.drew.cell? ⟨(ad0.add (k * 10)).block, (ad0.add (k * 10)).off + 3, none⟩ = some (.int .i32 (rd_T44 v (k : Int)).f2.f1) ∧ W5.drew.cell? ⟨(ad0.add (k * 10)).block, (ad0.add (k * 10)).off + 4, none⟩ = some (.int .i32 (rd_T44 v (k : Int)).f3) ∧ W5.drew.cell? ⟨(ad0.add (k * 10)).block, (ad0.add (k * 10)).off + 5, none⟩ = some (.int .i32 (rd_T44 v (k : Int)).f4) ∧ W5.drew.cell? ⟨(ad0.add (k * 10)).block, (ad0.add (k * 10)).off + 6, none⟩ = some (.int .i32 (rd_T44 v (k : Int)).f5.f0) ∧ W5.drew.cell? ⟨(ad0.add (k * 10)).block, (ad0.add (k * 10)).off + 7, none⟩ = some (.int .i32 (rd_T44 v (k : Int)).f5.f1) ∧ W5.drew.cell? ⟨(ad0.add (k * 10)).block, (ad0.add (k * 10)).off + 8, none⟩ = some (.int .i32 (rd_T44 v (k : Int)).f6.f0) ∧ W5.drew.cell? ⟨(ad0.add (k * 10)).block, (ad0.add (k * 10)).off + 9, none⟩ = some (.int .i32 (rd_T44 v (k : Int)).f6.f1)))
 go_region_held3 (fun V => (V.cell? ⟨b, 0, none⟩ = some (.slice (some ad0) v.length c0) ∧ V.cell? ⟨b, 1, none⟩ = some (.slice (some ⟨g, 0, none⟩) v.length v.length) ∧ V.cell? ⟨b, 2, none⟩ = some (.slice (some ⟨h, 0, none⟩) v.length v.length)) ∧ (V.cell? ⟨q, 0, none⟩ = some (.int .u32 c.f0.f0) ∧ V.cell? ⟨q, 1, none⟩ = some (.int .u32 c.f0.f1) ∧ V.cell? ⟨q, 2, none⟩ = some (.int .i32 c.f1.f0) ∧ V.cell? ⟨q, 3, none⟩ = some (.int .i32 c.f1.f1) ∧ V.cell? ⟨q, 4, none⟩ = some (.int .i32 c.f2)) ∧ (V.cell? (ad0.add (k * 10)) = some (.int .u32 (rd_T44 v (k : Int)).f0) ∧ V.cell? ⟨(ad0.add (k * 10)).block, (ad0.add (k * 10)).off + 1, none⟩ = some (.int .i32 (rd_T44 v (k : Int)).f1) ∧ V.cell? ⟨(ad0.add (k * 10)).block, (ad0.add (k * 10)).off + 2, none⟩ = some (.int .i32 (rd_T44 v (k : Int)).f2.f0) ∧ V.cell? ⟨(ad0.add (k * 10)).block, (ad0.add (k * 10)).off + 3, none⟩ = some (.int .i32 (rd_T44 v (k : Int)).f2.f1) ∧ V.cell? ⟨(ad0.add (k * 10)).block, (ad0.add (k * 10)).off + 4, none⟩ = some (.int .i32 (rd_T44 v (k : Int)).f3) ∧ V.cell? ⟨(ad0.add (k * 10)).block, (ad0.add (k * 10)).off + 5, none⟩ = some (.int .i32 (rd_T44 v (k : Int)).f4) ∧ V.cell? ⟨(ad0.add (k * 10)).block, (ad0.add (k * 10)).off + 6, none⟩ = some (.int .i32 (rd_T44 v (k : Int)).f5.f0) ∧ V.cell? ⟨(ad0.add (k * 10)).block, (ad0.add (k * 10)).off + 7, none⟩ = some (.int .i32 (rd_T44 v (k : Int)).f5.f1) ∧ V.cell? ⟨(ad0.add (k * 10)).block, (ad0.add (k * 10)).off + 8, none⟩ = some (.int .i32 (rd_T44 v (k : Int)).f6.f0) ∧ V.cell? ⟨(ad0.add (k * 10)).block, (ad0.add (k * 10)).off + 9, none⟩ = some (.int .i32 (rd_T44 v (k : Int)).f6.f1)))
  (first | (with_reducible exact K11) | (with_reducible exact K12))
  (first | (go_at_call 30; refine (HE.out _).mono ?_; rintro e W6 ⟨rfl, hb12⟩; have hS12 := hS11.next hb12; have hC12 := bB hC11 hb12; have K12 := (⟨hS12.cells, sum_box hC12, sum_body (Kd.C_below HR0.out hS12.hw) k hk⟩ : (W6.cell? ⟨b, 0, none⟩ = some (.slice (some ad0) v.length c0) ∧ W6.cell? ⟨b, 1, none⟩ = some (.slice (some ⟨g, 0, none⟩) v.length v.length) ∧ W6.cell? ⟨b, 2, none⟩ = some (.slice (some ⟨h, 0, none⟩) v.length v.length)) ∧ (W6.cell? ⟨q, 0, none⟩ = some (.int .u32 c.f0.f0) ∧ W6.cell? ⟨q, 1, none⟩ = some (.int .u32 c.f0.f1) ∧ W6.cell? ⟨q, 2, none⟩ = some (.int .i32 c.f1.f0) ∧ W6.cell? ⟨q, 3, none⟩ = some (.int .i32 c.f1.f1) ∧ W6.cell? ⟨q, 4, none⟩ = some (.int .i32 c.f2)) ∧ (W6.cell? (ad0.add (k * 10)) = some (.int .u32 (rd_T44 v (k : Int)).f0) ∧ W6.cell? ⟨(ad0.add (k * 10)).block, (ad0.add (k * 10)).off + 1, none⟩ = some (.int .i32 (rd_T44 v (k : Int)).f1) ∧ W6.cell? ⟨(ad0.add (k * 10)).block, (ad0.add (k * 10)).off + 2, none⟩ = some (.int .i32 (rd_T44 v (k : Int)).f2.f0) ∧ W6.cell? ⟨(ad0.add (k * 10)).block, (ad0.add (k * 10)).off + 3, none⟩ = some (.int .i32 (rd_T44 v (k : Int)).f2.f1) ∧ W6.cell? ⟨(ad0.add (k * 10)).block, (ad0.add (k * 10)).off + 4, none⟩ = some (.int .i32 (rd_T44 v (k : Int)).f3) ∧ W6.cell? ⟨(ad0.add (k * 10)).block, (ad0.add (k * 10)).off + 5, none⟩ = some (.int .i32 (rd_T44 v (k : Int)).f4) ∧ W6.cell? ⟨(ad0.add (k * 10)).block, (ad0.add (k * 10)).off + 6, none⟩ = some (.int .i32 (rd_T44 v (k : Int)).f5.f0) ∧ W6.cell? ⟨(ad0.add (k * 10)).block, (ad0.add (k * 10)).off + 7, none⟩ = some (.int .i32 (rd_T44 v (k : Int)).f5.f1) ∧ W6.cell? ⟨(ad0.add (k * 10)).block, (ad0.add (k * 10)).off + 8, none⟩ = some (.int .i32 (rd_T44 v (k : Int)).f6.f0) ∧ W6.cell? ⟨(ad0.add (k * 10)).block, (ad0.add (k * 10)).off + 9, none⟩ = some (.int .i32 (rd_T44 v (k : Int)).f6.f1)))))
 rename_i hHeld
 clear hHeld K11 K12 hS10 hS11 hC10 hC11 hb12
 go_wp2_with fail
 obtain ⟨s0, s1, s2⟩ := hS12.cells
 have x0 : W6.cell? ⟨g, k, none⟩ = some (.int .i64 (xs1.getD k 0)) := (bC hS12.hx _).trans (i64s_at (by rw [hS12.lx]; exact hk))
 have y0 : W6.cell? ⟨h, k, none⟩ = some (.int .i64 (ys1.getD k 0)) := (bC hS12.hy _).trans (i64s_at (by rw [hS12.ly]; exact hk))
 have xf := bF hS12.hx k
 have yf := bF hS12.hy k
 have hgh := hS12.gh
 have HSx := Lib.hid ((hS12.put k (wrap64 (xs1.getD k 0 + e1)) (wrap64 (ys1.getD k 0 + e2))).next (below_drew (Below.refl _ _)))
 have HCx := Lib.hid (bD (bR (bR hC12 (p := ⟨g, k, none⟩) hqg (.int .i64 (wrap64 (xs1.getD k 0 + e1)))) (p := ⟨h, k, none⟩) hqh (.int .i64 (wrap64 (ys1.getD k 0 + e2)))))
 clear hS12 hC12
 generalize hX_ : xs1.getD k 0 = X12 at *
 generalize hY_ : ys1.getD k 0 = Y12 at *
 have HX12 := Lib.hid hX_; have HY12 := Lib.hid hY_
 clear hX_ hY_
 go_region
 generalize ((W6.setCell ⟨g, k, none⟩ (.int .i64 (wrap64 (X12 + e1)))).setCell ⟨h, k, none⟩ (.int .i64 (wrap64 (Y12 + e2)))).drew = W7 at *
 have hS14 := HSx.out; have hC14 := HCx.out
 clear HSx HCx s0 s1 s2 x0 y0 xf yf hgh
 go_end0
 rw [HX8.out, HY8.out, Hxs.out, Hys.out, HX12.out, HY12.out]
 exact ⟨rfl, hS14⟩
/-- One contact after another. -/
theorem sum_next {i n : Nat} (h : i < n) (hn : n ≤ 9223372036854775807) : wrap64 ((i : Int) + 1) = ((i + 1 : Nat) : Int) := by unfold wrap64; omega
theorem sum_measure {i n : Nat} (h : i < n) : ((n : Int) - intOf (.int .i64 ((i + 1 : Nat) : Int))).toNat < ((n : Int) - intOf (.int .i64 (i : Int))).toNat := by show ((n : Int) - ((i + 1 : Nat) : Int)).toNat < ((n : Int) - (i : Int)).toNat; omega
theorem sum_find {v : List S44} {key p : Int} {b : Bool} (h : view_Find.f v key = some (p, b)) : ∃ m : Nat, p = (m : Int) ∧ m ≤ v.length := by
 unfold view_Find.f at h
 split at h
 ·simp only [Option.some.injEq, Prod.mk.injEq] at h
  exact ⟨cutK v key, h.1.symm, cutK_le v key⟩
 ·cases h
set_option maxRecDepth 100000 in
set_option maxHeartbeats 16000000 in
theorem jacobi_each.calls {w W : World} {b g h c0 c1 : Nat} {A0 A1 : Option Addr} {l0 : List S44} {l1 : List S41} {xs ys r1 r2 : List Int} (hr0 : Kd.C k44 w A0 l0.length l0) (hc0 : l0.length ≤ c0) (hr1 : Kd.C k41 w A1 l1.length l1) (hc1 : l1.length ≤ c1) (hS : SumS w W b g h A0 l0.length c0 xs ys)
  (hs : sumsL l0 l1 xs ys = some (r1, r2)) :
  Calls Try.prog 21 #[.slice A1 l1.length c1, .func (.func 22) #[.pointer (some ⟨b, 0, none⟩)] #[]] W fun e W' => e = .returned (.tuple #[]) ∧ SumS w W' b g h A0 l0.length c0 r1 r2 := by
 have H := Lib.hid hs
 have HR0 := Lib.hid hr0
 have HR1 := Lib.hid hr1
 have HL1 := Lib.hid (Kd.C_max hr1)
 have HS := Lib.hid hS
 clear hs hr0 hr1 hS
 go_enter Try.func21, Try.ntmps21
 go_wp2_with fail
 go_loopw [8] (fun p wr => ∃ (i : Nat) (xs ys : List Int), p = .int .i64 i ∧ i ≤ l1.length ∧ Aside0 (sumsL l0 (l1.drop i) xs ys = some (r1, r2)) ∧ SumS w wr b g h A0 l0.length c0 xs ys)
  (fun p _ => (l1.length - intOf p).toNat)
 case atStart => exact ⟨0, xs, ys, by simp, by omega, aM H.out, HS.out⟩
 case round =>
  clear H HS
  obtain ⟨i, xs, ys, rfl, hi, HH, hS⟩ := hrel
  have HS := Lib.hid hS
  clear hS
  by_cases hlt : i < l1.length
  ·have d1 : decide ((i : Int) < (l1.length : Int)) = true := decide_eq_true (by omega)
   have p1 : ((0 : Int) ≤ (i : Int)) = True := eq_true (by omega)
   have q1 : ((i : Int) < (l1.length : Int)) = True := eq_true (by omega)
   obtain ⟨ad, e, x0, x1, x2, x3, x4⟩ := at_T41 (Kd.C_below HR1.out HS.out.hw) (i : Int) (by omega) (by omega)
   cases e
   simp only [Int.toNat_natCast] at x0 x1 x2 x3 x4
   have hd : l1.drop i = rd_T41 l1 (i : Int) :: l1.drop (i + 1) := by
    rw [List.drop_eq_getElem_cons hlt]
    congr 1
    unfold rd_T41
    simp [List.getD, hlt]
   generalize rd_T41 l1 (i : Int) = c at *
   have h := HH.out
   rw [hd] at h
   unfold sumsL at h
   clear hd HH
   obtain ⟨⟨p, pb⟩, hF1, h1⟩ := Option.bind_eq_some_iff.mp h
   obtain ⟨⟨q, qb⟩, hF2, h2⟩ := Option.bind_eq_some_iff.mp h1
   simp only at h2
   split at h2
   rotate_left
   ·cases h2
   rename_i hpq
   obtain ⟨jj, hJ, h3⟩ := Option.bind_eq_some_iff.mp h2
   obtain ⟨⟨d1_, d2_⟩, hD, h4⟩ := Option.bind_eq_some_iff.mp h3
   obtain ⟨⟨e1_, e2_⟩, hE, h5⟩ := Option.bind_eq_some_iff.mp h4
   clear h h1 h2 h3 h4
   obtain ⟨m, rfl, _⟩ := sum_find hF1
   obtain ⟨k, rfl, _⟩ := sum_find hF2
   have hb0 := HS.out.next (lA (Below.refl _ _) (.cells #[.int .u32 c.f0.f0, .int .u32 c.f0.f1, .int .i32 c.f1.f0, .int .i32 c.f1.f1, .int .i32 c.f2] 41 (0, 0)))
   have HA := Lib.hid (sums_add.calls HR0.out hc0 hb0 c hF1 hF2 (by omega) (by omega) hJ hD hE)
   have HH := Lib.hid h5
   clear h5 hF1 hF2 hJ hD hE hb0
   go_wp2_with fail
   refine HA.out.mono ?_
   rintro e W2 ⟨rfl, hS2⟩
   have h4 := HH.out
   simp only [Int.toNat_natCast] at h4
   have hw1 : wrap64 ((i : Int) + 1) = ((i + 1 : Nat) : Int) := by have := HL1.out; exact sum_next (by omega) HL1.out
   go_wp2_with fail
   rw [hw1]
   go_roundw
   case rel => exact ⟨i + 1, _, _, rfl, hlt, aM h4, hS2⟩
   case measure => exact sum_measure hlt
  ·have d1 : decide ((i : Int) < (l1.length : Int)) = false := decide_eq_false (by omega)
   go_wp2_with fail
   have hd : l1.drop i = [] := List.drop_eq_nil_of_le (by omega)
   have h := HH.out
   rw [hd] at h
   unfold sumsL at h
   cases h
   go_end0
   exact ⟨rfl, HS.out⟩
theorem sum_made_at (z : Array Value) (m j : Nat) (h : j < (madeCells z m).size) : (madeCells z m)[j] = z[j % z.size]! := by simp [madeCells]
theorem sum_made (W : World) (n : Nat) (hn : n ≤ 1000000) : (Instr.makeSlice 28 (.int .i64 (n : Int)) (.int .i64 (n : Int))).run Try.prog W = .ok (.slice (some ⟨W.heap.size, 0, none⟩) n n) (W.alloc (.cells (i64s (List.replicate n 0)) 2)) := by
 obtain ⟨i, hi, hz, hs, hb⟩ := info_parts (show (Try.prog.info? 2).map (fun i => (i.zero, i.size, i.bytes)) = some (some (.int .i64 0), 1, 8) by kernel_rfl)
 have h := run_make (P := Try.prog) W 28 2 i _ Try.underlying28 hi hz .i64 .i64 (n : Int) (n : Int) (by omega) (Int.le_refl _) (by rw [hb]; omega) (by omega)
 rw [h, hs]
 simp only [Int.toNat_natCast]
 have e : madeCells (Value.int .i64 0).cells (n * 1) = i64s (List.replicate n 0) := by
  apply Array.ext
  ·simp [size_madeCells, i64s]
  ·intro j h1 h2
   rw [sum_made_at]
   have hz : (Value.int .i64 0).cells = #[.int .i64 0] := rfl
   rw [hz]
   simp [i64s, Nat.mod_one]
 rw [e]
theorem sum_reps {w : World} {base : Nat} {ok : Nat → Prop} (xs : List Int) : Reps ((Kd.int .i64).M w base ok) (Kd.int .i64).sz xs (xs.map (fun x => Value.int .i64 x)) := by
 have h : ∀ n (xs : List Int), xs.length = n → Reps ((Kd.int .i64).M w base ok) (Kd.int .i64).sz xs (xs.map (fun x => Value.int .i64 x)) := fun n => by
  induction n with
  | zero =>
   intro xs hx
   obtain rfl := List.eq_nil_of_length_eq_zero hx
   exact Reps.none _ _
  | succ n ih =>
   intro xs hx
   obtain ⟨ys, y, rfl⟩ : ∃ ys y, xs = ys ++ [y] := ⟨xs.dropLast, xs.getLast (by intro e; simp [e] at hx), (List.dropLast_concat_getLast _).symm⟩
   rw [List.map_append]
   exact (ih ys (by simpa using hx)).snoc rfl rfl
 exact h _ xs rfl
theorem sum_R {W : World} {base g n : Nat} {xs : List Int} (hx : W.heap[g]? = some (.cells (i64s xs) 2 (0, 0))) (hl : xs.length = n) (hn : n ≤ 1000000) (hg : base ≤ g) {ok : Nat → Prop} (hok : ok g) : Kd.R (Kd.int .i64) 2 W base ok (.slice (some ⟨g, 0, none⟩) n n) xs := by
 refine ⟨fun k hk => (Option.some.inj hk : g = k) ▸ hok, xs.map (fun x => Value.int .i64 x), ⟨by rw [List.length_map]; exact (Nat.mul_one _).symm, .inr ⟨g, n, _, by rw [hl], hg, hx, Nat.le_of_eq hl, by unfold maxLen; omega, by rw [show (i64s xs).size = n by simp [i64s, hl]]; exact (Nat.mul_one n).symm, ?_⟩⟩, sum_reps xs⟩
 unfold i64s
 rw [List.toList_toArray]
 exact List.take_of_length_le (by rw [List.length_map]; exact Nat.le_of_eq (Nat.mul_one _).symm)
/-- The two lists of zeros and the record that holds them. -/
theorem sum_start (w : World) (A0 : Option Addr) (n c0 : Nat) (g h : Nat) (hgh : g = w.heap.size ∧ h = w.heap.size + 1 ∨ g = w.heap.size + 1 ∧ h = w.heap.size) :
  SumS w (((w.alloc (.cells (i64s (List.replicate n 0)) 2 (0, 0))).alloc (.cells (i64s (List.replicate n 0)) 2 (0, 0))).alloc (.cells #[.slice A0 n c0, .slice (some ⟨g, 0, none⟩) n n, .slice (some ⟨h, 0, none⟩) n n] 51 (0, 0))).drew (w.heap.size + 1 + 1) g h A0 n c0 (List.replicate n 0) (List.replicate n 0) := by
 have b0 : ((w.alloc (.cells (i64s (List.replicate n 0)) 2 (0, 0))).alloc (.cells (i64s (List.replicate n 0)) 2 (0, 0))).heap[w.heap.size]? = some (.cells (i64s (List.replicate n 0)) 2 (0, 0)) := bA (blk_new _ _) _
 have b1 : ((w.alloc (.cells (i64s (List.replicate n 0)) 2 (0, 0))).alloc (.cells (i64s (List.replicate n 0)) 2 (0, 0))).heap[w.heap.size + 1]? = some (.cells (i64s (List.replicate n 0)) 2 (0, 0)) := by
  have := blk_new (w.alloc (.cells (i64s (List.replicate n 0)) 2 (0, 0))) (.cells (i64s (List.replicate n 0)) 2 (0, 0))
  simpa only [World.size_alloc] using this
 have hs : ∀ o, (((w.alloc (.cells (i64s (List.replicate n 0)) 2 (0, 0))).alloc (.cells (i64s (List.replicate n 0)) 2 (0, 0))).alloc o).heap[w.heap.size + 1 + 1]? = some o := fun o => by
  have := blk_new ((w.alloc (.cells (i64s (List.replicate n 0)) 2 (0, 0))).alloc (.cells (i64s (List.replicate n 0)) 2 (0, 0))) o
  simpa only [World.size_alloc] using this
 rcases hgh with ⟨rfl, rfl⟩ | ⟨rfl, rfl⟩
 ·exact ⟨below_drew (lA (lA (lA (Below.refl _ _) _) _) _), by omega, by omega, by omega, by omega, by omega, by omega, bD (hs _), bD (bA b0 _), bD (bA b1 _), by simp, by simp⟩
 ·exact ⟨below_drew (lA (lA (lA (Below.refl _ _) _) _) _), by omega, by omega, by omega, by omega, by omega, by omega, bD (hs _), bD (bA b1 _), bD (bA b0 _), by simp, by simp⟩
set_option maxRecDepth 100000 in
set_option maxHeartbeats 16000000 in
theorem jacobi_Sums.calls (A0 : Option Addr) (c0 : Nat) (l0 : List S44) (A1 : Option Addr) (c1 : Nat) (l1 : List S41) (r1 r2 : List Int) (w : World) (hr0 : Kd.C k44 w A0 l0.length l0) (hc0 : l0.length ≤ c0) (hr1 : Kd.C k41 w A1 l1.length l1) (hc1 : l1.length ≤ c1) (h : jacobi_Sums.f l0 l1 = some (r1, r2)) :
  Calls Try.prog 11 #[.slice A0 l0.length c0, .slice A1 l1.length c1] w fun e w' => ∃ v0_ v1_ : Value, e = .returned (.tuple #[v0_, v1_]) ∧ Kd.R (Kd.int .i64) 2 w' w.heap.size (fun k_ => some k_ ≠ v1_.ownBlock) v0_ r1 ∧ Kd.R (Kd.int .i64) 2 w' w.heap.size (fun k_ => some k_ ≠ v0_.ownBlock) v1_ r2 ∧ Below w.heap.size w w' := by
 unfold jacobi_Sums.f at h
 split at h
 rotate_left
 ·cases h
 rename_i hn
 have H := Lib.hid h
 have HR0 := Lib.hid hr0
 have HR1 := Lib.hid hr1
 have hmk := fun W => sum_made W l0.length hn
 clear h hr0 hr1
 go_enter Try.func11, Try.ntmps11
 go_wp2_with fail
 go_region
 all_goals
  go_wp2_with fail
  refine (jacobi_each.calls HR0.out hc0 HR1.out hc1 (by first | exact sum_start w A0 l0.length c0 w.heap.size (w.heap.size + 1) (Or.inl ⟨rfl, rfl⟩) | exact sum_start w A0 l0.length c0 (w.heap.size + 1) w.heap.size (Or.inr ⟨rfl, rfl⟩)) H.out).mono ?_
  rintro e W2 ⟨rfl, hS2⟩
  obtain ⟨s0, s1, s2⟩ := hS2.cells
  have HS2 := Lib.hid hS2
  clear hS2 H HR0 HR1 hmk
  go_wp2_with fail
  go_region
  go_wp2_with fail
  refine bodyPost_ret (v := .tuple #[_, _]) (by simp [results, go_sem]; exact ⟨rfl, rfl⟩) rfl ?_
  exact ⟨_, _, rfl, sum_R HS2.out.hx HS2.out.lx hn HS2.out.gb (fun e => HS2.out.gh (Option.some.inj e)), sum_R HS2.out.hy HS2.out.ly hn HS2.out.hb (fun e => HS2.out.gh (Option.some.inj e).symm), below_drew HS2.out.hw⟩

/-! ### jacobi_Round: function 12 -/
def jacobi_Round.l0 : Nat → List Int → List Int → Bool → List (S44) → List (S44) → Int → Int → Option ((List (S44)) × Bool)
 | 0, _, _, _, _, _, _, _ => none
 | k + 1, x6, x7, x8, x9, x22, x23, x24 => if x24 < x23 then (if 0 ≤ x24 then (if x24 < (x22.length : Int) then (if x24 < (x6.length : Int) then ((fx_Limit.f (wrap64 ((wrap64 ((rd_T44 x22 x24).f6.f0)) + (rd x6 x24))) 16777216).bind fun bt177 => (if x24 < (x7.length : Int) then ((fx_Limit.f (wrap64 ((wrap64 ((rd_T44 x22 x24).f6.f1)) + (rd x7 x24))) 16777216).bind fun bt180 => (if x8 = true then (if x9.length < 3518437208883 then (jacobi_Round.l0 k x6 x7 true (x9 ++ [(⟨(rd_T44 x22 x24).f0, (rd_T44 x22 x24).f1, (⟨(rd_T44 x22 x24).f2.f0, (rd_T44 x22 x24).f2.f1⟩ : S39), (rd_T44 x22 x24).f3, (rd_T44 x22 x24).f4, (⟨(rd_T44 x22 x24).f5.f0, (rd_T44 x22 x24).f5.f1⟩ : S39), (⟨wrap32 (bt177.1), wrap32 (bt180.1)⟩ : S39)⟩ : S44)]) x22 x23 (wrap64 (x24 + 1))) else (none)) else (if bt177.2 = true then (if x9.length < 3518437208883 then (jacobi_Round.l0 k x6 x7 true (x9 ++ [(⟨(rd_T44 x22 x24).f0, (rd_T44 x22 x24).f1, (⟨(rd_T44 x22 x24).f2.f0, (rd_T44 x22 x24).f2.f1⟩ : S39), (rd_T44 x22 x24).f3, (rd_T44 x22 x24).f4, (⟨(rd_T44 x22 x24).f5.f0, (rd_T44 x22 x24).f5.f1⟩ : S39), (⟨wrap32 (bt177.1), wrap32 (bt180.1)⟩ : S39)⟩ : S44)]) x22 x23 (wrap64 (x24 + 1))) else (none)) else (if x9.length < 3518437208883 then (jacobi_Round.l0 k x6 x7 bt180.2 (x9 ++ [(⟨(rd_T44 x22 x24).f0, (rd_T44 x22 x24).f1, (⟨(rd_T44 x22 x24).f2.f0, (rd_T44 x22 x24).f2.f1⟩ : S39), (rd_T44 x22 x24).f3, (rd_T44 x22 x24).f4, (⟨(rd_T44 x22 x24).f5.f0, (rd_T44 x22 x24).f5.f1⟩ : S39), (⟨wrap32 (bt177.1), wrap32 (bt180.1)⟩ : S39)⟩ : S44)]) x22 x23 (wrap64 (x24 + 1))) else (none))))) else (none))) else (none)) else (none)) else (none)) else (some (x9, x8))
def jacobi_Round.f (k : Nat) (l0 : List (S44)) (l1 : List (S41)) : Option ((List (S44)) × Bool) := (jacobi_Sums.f l0 l1).bind fun bt168 => (jacobi_Round.l0 k bt168.1 bt168.2 false ([] : List (S44)) l0 (l0.length : Int) 0)
theorem jacobi_Round.mono_l : ∀ k, (∀ y0 y1 y2 y3 y4 y5 y6, LeO (jacobi_Round.l0 k y0 y1 y2 y3 y4 y5 y6) (jacobi_Round.l0 (k + 1) y0 y1 y2 y3 y4 y5 y6))
 | 0 => fun _ _ _ _ _ _ _ r h => by simp [jacobi_Round.l0] at h
 | k + 1 => by
  have ih0 := jacobi_Round.mono_l k
  ·intro y0 y1 y2 y3 y4 y5 y6
   unfold jacobi_Round.l0
   repeat' first
   | (with_reducible exact ih0 _ _ _ _ _ _ _)
   | (with_reducible exact LeO.refl _)
   | (with_reducible exact LeO.none _)
   | (with_reducible refine LeO.ite ?_ ?_)
   | (with_reducible refine LeO.bind ?_ (fun _ => ?_))
   | exact ih0 _ _ _ _ _ _ _
   | exact LeO.none _
   | refine LeO.ite ?_ ?_
   | refine LeO.bind ?_ (fun _ => ?_)
theorem jacobi_Round.mono : ∀ a0 a1 k, LeO (jacobi_Round.f k a0 a1) (jacobi_Round.f (k + 1) a0 a1) := by
 intro a0 a1 k
 have ih0 := jacobi_Round.mono_l k
 unfold jacobi_Round.f
 repeat' first
   | (with_reducible exact ih0 _ _ _ _ _ _ _)
   | (with_reducible exact LeO.refl _)
   | (with_reducible exact LeO.none _)
   | (with_reducible refine LeO.ite ?_ ?_)
   | (with_reducible refine LeO.bind ?_ (fun _ => ?_))
   | exact ih0 _ _ _ _ _ _ _
   | exact LeO.none _
   | refine LeO.ite ?_ ?_
   | refine LeO.bind ?_ (fun _ => ?_)
def jacobi_Round.T7 : Bool × List (List Nat × List Nat) := (true, [([], []), ([0], [0]), ([1], [1]), ([2], [2]), ([], []), ([], []), ([4, 5], [4, 5]), ([6], [6]), ([3, 7], [3, 7]), ([8], [8]), ([9], [9]), ([10], [10]), ([10], [10]), ([11, 9, 0, 1, 2, 3, 4, 5, 6, 7, 8, 9, 10, 11], [11]), ([12, 13, 0, 1, 2, 3, 4, 5, 6, 7, 8, 9, 10, 11, 12, 13], [12])])
def jacobi_Round.B7 : List Nat := [0, 1, 3, 7, 0, 0, 48, 112, 255, 511, 1023, 2047, 2047, 4095, 16383]
theorem jacobi_Round.tab7 : rtab .any (opsOf Try.f12 7) = jacobi_Round.T7 := by kernel_rfl
theorem jacobi_Round.bits7 : waitsOk jacobi_Round.T7.2 jacobi_Round.B7 = true := by kernel_rfl
def jacobi_Round.T8 : Bool × List (List Nat × List Nat) := (true, [([], []), ([0], [0]), ([1], [1]), ([2], [2]), ([], []), ([], []), ([4, 5], [4, 5]), ([6], [6]), ([3, 7], [3, 7]), ([8], [8]), ([9], [9]), ([10], [10]), ([10], [10]), ([11, 9, 0, 1, 2, 3, 4, 5, 6, 7, 8, 9, 10, 11], [11]), ([12, 13, 0, 1, 2, 3, 4, 5, 6, 7, 8, 9, 10, 11, 12, 13], [12])])
def jacobi_Round.B8 : List Nat := [0, 1, 3, 7, 0, 0, 48, 112, 255, 511, 1023, 2047, 2047, 4095, 16383]
theorem jacobi_Round.tab8 : rtab .any (opsOf Try.f12 8) = jacobi_Round.T8 := by kernel_rfl
theorem jacobi_Round.bits8 : waitsOk jacobi_Round.T8.2 jacobi_Round.B8 = true := by kernel_rfl
set_option maxHeartbeats 8000000 in
set_option maxRecDepth 100000 in
theorem jacobi_Round.calls (k : Nat) (A0 : Option Addr) (c0 : Nat) (l0 : List (S44)) (A1 : Option Addr) (c1 : Nat) (l1 : List (S41)) (r1 : List (S44)) (r2 : Bool) (w : World) (hr0 : Kd.C k44 w A0 l0.length l0) (hc0 : l0.length ≤ c0) (hr1 : Kd.C k41 w A1 l1.length l1) (hc1 : l1.length ≤ c1) (h : jacobi_Round.f k l0 l1 = some (r1, r2)) :
  Calls Try.prog 12 #[.slice A0 l0.length c0, .slice A1 l1.length c1] w fun e w' => ∃ v0_ : Value, e = .returned (.tuple #[v0_, .bool r2]) ∧ Kd.R k44 44 w' w.heap.size (fun _ => True) v0_ r1 ∧ Below w.heap.size w w' := by
 have hu44 := Try.underlying44
 have hu39 := Try.underlying39
 have HR0 := aM hr0
 have HC0 := aM hc0
 clear hr0 hc0
 have HR1 := aM hr1
 have HC1 := aM hc1
 clear hr1 hc1
 have HB := aM (Below.refl w.heap.size w)
 have H : ((jacobi_Sums.f l0 l1).bind fun bt168 => (jacobi_Round.l0 k bt168.1 bt168.2 false ([] : List (S44)) l0 (l0.length : Int) 0)) = some (r1, r2) := h
 clear h
 replace H := Option.bind_eq_some_iff.mp H
 obtain ⟨⟨t168, t169⟩, A30, H⟩ := H
 try dsimp only at H
 have A3 := aM A30
 clear A30
 have H' := aM H
 clear H
 go_enter Try.func12, Try.ntmps12
 go_wp2_with (first | ((with_reducible refine gate_callee (f := 11) rfl ?_); refine goesL_ (some 19) rfl rfl Try.func11 (by kernel_rfl) rfl #[.slice A0 l0.length c0, .slice A1 l1.length c1] rfl (by (try simp only [List.map_toArray, List.map_cons, List.map_nil]); first | done | rfl | (simp only [List.length_drop, List.length_take]; rfl)) ?_; (with_reducible refine (jacobi_Sums.calls _ _ l0 _ _ l1 t168 t169 _ ?side1 ?side2 ?side3 ?side4 A3.out).mono ?_); (case side1 => repeat (first | exact HR0.out | (with_reducible refine Kd.C_alloc ?_ _) | (with_reducible refine Kd.C_drewN ?_ _) | (with_reducible refine Kd.C_drew ?_))); (case side2 => exact HC0.out); (case side3 => repeat (first | exact HR1.out | (with_reducible refine Kd.C_alloc ?_ _) | (with_reducible refine Kd.C_drewN ?_ _) | (with_reducible refine Kd.C_drew ?_))); (case side4 => exact HC1.out); rintro e w4 ⟨v170, v172, rfl, ho0, ho1, hb⟩; refine ⟨_, rfl, ?_⟩; have n0_ := aM (Kd.R_lower ho0 (lZ (by repeat (first | (with_reducible first | exact HB.out | apply lA | apply lN | apply lD) | exact HB.out)))); have n1_ := aM (Kd.R_lower ho1 (lZ (by repeat (first | (with_reducible first | exact HB.out | apply lA | apply lN | apply lD) | exact HB.out)))); have n2_ := aM (lT (by repeat (first | (with_reducible first | exact HB.out | apply lA | apply lN | apply lD) | exact HB.out)) hb); clear HB; have HO171 := n0_; have HO173 := n1_; have HB := n2_; clear n0_ n1_ n2_; (try clear hb); (try clear hb2); (try clear hk); (try clear hi); (try clear ho0); (try clear ho1)))
 go_loopg [8, 9, 24] k (fun kq v8 v9 v24 w' => ∃ (x8_1 : Bool) (x9_1 : List (S44)) (x24_1 : Int), v8 = .bool x8_1 ∧ v24 = .int .i64 x24_1 ∧ Aside0 (jacobi_Round.l0 kq t168 t169 x8_1 x9_1 l0 (l0.length : Int) x24_1 = some (r1, r2)) ∧ Aside0 (kq ≤ k) ∧ Aside0 (Kd.R (Kd.int .i64) 2 w' w.heap.size (fun k_ => some k_ ≠ (v172 : Value).ownBlock) v170 t168) ∧ Aside0 (Kd.R (Kd.int .i64) 2 w' w.heap.size (fun k_ => some k_ ≠ (v170 : Value).ownBlock) v172 t169) ∧ Aside0 (Kd.R k44 44 w' w.heap.size (fun _ => True) v9 x9_1) ∧ Aside0 (Below w.heap.size w w'))
 case atStart => exact ⟨(false), (([] : List (S44))), (0), (by first | rfl | (simp; done) | (simp [*]; done)), (by first | rfl | (simp; done) | (simp [*]; done)), H', ⟨Nat.le_refl _⟩, ⟨by (with_reducible repeat (first | apply Kd.R_alloc | apply Kd.R_drewN | apply Kd.R_drew)); exact HO171.out⟩, ⟨by (with_reducible repeat (first | apply Kd.R_alloc | apply Kd.R_drewN | apply Kd.R_drew)); exact HO173.out⟩, ⟨by first | exact Kd.R_nil _ _ _ _ _ | exact Kd.N_nil _ _ _ _ _ | exact Kd.V_nil _ _ _ _ _ | exact Kd.Q_nil _ _ _ _ _ | exact Kd.S_nil _ _ _ _ _⟩, ⟨by repeat (first | (with_reducible first | exact HB.out | apply lA | apply lN | apply lD) | exact HB.out)⟩⟩
 case round =>
  clear H'
  try clear c1
  try clear p2
  obtain ⟨x8_1, x9_1, x24_1, rfl, rfl, HA, HK1, HO_6, HO_7, HO_9, HB⟩ := hrel
  cases gk with
  | zero => exact absurd HA.out (by simp [jacobi_Round.l0])
  | succ k1 =>
   have H := HA.out
   clear HA
   simp only [jacobi_Round.l0] at H
   by_cases c5 : x24_1 < (l0.length : Int)
   ·rw [if_pos c5] at H
    have c5b0 : decide (x24_1 < (l0.length : Int)) = true := decide_eq_true c5
    clear c5
    by_cases c6 : 0 ≤ x24_1
    ·rw [if_pos c6] at H
     have c6b0 : decide (0 ≤ x24_1) = true := decide_eq_true c6
     clear c6
     by_cases c7 : x24_1 < (l0.length : Int)
     ·rw [if_pos c7] at H
      have c7b0 : decide (x24_1 < (l0.length : Int)) = true := decide_eq_true c7
      clear c7
      by_cases c8 : x24_1 < (t168.length : Int)
      ·rw [if_pos c8] at H
       have c8b0 : decide (x24_1 < (t168.length : Int)) = true := decide_eq_true c8
       clear c8
       replace H := Option.bind_eq_some_iff.mp H
       obtain ⟨⟨t177, t178⟩, A90, H⟩ := H
       try dsimp only at H
       have A9 := aM A90
       clear A90
       by_cases c10 : x24_1 < (t169.length : Int)
       ·rw [if_pos c10] at H
        have c10b0 : decide (x24_1 < (t169.length : Int)) = true := decide_eq_true c10
        clear c10
        replace H := Option.bind_eq_some_iff.mp H
        obtain ⟨⟨t180, t181⟩, A110, H⟩ := H
        try dsimp only at H
        have A11 := aM A110
        clear A110
        by_cases c12 : x8_1 = true
        ·subst c12
         rw [if_pos rfl] at H
         by_cases c13 : x9_1.length < 3518437208883
         ·rw [if_pos c13] at H
          have LMc13 := aM c13
          clear c13
          obtain ⟨y182, hy182⟩ : ∃ y_ : List (S44), y_ = (x9_1 ++ [(⟨(rd_T44 l0 x24_1).f0, (rd_T44 l0 x24_1).f1, (⟨(rd_T44 l0 x24_1).f2.f0, (rd_T44 l0 x24_1).f2.f1⟩ : S39), (rd_T44 l0 x24_1).f3, (rd_T44 l0 x24_1).f4, (⟨(rd_T44 l0 x24_1).f5.f0, (rd_T44 l0 x24_1).f5.f1⟩ : S39), (⟨wrap32 (t177), wrap32 (t180)⟩ : S39)⟩ : S44)]) := ⟨_, rfl⟩
          replace H : (jacobi_Round.l0 k1 t168 t169 true y182 l0 (l0.length : Int) (wrap64 (x24_1 + 1))) = some (r1, r2) := by first | (rw [hy182]; with_reducible exact H) | (have H2_ := (Option.bind_some _ _).symm.trans H; rw [hy182]; with_reducible exact H2_) | (have H2_ := (Option.bind_some _ _).symm.trans H; with_reducible exact H2_) | with_reducible exact H | (rw [hy182]; exact H) | exact H
          have Ny182 := aM hy182
          clear hy182
          have H' := aM H
          clear H
          have p174 : 0 ≤ (x24_1 : Int) := of_decide_eq_true (by first | (with_reducible assumption) | assumption)
          have q174 : x24_1 < (l0.length : Int) := of_decide_eq_true (by first | (with_reducible assumption) | assumption)
          obtain ⟨ad174, e174, hx174_0, hx174_1, hx174_2, hx174_3, hx174_4, hx174_5, hx174_6, hx174_7, hx174_8, hx174_9⟩ := at_T44 HR0.out x24_1 p174 q174
          cases e174
          replace hx174_0 := (HB.out.cell (World.block_lt_of_cell? w _ hx174_0)).trans hx174_0
          replace hx174_1 := (HB.out.cell (World.block_lt_of_cell? w _ hx174_1)).trans hx174_1
          replace hx174_2 := (HB.out.cell (World.block_lt_of_cell? w _ hx174_2)).trans hx174_2
          replace hx174_3 := (HB.out.cell (World.block_lt_of_cell? w _ hx174_3)).trans hx174_3
          replace hx174_4 := (HB.out.cell (World.block_lt_of_cell? w _ hx174_4)).trans hx174_4
          replace hx174_5 := (HB.out.cell (World.block_lt_of_cell? w _ hx174_5)).trans hx174_5
          replace hx174_6 := (HB.out.cell (World.block_lt_of_cell? w _ hx174_6)).trans hx174_6
          replace hx174_7 := (HB.out.cell (World.block_lt_of_cell? w _ hx174_7)).trans hx174_7
          replace hx174_8 := (HB.out.cell (World.block_lt_of_cell? w _ hx174_8)).trans hx174_8
          replace hx174_9 := (HB.out.cell (World.block_lt_of_cell? w _ hx174_9)).trans hx174_9
          replace p174 := eq_true p174
          replace q174 := eq_true q174
          try go_wp2_with (first | ((with_reducible refine gate_dst (N := 11) rfl ?_); refine box_event ?hg (N := 11) ?hd (cs := #[.int .u32 0, .int .i32 0, .int .i32 0, .int .i32 0, .int .i32 0, .int .i32 0, .int .i32 0, .int .i32 0, .int .i32 0, .int .i32 0]) (t := 44) ?hr ?_; (case hd => rfl); (case hg => rfl); (case hr => first | (go_simp; done) | (go_simp; rfl)); intro b175 hg w14 hbox hb; have n0_ := aM (Kd.R_below (by (with_reducible repeat (first | apply Kd.R_alloc | apply Kd.R_drewN | apply Kd.R_drew)); exact HO_6.out) hb); have n1_ := aM (Kd.R_below (by (with_reducible repeat (first | apply Kd.R_alloc | apply Kd.R_drewN | apply Kd.R_drew)); exact HO_7.out) hb); have n2_ := aM (Kd.R_below (Kd.R_elderB (by (with_reducible repeat (first | apply Kd.R_alloc | apply Kd.R_drewN | apply Kd.R_drew)); exact HO_9.out) b175 (Nat.le_of_eq hg.symm)) hb); have n3_ := aM (lT (by repeat (first | (with_reducible first | exact HB.out | apply lA | apply lN | apply lD) | exact HB.out)) hb); have n4_ := aM (hbox); have n5_ := aM ((by rw [hg]; exact (lZ (by repeat (first | (with_reducible first | exact HB.out | apply lA | apply lN | apply lD) | exact HB.out))) : w.heap.size ≤ b175)); have n6_ := aM ((by rw [hg]; exact (lZ (by repeat (first | (with_reducible first | exact HB.out | apply lA | apply lN | apply lD) | exact HB.out))) : w.heap.size ≤ b175)); clear HO_6; clear HO_7; clear HO_9; clear HB; have HO_6 := n0_; have HO_7 := n1_; have HO_9 := n2_; have HB := n3_; have BK175 := n4_; have GW175 := n5_; have GE175 := n6_; clear n0_ n1_ n2_ n3_ n4_ n5_ n6_; clear hb hbox hg; have hcz15_0 : w14.cell? ⟨b175, 0, none⟩ = some (.int .u32 0) := (bC BK175.out 0).trans rfl; have hcz15_1 : w14.cell? ⟨b175, 1, none⟩ = some (.int .i32 0) := (bC BK175.out 1).trans rfl; have hcz15_2 : w14.cell? ⟨b175, 2, none⟩ = some (.int .i32 0) := (bC BK175.out 2).trans rfl; have hcz15_3 : w14.cell? ⟨b175, 3, none⟩ = some (.int .i32 0) := (bC BK175.out 3).trans rfl; have hcz15_4 : w14.cell? ⟨b175, 4, none⟩ = some (.int .i32 0) := (bC BK175.out 4).trans rfl; have hcz15_5 : w14.cell? ⟨b175, 5, none⟩ = some (.int .i32 0) := (bC BK175.out 5).trans rfl; have hcz15_6 : w14.cell? ⟨b175, 6, none⟩ = some (.int .i32 0) := (bC BK175.out 6).trans rfl; have hcz15_7 : w14.cell? ⟨b175, 7, none⟩ = some (.int .i32 0) := (bC BK175.out 7).trans rfl; have hcz15_8 : w14.cell? ⟨b175, 8, none⟩ = some (.int .i32 0) := (bC BK175.out 8).trans rfl; have hcz15_9 : w14.cell? ⟨b175, 9, none⟩ = some (.int .i32 0) := (bC BK175.out 9).trans rfl; have hfz15_0 := bF BK175.out 0; have hfz15_1 := bF BK175.out 1; have hfz15_2 := bF BK175.out 2; have hfz15_3 := bF BK175.out 3; have hfz15_4 := bF BK175.out 4; have hfz15_5 := bF BK175.out 5; have hfz15_6 := bF BK175.out 6; have hfz15_7 := bF BK175.out 7; have hfz15_8 := bF BK175.out 8; have hfz15_9 := bF BK175.out 9))
          have n0_ : Aside0 (Kd.R (Kd.int .i64) 2 ((((((((((w14.setCell ⟨b175, 0, none⟩ (.int .u32 ((rd_T44 l0 x24_1).f0))).setCell ⟨b175, 1, none⟩ (.int .i32 ((rd_T44 l0 x24_1).f1))).setCell ⟨b175, 2, none⟩ (.int .i32 ((rd_T44 l0 x24_1).f2.f0))).setCell ⟨b175, 3, none⟩ (.int .i32 ((rd_T44 l0 x24_1).f2.f1))).setCell ⟨b175, 4, none⟩ (.int .i32 ((rd_T44 l0 x24_1).f3))).setCell ⟨b175, 5, none⟩ (.int .i32 ((rd_T44 l0 x24_1).f4))).setCell ⟨b175, 6, none⟩ (.int .i32 ((rd_T44 l0 x24_1).f5.f0))).setCell ⟨b175, 7, none⟩ (.int .i32 ((rd_T44 l0 x24_1).f5.f1))).setCell ⟨b175, 8, none⟩ (.int .i32 ((rd_T44 l0 x24_1).f6.f0))).setCell ⟨b175, 9, none⟩ (.int .i32 ((rd_T44 l0 x24_1).f6.f1))) w.heap.size (fun k_ => some k_ ≠ (v172 : Value).ownBlock) v170 t168) := ⟨by (with_reducible repeat (first | apply Kd.R_alloc | apply Kd.R_drewN | apply Kd.R_drew)); exact Kd.R_mono (Kd.R_far (p := ⟨b175, 9, none⟩) (Kd.R_far (p := ⟨b175, 8, none⟩) (Kd.R_far (p := ⟨b175, 7, none⟩) (Kd.R_far (p := ⟨b175, 6, none⟩) (Kd.R_far (p := ⟨b175, 5, none⟩) (Kd.R_far (p := ⟨b175, 4, none⟩) (Kd.R_far (p := ⟨b175, 3, none⟩) (Kd.R_far (p := ⟨b175, 2, none⟩) (Kd.R_far (p := ⟨b175, 1, none⟩) (Kd.R_far (p := ⟨b175, 0, none⟩) (Kd.R_types HO_6.out BK175.out (by decide)) (fun _ hk => hk.2) (.int .u32 ((rd_T44 l0 x24_1).f0))) (fun _ hk => hk.2) (.int .i32 ((rd_T44 l0 x24_1).f1))) (fun _ hk => hk.2) (.int .i32 ((rd_T44 l0 x24_1).f2.f0))) (fun _ hk => hk.2) (.int .i32 ((rd_T44 l0 x24_1).f2.f1))) (fun _ hk => hk.2) (.int .i32 ((rd_T44 l0 x24_1).f3))) (fun _ hk => hk.2) (.int .i32 ((rd_T44 l0 x24_1).f4))) (fun _ hk => hk.2) (.int .i32 ((rd_T44 l0 x24_1).f5.f0))) (fun _ hk => hk.2) (.int .i32 ((rd_T44 l0 x24_1).f5.f1))) (fun _ hk => hk.2) (.int .i32 ((rd_T44 l0 x24_1).f6.f0))) (fun _ hk => hk.2) (.int .i32 ((rd_T44 l0 x24_1).f6.f1))) (fun _ hk => hk.1)⟩
          have n1_ : Aside0 (Kd.R (Kd.int .i64) 2 ((((((((((w14.setCell ⟨b175, 0, none⟩ (.int .u32 ((rd_T44 l0 x24_1).f0))).setCell ⟨b175, 1, none⟩ (.int .i32 ((rd_T44 l0 x24_1).f1))).setCell ⟨b175, 2, none⟩ (.int .i32 ((rd_T44 l0 x24_1).f2.f0))).setCell ⟨b175, 3, none⟩ (.int .i32 ((rd_T44 l0 x24_1).f2.f1))).setCell ⟨b175, 4, none⟩ (.int .i32 ((rd_T44 l0 x24_1).f3))).setCell ⟨b175, 5, none⟩ (.int .i32 ((rd_T44 l0 x24_1).f4))).setCell ⟨b175, 6, none⟩ (.int .i32 ((rd_T44 l0 x24_1).f5.f0))).setCell ⟨b175, 7, none⟩ (.int .i32 ((rd_T44 l0 x24_1).f5.f1))).setCell ⟨b175, 8, none⟩ (.int .i32 ((rd_T44 l0 x24_1).f6.f0))).setCell ⟨b175, 9, none⟩ (.int .i32 ((rd_T44 l0 x24_1).f6.f1))) w.heap.size (fun k_ => some k_ ≠ (v170 : Value).ownBlock) v172 t169) := ⟨by (with_reducible repeat (first | apply Kd.R_alloc | apply Kd.R_drewN | apply Kd.R_drew)); exact Kd.R_mono (Kd.R_far (p := ⟨b175, 9, none⟩) (Kd.R_far (p := ⟨b175, 8, none⟩) (Kd.R_far (p := ⟨b175, 7, none⟩) (Kd.R_far (p := ⟨b175, 6, none⟩) (Kd.R_far (p := ⟨b175, 5, none⟩) (Kd.R_far (p := ⟨b175, 4, none⟩) (Kd.R_far (p := ⟨b175, 3, none⟩) (Kd.R_far (p := ⟨b175, 2, none⟩) (Kd.R_far (p := ⟨b175, 1, none⟩) (Kd.R_far (p := ⟨b175, 0, none⟩) (Kd.R_types HO_7.out BK175.out (by decide)) (fun _ hk => hk.2) (.int .u32 ((rd_T44 l0 x24_1).f0))) (fun _ hk => hk.2) (.int .i32 ((rd_T44 l0 x24_1).f1))) (fun _ hk => hk.2) (.int .i32 ((rd_T44 l0 x24_1).f2.f0))) (fun _ hk => hk.2) (.int .i32 ((rd_T44 l0 x24_1).f2.f1))) (fun _ hk => hk.2) (.int .i32 ((rd_T44 l0 x24_1).f3))) (fun _ hk => hk.2) (.int .i32 ((rd_T44 l0 x24_1).f4))) (fun _ hk => hk.2) (.int .i32 ((rd_T44 l0 x24_1).f5.f0))) (fun _ hk => hk.2) (.int .i32 ((rd_T44 l0 x24_1).f5.f1))) (fun _ hk => hk.2) (.int .i32 ((rd_T44 l0 x24_1).f6.f0))) (fun _ hk => hk.2) (.int .i32 ((rd_T44 l0 x24_1).f6.f1))) (fun _ hk => hk.1)⟩
          have n2_ : Aside0 (Kd.R k44 44 ((((((((((w14.setCell ⟨b175, 0, none⟩ (.int .u32 ((rd_T44 l0 x24_1).f0))).setCell ⟨b175, 1, none⟩ (.int .i32 ((rd_T44 l0 x24_1).f1))).setCell ⟨b175, 2, none⟩ (.int .i32 ((rd_T44 l0 x24_1).f2.f0))).setCell ⟨b175, 3, none⟩ (.int .i32 ((rd_T44 l0 x24_1).f2.f1))).setCell ⟨b175, 4, none⟩ (.int .i32 ((rd_T44 l0 x24_1).f3))).setCell ⟨b175, 5, none⟩ (.int .i32 ((rd_T44 l0 x24_1).f4))).setCell ⟨b175, 6, none⟩ (.int .i32 ((rd_T44 l0 x24_1).f5.f0))).setCell ⟨b175, 7, none⟩ (.int .i32 ((rd_T44 l0 x24_1).f5.f1))).setCell ⟨b175, 8, none⟩ (.int .i32 ((rd_T44 l0 x24_1).f6.f0))).setCell ⟨b175, 9, none⟩ (.int .i32 ((rd_T44 l0 x24_1).f6.f1))) w.heap.size (fun k_ => k_ ≠ b175) u9 x9_1) := ⟨by (with_reducible repeat (first | apply Kd.R_alloc | apply Kd.R_drewN | apply Kd.R_drew)); exact Kd.R_mono (Kd.R_far (p := ⟨b175, 9, none⟩) (Kd.R_far (p := ⟨b175, 8, none⟩) (Kd.R_far (p := ⟨b175, 7, none⟩) (Kd.R_far (p := ⟨b175, 6, none⟩) (Kd.R_far (p := ⟨b175, 5, none⟩) (Kd.R_far (p := ⟨b175, 4, none⟩) (Kd.R_far (p := ⟨b175, 3, none⟩) (Kd.R_far (p := ⟨b175, 2, none⟩) (Kd.R_far (p := ⟨b175, 1, none⟩) (Kd.R_far (p := ⟨b175, 0, none⟩) (Kd.R_mono HO_9.out (fun k_ hk => (⟨hk, hk.2⟩ : _ ∧ k_ ≠ b175))) (fun _ hk => hk.2) (.int .u32 ((rd_T44 l0 x24_1).f0))) (fun _ hk => hk.2) (.int .i32 ((rd_T44 l0 x24_1).f1))) (fun _ hk => hk.2) (.int .i32 ((rd_T44 l0 x24_1).f2.f0))) (fun _ hk => hk.2) (.int .i32 ((rd_T44 l0 x24_1).f2.f1))) (fun _ hk => hk.2) (.int .i32 ((rd_T44 l0 x24_1).f3))) (fun _ hk => hk.2) (.int .i32 ((rd_T44 l0 x24_1).f4))) (fun _ hk => hk.2) (.int .i32 ((rd_T44 l0 x24_1).f5.f0))) (fun _ hk => hk.2) (.int .i32 ((rd_T44 l0 x24_1).f5.f1))) (fun _ hk => hk.2) (.int .i32 ((rd_T44 l0 x24_1).f6.f0))) (fun _ hk => hk.2) (.int .i32 ((rd_T44 l0 x24_1).f6.f1))) (fun _ hk => hk.1.2)⟩
          have n3_ : Aside0 (((((((((((w14.setCell ⟨b175, 0, none⟩ (.int .u32 ((rd_T44 l0 x24_1).f0))).setCell ⟨b175, 1, none⟩ (.int .i32 ((rd_T44 l0 x24_1).f1))).setCell ⟨b175, 2, none⟩ (.int .i32 ((rd_T44 l0 x24_1).f2.f0))).setCell ⟨b175, 3, none⟩ (.int .i32 ((rd_T44 l0 x24_1).f2.f1))).setCell ⟨b175, 4, none⟩ (.int .i32 ((rd_T44 l0 x24_1).f3))).setCell ⟨b175, 5, none⟩ (.int .i32 ((rd_T44 l0 x24_1).f4))).setCell ⟨b175, 6, none⟩ (.int .i32 ((rd_T44 l0 x24_1).f5.f0))).setCell ⟨b175, 7, none⟩ (.int .i32 ((rd_T44 l0 x24_1).f5.f1))).setCell ⟨b175, 8, none⟩ (.int .i32 ((rd_T44 l0 x24_1).f6.f0))).setCell ⟨b175, 9, none⟩ (.int .i32 ((rd_T44 l0 x24_1).f6.f1))).heap[b175]? = some (.cells #[.int .u32 ((rd_T44 l0 x24_1).f0), .int .i32 ((rd_T44 l0 x24_1).f1), .int .i32 ((rd_T44 l0 x24_1).f2.f0), .int .i32 ((rd_T44 l0 x24_1).f2.f1), .int .i32 ((rd_T44 l0 x24_1).f3), .int .i32 ((rd_T44 l0 x24_1).f4), .int .i32 ((rd_T44 l0 x24_1).f5.f0), .int .i32 ((rd_T44 l0 x24_1).f5.f1), .int .i32 ((rd_T44 l0 x24_1).f6.f0), .int .i32 ((rd_T44 l0 x24_1).f6.f1)] 44 (0, 0))) := ⟨by (with_reducible repeat first | apply bN | apply bD | apply bA); refine bP (cs := #[.int .u32 ((rd_T44 l0 x24_1).f0), .int .i32 ((rd_T44 l0 x24_1).f1), .int .i32 ((rd_T44 l0 x24_1).f2.f0), .int .i32 ((rd_T44 l0 x24_1).f2.f1), .int .i32 ((rd_T44 l0 x24_1).f3), .int .i32 ((rd_T44 l0 x24_1).f4), .int .i32 ((rd_T44 l0 x24_1).f5.f0), .int .i32 ((rd_T44 l0 x24_1).f5.f1), .int .i32 ((rd_T44 l0 x24_1).f6.f0), .int .i32 0]) ?_ 9 _ rfl; (with_reducible repeat first | apply bN | apply bD | apply bA); refine bP (cs := #[.int .u32 ((rd_T44 l0 x24_1).f0), .int .i32 ((rd_T44 l0 x24_1).f1), .int .i32 ((rd_T44 l0 x24_1).f2.f0), .int .i32 ((rd_T44 l0 x24_1).f2.f1), .int .i32 ((rd_T44 l0 x24_1).f3), .int .i32 ((rd_T44 l0 x24_1).f4), .int .i32 ((rd_T44 l0 x24_1).f5.f0), .int .i32 ((rd_T44 l0 x24_1).f5.f1), .int .i32 0, .int .i32 0]) ?_ 8 _ rfl; (with_reducible repeat first | apply bN | apply bD | apply bA); refine bP (cs := #[.int .u32 ((rd_T44 l0 x24_1).f0), .int .i32 ((rd_T44 l0 x24_1).f1), .int .i32 ((rd_T44 l0 x24_1).f2.f0), .int .i32 ((rd_T44 l0 x24_1).f2.f1), .int .i32 ((rd_T44 l0 x24_1).f3), .int .i32 ((rd_T44 l0 x24_1).f4), .int .i32 ((rd_T44 l0 x24_1).f5.f0), .int .i32 0, .int .i32 0, .int .i32 0]) ?_ 7 _ rfl; (with_reducible repeat first | apply bN | apply bD | apply bA); refine bP (cs := #[.int .u32 ((rd_T44 l0 x24_1).f0), .int .i32 ((rd_T44 l0 x24_1).f1), .int .i32 ((rd_T44 l0 x24_1).f2.f0), .int .i32 ((rd_T44 l0 x24_1).f2.f1), .int .i32 ((rd_T44 l0 x24_1).f3), .int .i32 ((rd_T44 l0 x24_1).f4), .int .i32 0, .int .i32 0, .int .i32 0, .int .i32 0]) ?_ 6 _ rfl; (with_reducible repeat first | apply bN | apply bD | apply bA); refine bP (cs := #[.int .u32 ((rd_T44 l0 x24_1).f0), .int .i32 ((rd_T44 l0 x24_1).f1), .int .i32 ((rd_T44 l0 x24_1).f2.f0), .int .i32 ((rd_T44 l0 x24_1).f2.f1), .int .i32 ((rd_T44 l0 x24_1).f3), .int .i32 0, .int .i32 0, .int .i32 0, .int .i32 0, .int .i32 0]) ?_ 5 _ rfl; (with_reducible repeat first | apply bN | apply bD | apply bA); refine bP (cs := #[.int .u32 ((rd_T44 l0 x24_1).f0), .int .i32 ((rd_T44 l0 x24_1).f1), .int .i32 ((rd_T44 l0 x24_1).f2.f0), .int .i32 ((rd_T44 l0 x24_1).f2.f1), .int .i32 0, .int .i32 0, .int .i32 0, .int .i32 0, .int .i32 0, .int .i32 0]) ?_ 4 _ rfl; (with_reducible repeat first | apply bN | apply bD | apply bA); refine bP (cs := #[.int .u32 ((rd_T44 l0 x24_1).f0), .int .i32 ((rd_T44 l0 x24_1).f1), .int .i32 ((rd_T44 l0 x24_1).f2.f0), .int .i32 0, .int .i32 0, .int .i32 0, .int .i32 0, .int .i32 0, .int .i32 0, .int .i32 0]) ?_ 3 _ rfl; (with_reducible repeat first | apply bN | apply bD | apply bA); refine bP (cs := #[.int .u32 ((rd_T44 l0 x24_1).f0), .int .i32 ((rd_T44 l0 x24_1).f1), .int .i32 0, .int .i32 0, .int .i32 0, .int .i32 0, .int .i32 0, .int .i32 0, .int .i32 0, .int .i32 0]) ?_ 2 _ rfl; (with_reducible repeat first | apply bN | apply bD | apply bA); refine bP (cs := #[.int .u32 ((rd_T44 l0 x24_1).f0), .int .i32 0, .int .i32 0, .int .i32 0, .int .i32 0, .int .i32 0, .int .i32 0, .int .i32 0, .int .i32 0, .int .i32 0]) ?_ 1 _ rfl; (with_reducible repeat first | apply bN | apply bD | apply bA); refine bP (cs := #[.int .u32 0, .int .i32 0, .int .i32 0, .int .i32 0, .int .i32 0, .int .i32 0, .int .i32 0, .int .i32 0, .int .i32 0, .int .i32 0]) ?_ 0 _ rfl; (with_reducible repeat first | apply bN | apply bD | apply bA); exact BK175.out⟩
          have n4_ : Aside0 (Below w.heap.size w ((((((((((w14.setCell ⟨b175, 0, none⟩ (.int .u32 ((rd_T44 l0 x24_1).f0))).setCell ⟨b175, 1, none⟩ (.int .i32 ((rd_T44 l0 x24_1).f1))).setCell ⟨b175, 2, none⟩ (.int .i32 ((rd_T44 l0 x24_1).f2.f0))).setCell ⟨b175, 3, none⟩ (.int .i32 ((rd_T44 l0 x24_1).f2.f1))).setCell ⟨b175, 4, none⟩ (.int .i32 ((rd_T44 l0 x24_1).f3))).setCell ⟨b175, 5, none⟩ (.int .i32 ((rd_T44 l0 x24_1).f4))).setCell ⟨b175, 6, none⟩ (.int .i32 ((rd_T44 l0 x24_1).f5.f0))).setCell ⟨b175, 7, none⟩ (.int .i32 ((rd_T44 l0 x24_1).f5.f1))).setCell ⟨b175, 8, none⟩ (.int .i32 ((rd_T44 l0 x24_1).f6.f0))).setCell ⟨b175, 9, none⟩ (.int .i32 ((rd_T44 l0 x24_1).f6.f1)))) := ⟨by repeat (first | (with_reducible first | exact HB.out | apply lA | apply lN | apply lD | refine lS ?_ GE175.out) | exact HB.out)⟩
          (try clear HO_6)
          (try clear HO_7)
          (try clear HO_9)
          (try clear BK175)
          (try clear HB)
          generalize ((((((((((w14.setCell ⟨b175, 0, none⟩ (.int .u32 ((rd_T44 l0 x24_1).f0))).setCell ⟨b175, 1, none⟩ (.int .i32 ((rd_T44 l0 x24_1).f1))).setCell ⟨b175, 2, none⟩ (.int .i32 ((rd_T44 l0 x24_1).f2.f0))).setCell ⟨b175, 3, none⟩ (.int .i32 ((rd_T44 l0 x24_1).f2.f1))).setCell ⟨b175, 4, none⟩ (.int .i32 ((rd_T44 l0 x24_1).f3))).setCell ⟨b175, 5, none⟩ (.int .i32 ((rd_T44 l0 x24_1).f4))).setCell ⟨b175, 6, none⟩ (.int .i32 ((rd_T44 l0 x24_1).f5.f0))).setCell ⟨b175, 7, none⟩ (.int .i32 ((rd_T44 l0 x24_1).f5.f1))).setCell ⟨b175, 8, none⟩ (.int .i32 ((rd_T44 l0 x24_1).f6.f0))).setCell ⟨b175, 9, none⟩ (.int .i32 ((rd_T44 l0 x24_1).f6.f1))) = w16 at n0_ n1_ n2_ n3_ n4_ ⊢
          have HO_6 := n0_
          have HO_7 := n1_
          have HO_9 := n2_
          have BK175 := n3_
          have HB := n4_
          clear n0_ n1_ n2_ n3_ n4_
          have n0_ := aM (Kd.R_drew HO_6.out)
          have n1_ := aM (Kd.R_drew HO_7.out)
          have n2_ := aM (Kd.R_drew HO_9.out)
          have n3_ := aM (bD BK175.out)
          have n4_ := aM (lD HB.out)
          clear HO_6
          clear HO_7
          clear HO_9
          clear BK175
          clear HB
          have HO_6 := n0_
          have HO_7 := n1_
          have HO_9 := n2_
          have BK175 := n3_
          have HB := n4_
          clear n0_ n1_ n2_ n3_ n4_
          obtain ⟨Ao18, co18, eo18⟩ := Kd.R_slice HO_6.out
          (first | subst eo18 | (injection eo18 with f1_ f2_ f3_; have f4_ := f1_.symm; have f5_ := f3_.symm; clear f1_ f2_ f3_; subst f4_; subst f5_))
          have p176 : 0 ≤ (x24_1 : Int) := of_decide_eq_true (by first | (with_reducible assumption) | assumption)
          have q176 : x24_1 < (t168.length : Int) := of_decide_eq_true (by first | (with_reducible assumption) | assumption)
          obtain ⟨ad176, e176, hx176_0⟩ := Kd.at_int (Kd.R_reads' HO_6.out).2.2 x24_1 p176 q176
          cases e176
          replace p176 := eq_true p176
          replace q176 := eq_true q176
          refine start_ (n := 15) (S := fun w' => w'.cell? ⟨b175, 0, none⟩ = some (.int .u32 ((rd_T44 l0 x24_1).f0)) ∧ w'.cell? ⟨b175, 1, none⟩ = some (.int .i32 ((rd_T44 l0 x24_1).f1)) ∧ w'.cell? ⟨b175, 2, none⟩ = some (.int .i32 ((rd_T44 l0 x24_1).f2.f0)) ∧ w'.cell? ⟨b175, 3, none⟩ = some (.int .i32 ((rd_T44 l0 x24_1).f2.f1)) ∧ w'.cell? ⟨b175, 4, none⟩ = some (.int .i32 ((rd_T44 l0 x24_1).f3)) ∧ w'.cell? ⟨b175, 5, none⟩ = some (.int .i32 ((rd_T44 l0 x24_1).f4)) ∧ w'.cell? ⟨b175, 6, none⟩ = some (.int .i32 ((rd_T44 l0 x24_1).f5.f0)) ∧ w'.cell? ⟨b175, 7, none⟩ = some (.int .i32 ((rd_T44 l0 x24_1).f5.f1)) ∧ w'.cell? ⟨b175, 8, none⟩ = some (.int .i32 ((rd_T44 l0 x24_1).f6.f0)) ∧ w'.cell? ⟨b175, 9, none⟩ = some (.int .i32 ((rd_T44 l0 x24_1).f6.f1)) ∧ w'.cell? (ad176.add (x24_1).toNat) = some (.int .i64 (rd t168 x24_1))) (ds := []) #[F,F,F,F,F,F,F,F,F,F,F,F,F,F,F] (by kernel_rfl) rfl rfl ⟨(bC BK175.out 0).trans rfl, (bC BK175.out 1).trans rfl, (bC BK175.out 2).trans rfl, (bC BK175.out 3).trans rfl, (bC BK175.out 4).trans rfl, (bC BK175.out 5).trans rfl, (bC BK175.out 6).trans rfl, (bC BK175.out 7).trans rfl, (bC BK175.out 8).trans rfl, (bC BK175.out 9).trans rfl, hx176_0⟩ (fun hHeld => ?_); refine with_tabW jacobi_Round.tab7 jacobi_Round.bits7 (fun HT_ HW_ => ?_)
          generalize w16.drew = w17 at HO_6 HO_7 HO_9 BK175 HB hx176_0 hHeld ⊢
          refine pure_ (i := 0) (N := some 30) (v := ?_) (a' := ?_) #[T,F,F,F,F,F,F,F,F,F,F,F,F,F,F] rfl rfl (any_of HT_.out (by kernel_rfl)) (fun _ _ _ h => h) (Or.inl ⟨by rfl, ?_⟩) ?_ ?_
          rotate_left
          ·intro w'
           go_simp
           with_reducible rfl
          rotate_left
          ·simp only [Act.put, sA, sB, sC, i64_w, i32_w]
           rfl
          refine pure_ (i := 1) (N := some 31) (v := ?_) (a' := ?_) #[T,T,F,F,F,F,F,F,F,F,F,F,F,F,F] rfl rfl (any_of HT_.out (by kernel_rfl)) (fun _ _ _ h => h) (Or.inl ⟨by rfl, ?_⟩) ?_ ?_
          rotate_left
          ·intro w'
           go_simp
           with_reducible rfl
          rotate_left
          ·simp only [Act.put, sA, sB, sC, i64_w, i32_w]
           rfl
          refine pure_ (i := 4) (N := some 34) (v := ?_) (a' := ?_) #[T,T,F,F,T,F,F,F,F,F,F,F,F,F,F] rfl rfl (any_of HT_.out (by kernel_rfl)) (fun _ _ _ h => h) (Or.inl ⟨by rfl, ?_⟩) ?_ ?_
          rotate_left
          ·intro w'
           go_simp
           with_reducible rfl
          rotate_left
          ·simp only [Act.put, sA, sB, sC, i64_w, i32_w]
           rfl
          refine pure_ (i := 5) (N := some 35) (v := ?_) (a' := ?_) #[T,T,F,F,T,T,F,F,F,F,F,F,F,F,F] rfl rfl (any_of HT_.out (by kernel_rfl)) (fun _ _ _ h => h) (Or.inl ⟨by rfl, ?_⟩) ?_ ?_
          rotate_left
          ·intro w'
           go_simp
           with_reducible rfl
          rotate_left
          ·simp only [Act.put, sA, sB, sC, i64_w, i32_w]
           rfl
          refine pure_ (i := 6) (N := some 36) (v := ?_) (a' := ?_) #[T,T,F,F,T,T,T,F,F,F,F,F,F,F,F] rfl rfl (any_of HT_.out (by kernel_rfl)) (fun _ _ _ h => h) (Or.inl ⟨by rfl, ?_⟩) ?_ ?_
          rotate_left
          ·intro w'
           go_simp
           with_reducible rfl
          rotate_left
          ·simp only [Act.put, sA, sB, sC, i64_w, i32_w]
           rfl
          refine take_ (i := 2) (N := some 32) (v := ?_) (a' := ?_) #[T,T,T,F,T,T,T,F,F,F,F,F,F,F,F] rfl rfl (take_ofW HT_.out HW_.out (by kernel_rfl)) (fun _ _ _ h => h) (Or.inl ⟨by rfl, ?_⟩) hHeld ?_ ?_
          rotate_left
          ·rintro w' ⟨s0, s1, s2, s3, s4, s5, s6, s7, s8, s9, s10⟩
           go_simp
           with_reducible rfl
          rotate_left
          ·simp only [Act.put, sA, sB, sC, i64_w, i32_w]
           rfl
          refine pure_ (i := 3) (N := some 33) (v := ?_) (a' := ?_) #[T,T,T,T,T,T,T,F,F,F,F,F,F,F,F] rfl rfl (any_of HT_.out (by kernel_rfl)) (fun _ _ _ h => h) (Or.inl ⟨by rfl, ?_⟩) ?_ ?_
          rotate_left
          ·intro w'
           go_simp
           with_reducible rfl
          rotate_left
          ·simp only [Act.put, sA, sB, sC, i64_w, i32_w]
           rfl
          refine take_ (i := 7) (N := some 37) (v := ?_) (a' := ?_) #[T,T,T,T,T,T,T,T,F,F,F,F,F,F,F] rfl rfl (take_ofW HT_.out HW_.out (by kernel_rfl)) (fun _ _ _ h => h) (Or.inl ⟨by rfl, ?_⟩) hHeld ?_ ?_
          rotate_left
          ·rintro w' ⟨s0, s1, s2, s3, s4, s5, s6, s7, s8, s9, s10⟩
           go_simp
           with_reducible rfl
          rotate_left
          ·simp only [Act.put, sA, sB, sC, i64_w, i32_w]
           rfl
          refine pure_ (i := 8) (N := some 38) (v := ?_) (a' := ?_) #[T,T,T,T,T,T,T,T,T,F,F,F,F,F,F] rfl rfl (any_of HT_.out (by kernel_rfl)) (fun _ _ _ h => h) (Or.inl ⟨by rfl, ?_⟩) ?_ ?_
          rotate_left
          ·intro w'
           go_simp
           with_reducible rfl
          rotate_left
          ·simp only [Act.put, sA, sB, sC, i64_w, i32_w]
           rfl
          refine one_ (i := 9) (N := some 39) #[T,T,T,T,T,T,T,T,T,T,F,F,F,F,F] rfl rfl (one_of HT_.out (by kernel_rfl)) (by decide) (fun K hK => ?_)
          refine goes_ Try.func23 (by kernel_rfl) rfl #[.int .i64 (wrap64 ((wrap64 ((rd_T44 l0 x24_1).f6.f0)) + (rd t168 x24_1))), .int .i64 16777216] (by rfl) rfl rfl (by (try simp only [List.map_toArray, List.map_cons, List.map_nil]); first | done | rfl | (simp only [List.length_drop, List.length_take]; rfl)) ?_
          with_reducible refine (fx_Limit.calls (wrap64 ((wrap64 ((rd_T44 l0 x24_1).f6.f0)) + (rd t168 x24_1))) 16777216 t177 t178 _ A9.out).mono ?_
          rintro e w19 ⟨rfl, hb⟩
          have HS10_ := (hb.cell (World.block_lt_of_cell? _ _ (hHeld.2.2.2.2.2.2.2.2.2.2))).trans (hHeld.2.2.2.2.2.2.2.2.2.2)
          refine ⟨_, rfl, ?_⟩
          have n0_ := aM (Kd.R_below (by (with_reducible repeat (first | apply Kd.R_alloc | apply Kd.R_drewN | apply Kd.R_drew)); exact HO_6.out) hb)
          have n1_ := aM (Kd.R_below (by (with_reducible repeat (first | apply Kd.R_alloc | apply Kd.R_drewN | apply Kd.R_drew)); exact HO_7.out) hb)
          have n2_ := aM (Kd.R_below (by (with_reducible repeat (first | apply Kd.R_alloc | apply Kd.R_drewN | apply Kd.R_drew)); exact HO_9.out) hb)
          have n3_ := aM (bB (by (with_reducible repeat first | apply bN | apply bD | apply bA); exact BK175.out) hb)
          have n4_ := aM (lT (by repeat (first | (with_reducible first | exact HB.out | apply lA | apply lN | apply lD | refine lS ?_ GE175.out) | exact HB.out)) hb)
          clear HO_6
          clear HO_7
          clear HO_9
          clear BK175
          clear HB
          have HO_6 := n0_
          have HO_7 := n1_
          have HO_9 := n2_
          have BK175 := n3_
          have HB := n4_
          clear n0_ n1_ n2_ n3_ n4_
          (try clear hb)
          (try clear hb2)
          (try clear hk)
          (try clear hi)
          refine hK.out _ _ ⟨(bC BK175.out 0).trans rfl, (bC BK175.out 1).trans rfl, (bC BK175.out 2).trans rfl, (bC BK175.out 3).trans rfl, (bC BK175.out 4).trans rfl, (bC BK175.out 5).trans rfl, (bC BK175.out 6).trans rfl, (bC BK175.out 7).trans rfl, (bC BK175.out 8).trans rfl, (bC BK175.out 9).trans rfl, HS10_⟩ (fun hHeld => ?_)
          clear hK K
          refine norm_ (a' := ?_) ?_ ?_
          rotate_left
          ·show Act.put _ (some 39) _ = _
           simp only [Act.put, sA, sB, sC, i64_w, i32_w]
           rfl
          refine pure_ (i := 10) (N := some 29) (v := ?_) (a' := ?_) #[T,T,T,T,T,T,T,T,T,T,T,F,F,F,F] rfl rfl (any_of HT_.out (by kernel_rfl)) (fun _ _ _ h => h) (Or.inl ⟨by rfl, ?_⟩) ?_ ?_
          rotate_left
          ·intro w'
           go_simp
           with_reducible rfl
          rotate_left
          ·simp only [Act.put, sA, sB, sC, i64_w, i32_w]
           rfl
          refine pure_ (i := 11) (N := some 40) (v := ?_) (a' := ?_) #[T,T,T,T,T,T,T,T,T,T,T,T,F,F,F] rfl rfl (any_of HT_.out (by kernel_rfl)) (fun _ _ _ h => h) (Or.inl ⟨by rfl, ?_⟩) ?_ ?_
          rotate_left
          ·intro w'
           go_simp
           with_reducible rfl
          rotate_left
          ·simp only [Act.put, sA, sB, sC, i64_w, i32_w]
           rfl
          refine pure_ (i := 12) (N := some 41) (v := ?_) (a' := ?_) #[T,T,T,T,T,T,T,T,T,T,T,T,T,F,F] rfl rfl (any_of HT_.out (by kernel_rfl)) (fun _ _ _ h => h) (Or.inl ⟨by rfl, ?_⟩) ?_ ?_
          rotate_left
          ·intro w'
           go_simp
           with_reducible rfl
          rotate_left
          ·simp only [Act.put, sA, sB, sC, i64_w, i32_w]
           rfl
          refine pure_ (i := 13) (N := some 12) (v := ?_) (a' := ?_) #[T,T,T,T,T,T,T,T,T,T,T,T,T,T,F] rfl rfl (any_of HT_.out (by kernel_rfl)) (fun _ _ _ h => h) (Or.inl ⟨by rfl, ?_⟩) ?_ ?_
          rotate_left
          ·intro w'
           go_simp
           with_reducible rfl
          rotate_left
          ·simp only [Act.put, sA, sB, sC, i64_w, i32_w]
           rfl
          refine pure_ (i := 14) (N := some 13) (v := ?_) (a' := ?_) #[T,T,T,T,T,T,T,T,T,T,T,T,T,T,T] rfl rfl (any_of HT_.out (by kernel_rfl)) (fun _ _ _ h => h) (Or.inl ⟨by rfl, ?_⟩) ?_ ?_
          rotate_left
          ·intro w'
           go_simp
           with_reducible rfl
          rotate_left
          ·simp only [Act.put, sA, sB, sC, i64_w, i32_w]
           rfl
          refine done_ (done_of HT_.out (by kernel_rfl)) ?_
          try go_wp2
          have n0_ := aM (Kd.R_drew HO_6.out)
          have n1_ := aM (Kd.R_drew HO_7.out)
          have n2_ := aM (Kd.R_drew HO_9.out)
          have n3_ := aM (bD BK175.out)
          have n4_ := aM (lD HB.out)
          clear HO_6
          clear HO_7
          clear HO_9
          clear BK175
          clear HB
          have HO_6 := n0_
          have HO_7 := n1_
          have HO_9 := n2_
          have BK175 := n3_
          have HB := n4_
          clear n0_ n1_ n2_ n3_ n4_
          obtain ⟨Ao21, co21, eo21⟩ := Kd.R_slice HO_7.out
          (first | subst eo21 | (injection eo21 with f1_ f2_ f3_; have f4_ := f1_.symm; have f5_ := f3_.symm; clear f1_ f2_ f3_; subst f4_; subst f5_))
          have p179 : 0 ≤ (x24_1 : Int) := of_decide_eq_true (by first | (with_reducible assumption) | assumption)
          have q179 : x24_1 < (t169.length : Int) := of_decide_eq_true (by first | (with_reducible assumption) | assumption)
          obtain ⟨ad179, e179, hx179_0⟩ := Kd.at_int (Kd.R_reads' HO_7.out).2.2 x24_1 p179 q179
          cases e179
          replace p179 := eq_true p179
          replace q179 := eq_true q179
          refine start_ (n := 15) (S := fun w' => w'.cell? ⟨b175, 0, none⟩ = some (.int .u32 ((rd_T44 l0 x24_1).f0)) ∧ w'.cell? ⟨b175, 1, none⟩ = some (.int .i32 ((rd_T44 l0 x24_1).f1)) ∧ w'.cell? ⟨b175, 2, none⟩ = some (.int .i32 ((rd_T44 l0 x24_1).f2.f0)) ∧ w'.cell? ⟨b175, 3, none⟩ = some (.int .i32 ((rd_T44 l0 x24_1).f2.f1)) ∧ w'.cell? ⟨b175, 4, none⟩ = some (.int .i32 ((rd_T44 l0 x24_1).f3)) ∧ w'.cell? ⟨b175, 5, none⟩ = some (.int .i32 ((rd_T44 l0 x24_1).f4)) ∧ w'.cell? ⟨b175, 6, none⟩ = some (.int .i32 ((rd_T44 l0 x24_1).f5.f0)) ∧ w'.cell? ⟨b175, 7, none⟩ = some (.int .i32 ((rd_T44 l0 x24_1).f5.f1)) ∧ w'.cell? ⟨b175, 8, none⟩ = some (.int .i32 ((rd_T44 l0 x24_1).f6.f0)) ∧ w'.cell? ⟨b175, 9, none⟩ = some (.int .i32 ((rd_T44 l0 x24_1).f6.f1)) ∧ w'.cell? (ad179.add (x24_1).toNat) = some (.int .i64 (rd t169 x24_1))) (ds := []) #[F,F,F,F,F,F,F,F,F,F,F,F,F,F,F] (by kernel_rfl) rfl rfl ⟨(bC BK175.out 0).trans rfl, (bC BK175.out 1).trans rfl, (bC BK175.out 2).trans rfl, (bC BK175.out 3).trans rfl, (bC BK175.out 4).trans rfl, (bC BK175.out 5).trans rfl, (bC BK175.out 6).trans rfl, (bC BK175.out 7).trans rfl, (bC BK175.out 8).trans rfl, (bC BK175.out 9).trans rfl, hx179_0⟩ (fun hHeld => ?_); refine with_tabW jacobi_Round.tab8 jacobi_Round.bits8 (fun HT_ HW_ => ?_)
          generalize w19.drew = w20 at HO_6 HO_7 HO_9 BK175 HB hx179_0 hHeld ⊢
          refine pure_ (i := 0) (N := some 43) (v := ?_) (a' := ?_) #[T,F,F,F,F,F,F,F,F,F,F,F,F,F,F] rfl rfl (any_of HT_.out (by kernel_rfl)) (fun _ _ _ h => h) (Or.inl ⟨by rfl, ?_⟩) ?_ ?_
          rotate_left
          ·intro w'
           go_simp
           with_reducible rfl
          rotate_left
          ·simp only [Act.put, sA, sB, sC, i64_w, i32_w]
           rfl
          refine pure_ (i := 1) (N := some 44) (v := ?_) (a' := ?_) #[T,T,F,F,F,F,F,F,F,F,F,F,F,F,F] rfl rfl (any_of HT_.out (by kernel_rfl)) (fun _ _ _ h => h) (Or.inl ⟨by rfl, ?_⟩) ?_ ?_
          rotate_left
          ·intro w'
           go_simp
           with_reducible rfl
          rotate_left
          ·simp only [Act.put, sA, sB, sC, i64_w, i32_w]
           rfl
          refine pure_ (i := 4) (N := some 47) (v := ?_) (a' := ?_) #[T,T,F,F,T,F,F,F,F,F,F,F,F,F,F] rfl rfl (any_of HT_.out (by kernel_rfl)) (fun _ _ _ h => h) (Or.inl ⟨by rfl, ?_⟩) ?_ ?_
          rotate_left
          ·intro w'
           go_simp
           with_reducible rfl
          rotate_left
          ·simp only [Act.put, sA, sB, sC, i64_w, i32_w]
           rfl
          refine pure_ (i := 5) (N := some 48) (v := ?_) (a' := ?_) #[T,T,F,F,T,T,F,F,F,F,F,F,F,F,F] rfl rfl (any_of HT_.out (by kernel_rfl)) (fun _ _ _ h => h) (Or.inl ⟨by rfl, ?_⟩) ?_ ?_
          rotate_left
          ·intro w'
           go_simp
           with_reducible rfl
          rotate_left
          ·simp only [Act.put, sA, sB, sC, i64_w, i32_w]
           rfl
          refine pure_ (i := 6) (N := some 49) (v := ?_) (a' := ?_) #[T,T,F,F,T,T,T,F,F,F,F,F,F,F,F] rfl rfl (any_of HT_.out (by kernel_rfl)) (fun _ _ _ h => h) (Or.inl ⟨by rfl, ?_⟩) ?_ ?_
          rotate_left
          ·intro w'
           go_simp
           with_reducible rfl
          rotate_left
          ·simp only [Act.put, sA, sB, sC, i64_w, i32_w]
           rfl
          refine take_ (i := 2) (N := some 45) (v := ?_) (a' := ?_) #[T,T,T,F,T,T,T,F,F,F,F,F,F,F,F] rfl rfl (take_ofW HT_.out HW_.out (by kernel_rfl)) (fun _ _ _ h => h) (Or.inl ⟨by rfl, ?_⟩) hHeld ?_ ?_
          rotate_left
          ·rintro w' ⟨s0, s1, s2, s3, s4, s5, s6, s7, s8, s9, s10⟩
           go_simp
           with_reducible rfl
          rotate_left
          ·simp only [Act.put, sA, sB, sC, i64_w, i32_w]
           rfl
          refine pure_ (i := 3) (N := some 46) (v := ?_) (a' := ?_) #[T,T,T,T,T,T,T,F,F,F,F,F,F,F,F] rfl rfl (any_of HT_.out (by kernel_rfl)) (fun _ _ _ h => h) (Or.inl ⟨by rfl, ?_⟩) ?_ ?_
          rotate_left
          ·intro w'
           go_simp
           with_reducible rfl
          rotate_left
          ·simp only [Act.put, sA, sB, sC, i64_w, i32_w]
           rfl
          refine take_ (i := 7) (N := some 50) (v := ?_) (a' := ?_) #[T,T,T,T,T,T,T,T,F,F,F,F,F,F,F] rfl rfl (take_ofW HT_.out HW_.out (by kernel_rfl)) (fun _ _ _ h => h) (Or.inl ⟨by rfl, ?_⟩) hHeld ?_ ?_
          rotate_left
          ·rintro w' ⟨s0, s1, s2, s3, s4, s5, s6, s7, s8, s9, s10⟩
           go_simp
           with_reducible rfl
          rotate_left
          ·simp only [Act.put, sA, sB, sC, i64_w, i32_w]
           rfl
          refine pure_ (i := 8) (N := some 51) (v := ?_) (a' := ?_) #[T,T,T,T,T,T,T,T,T,F,F,F,F,F,F] rfl rfl (any_of HT_.out (by kernel_rfl)) (fun _ _ _ h => h) (Or.inl ⟨by rfl, ?_⟩) ?_ ?_
          rotate_left
          ·intro w'
           go_simp
           with_reducible rfl
          rotate_left
          ·simp only [Act.put, sA, sB, sC, i64_w, i32_w]
           rfl
          refine one_ (i := 9) (N := some 52) #[T,T,T,T,T,T,T,T,T,T,F,F,F,F,F] rfl rfl (one_of HT_.out (by kernel_rfl)) (by decide) (fun K hK => ?_)
          refine goes_ Try.func23 (by kernel_rfl) rfl #[.int .i64 (wrap64 ((wrap64 ((rd_T44 l0 x24_1).f6.f1)) + (rd t169 x24_1))), .int .i64 16777216] (by rfl) rfl rfl (by (try simp only [List.map_toArray, List.map_cons, List.map_nil]); first | done | rfl | (simp only [List.length_drop, List.length_take]; rfl)) ?_
          with_reducible refine (fx_Limit.calls (wrap64 ((wrap64 ((rd_T44 l0 x24_1).f6.f1)) + (rd t169 x24_1))) 16777216 t180 t181 _ A11.out).mono ?_
          rintro e w22 ⟨rfl, hb⟩
          have HS10_ := (hb.cell (World.block_lt_of_cell? _ _ (hHeld.2.2.2.2.2.2.2.2.2.2))).trans (hHeld.2.2.2.2.2.2.2.2.2.2)
          refine ⟨_, rfl, ?_⟩
          have n0_ := aM (Kd.R_below (by (with_reducible repeat (first | apply Kd.R_alloc | apply Kd.R_drewN | apply Kd.R_drew)); exact HO_6.out) hb)
          have n1_ := aM (Kd.R_below (by (with_reducible repeat (first | apply Kd.R_alloc | apply Kd.R_drewN | apply Kd.R_drew)); exact HO_7.out) hb)
          have n2_ := aM (Kd.R_below (by (with_reducible repeat (first | apply Kd.R_alloc | apply Kd.R_drewN | apply Kd.R_drew)); exact HO_9.out) hb)
          have n3_ := aM (bB (by (with_reducible repeat first | apply bN | apply bD | apply bA); exact BK175.out) hb)
          have n4_ := aM (lT (by repeat (first | (with_reducible first | exact HB.out | apply lA | apply lN | apply lD | refine lS ?_ GE175.out) | exact HB.out)) hb)
          clear HO_6
          clear HO_7
          clear HO_9
          clear BK175
          clear HB
          have HO_6 := n0_
          have HO_7 := n1_
          have HO_9 := n2_
          have BK175 := n3_
          have HB := n4_
          clear n0_ n1_ n2_ n3_ n4_
          (try clear hb)
          (try clear hb2)
          (try clear hk)
          (try clear hi)
          refine hK.out _ _ ⟨(bC BK175.out 0).trans rfl, (bC BK175.out 1).trans rfl, (bC BK175.out 2).trans rfl, (bC BK175.out 3).trans rfl, (bC BK175.out 4).trans rfl, (bC BK175.out 5).trans rfl, (bC BK175.out 6).trans rfl, (bC BK175.out 7).trans rfl, (bC BK175.out 8).trans rfl, (bC BK175.out 9).trans rfl, HS10_⟩ (fun hHeld => ?_)
          clear hK K
          refine norm_ (a' := ?_) ?_ ?_
          rotate_left
          ·show Act.put _ (some 52) _ = _
           simp only [Act.put, sA, sB, sC, i64_w, i32_w]
           rfl
          refine pure_ (i := 10) (N := some 42) (v := ?_) (a' := ?_) #[T,T,T,T,T,T,T,T,T,T,T,F,F,F,F] rfl rfl (any_of HT_.out (by kernel_rfl)) (fun _ _ _ h => h) (Or.inl ⟨by rfl, ?_⟩) ?_ ?_
          rotate_left
          ·intro w'
           go_simp
           with_reducible rfl
          rotate_left
          ·simp only [Act.put, sA, sB, sC, i64_w, i32_w]
           rfl
          refine pure_ (i := 11) (N := some 53) (v := ?_) (a' := ?_) #[T,T,T,T,T,T,T,T,T,T,T,T,F,F,F] rfl rfl (any_of HT_.out (by kernel_rfl)) (fun _ _ _ h => h) (Or.inl ⟨by rfl, ?_⟩) ?_ ?_
          rotate_left
          ·intro w'
           go_simp
           with_reducible rfl
          rotate_left
          ·simp only [Act.put, sA, sB, sC, i64_w, i32_w]
           rfl
          refine pure_ (i := 12) (N := some 54) (v := ?_) (a' := ?_) #[T,T,T,T,T,T,T,T,T,T,T,T,T,F,F] rfl rfl (any_of HT_.out (by kernel_rfl)) (fun _ _ _ h => h) (Or.inl ⟨by rfl, ?_⟩) ?_ ?_
          rotate_left
          ·intro w'
           go_simp
           with_reducible rfl
          rotate_left
          ·simp only [Act.put, sA, sB, sC, i64_w, i32_w]
           rfl
          refine pure_ (i := 13) (N := some 14) (v := ?_) (a' := ?_) #[T,T,T,T,T,T,T,T,T,T,T,T,T,T,F] rfl rfl (any_of HT_.out (by kernel_rfl)) (fun _ _ _ h => h) (Or.inl ⟨by rfl, ?_⟩) ?_ ?_
          rotate_left
          ·intro w'
           go_simp
           with_reducible rfl
          rotate_left
          ·simp only [Act.put, sA, sB, sC, i64_w, i32_w]
           rfl
          refine pure_ (i := 14) (N := some 15) (v := ?_) (a' := ?_) #[T,T,T,T,T,T,T,T,T,T,T,T,T,T,T] rfl rfl (any_of HT_.out (by kernel_rfl)) (fun _ _ _ h => h) (Or.inl ⟨by rfl, ?_⟩) ?_ ?_
          rotate_left
          ·intro w'
           go_simp
           with_reducible rfl
          rotate_left
          ·simp only [Act.put, sA, sB, sC, i64_w, i32_w]
           rfl
          refine done_ (done_of HT_.out (by kernel_rfl)) ?_
          have hcz23_0 : w22.cell? ⟨b175, 0, none⟩ = some (.int .u32 ((rd_T44 l0 x24_1).f0)) := (bC BK175.out 0).trans rfl
          have hcz23_1 : w22.cell? ⟨b175, 1, none⟩ = some (.int .i32 ((rd_T44 l0 x24_1).f1)) := (bC BK175.out 1).trans rfl
          have hcz23_2 : w22.cell? ⟨b175, 2, none⟩ = some (.int .i32 ((rd_T44 l0 x24_1).f2.f0)) := (bC BK175.out 2).trans rfl
          have hcz23_3 : w22.cell? ⟨b175, 3, none⟩ = some (.int .i32 ((rd_T44 l0 x24_1).f2.f1)) := (bC BK175.out 3).trans rfl
          have hcz23_4 : w22.cell? ⟨b175, 4, none⟩ = some (.int .i32 ((rd_T44 l0 x24_1).f3)) := (bC BK175.out 4).trans rfl
          have hcz23_5 : w22.cell? ⟨b175, 5, none⟩ = some (.int .i32 ((rd_T44 l0 x24_1).f4)) := (bC BK175.out 5).trans rfl
          have hcz23_6 : w22.cell? ⟨b175, 6, none⟩ = some (.int .i32 ((rd_T44 l0 x24_1).f5.f0)) := (bC BK175.out 6).trans rfl
          have hcz23_7 : w22.cell? ⟨b175, 7, none⟩ = some (.int .i32 ((rd_T44 l0 x24_1).f5.f1)) := (bC BK175.out 7).trans rfl
          have hcz23_8 : w22.cell? ⟨b175, 8, none⟩ = some (.int .i32 ((rd_T44 l0 x24_1).f6.f0)) := (bC BK175.out 8).trans rfl
          have hcz23_9 : w22.cell? ⟨b175, 9, none⟩ = some (.int .i32 ((rd_T44 l0 x24_1).f6.f1)) := (bC BK175.out 9).trans rfl
          have hfz23_0 := bF BK175.out 0
          have hfz23_1 := bF BK175.out 1
          have hfz23_2 := bF BK175.out 2
          have hfz23_3 := bF BK175.out 3
          have hfz23_4 := bF BK175.out 4
          have hfz23_5 := bF BK175.out 5
          have hfz23_6 := bF BK175.out 6
          have hfz23_7 := bF BK175.out 7
          have hfz23_8 := bF BK175.out 8
          have hfz23_9 := bF BK175.out 9
          try go_wp2_with (first | ((with_reducible refine gate_builtin (b := .append) (xs := #[.tmp 68, .tmp 70]) rfl ?_); at_builtin; refine Kd.R_append k44 (w0 := w) w.heap.size rfl (.tmp 68) (.tmp 70) 22 44 (.agg #[(.int .u32 0), (.int .i32 0), (.int .i32 0), (.int .i32 0), (.int .i32 0), (.int .i32 0), (.int .i32 0), (.int .i32 0), (.int .i32 0), (.int .i32 0)]) 40 rfl Try.underlying22 info44 rfl (by decide) (by omega) u9 x9_1 (⟨(rd_T44 l0 x24_1).f0, (rd_T44 l0 x24_1).f1, (⟨(rd_T44 l0 x24_1).f2.f0, (rd_T44 l0 x24_1).f2.f1⟩ : S39), (rd_T44 l0 x24_1).f3, (rd_T44 l0 x24_1).f4, (⟨(rd_T44 l0 x24_1).f5.f0, (rd_T44 l0 x24_1).f5.f1⟩ : S39), (⟨wrap32 (t177), wrap32 (t180)⟩ : S39)⟩ : S44) [.int .u32 ((rd_T44 l0 x24_1).f0), .int .i32 ((rd_T44 l0 x24_1).f1), .int .i32 ((rd_T44 l0 x24_1).f2.f0), .int .i32 ((rd_T44 l0 x24_1).f2.f1), .int .i32 ((rd_T44 l0 x24_1).f3), .int .i32 ((rd_T44 l0 x24_1).f4), .int .i32 ((rd_T44 l0 x24_1).f5.f0), .int .i32 ((rd_T44 l0 x24_1).f5.f1), .int .i32 (wrap32 (t177)), .int .i32 (wrap32 (t180))] (fun k_ => k_ ≠ b175) (fun _ => False) rfl (by first | (go_simp; done) | (go_simp; rfl)) ?aP (fun _ hk => hk.elim) ?aF ?aO ?aB ?aS ?aL ?_; (case aP => exact k44_mkM _ _ _ (⟨(rd_T44 l0 x24_1).f0, (rd_T44 l0 x24_1).f1, (⟨(rd_T44 l0 x24_1).f2.f0, (rd_T44 l0 x24_1).f2.f1⟩ : S39), (rd_T44 l0 x24_1).f3, (rd_T44 l0 x24_1).f4, (⟨(rd_T44 l0 x24_1).f5.f0, (rd_T44 l0 x24_1).f5.f1⟩ : S39), (⟨wrap32 (t177), wrap32 (t180)⟩ : S39)⟩ : S44)); (case aB => exact (by repeat (first | (with_reducible first | exact HB.out | apply lA | apply lN | apply lD | refine lS ?_ GE175.out) | exact HB.out))); (case aF => exact (fun k_ hk => Kd.freshB (g := b175) (o := .cells #[.int .u32 ((rd_T44 l0 x24_1).f0), .int .i32 ((rd_T44 l0 x24_1).f1), .int .i32 ((rd_T44 l0 x24_1).f2.f0), .int .i32 ((rd_T44 l0 x24_1).f2.f1), .int .i32 ((rd_T44 l0 x24_1).f3), .int .i32 ((rd_T44 l0 x24_1).f4), .int .i32 ((rd_T44 l0 x24_1).f5.f0), .int .i32 ((rd_T44 l0 x24_1).f5.f1), .int .i32 (wrap32 (t177)), .int .i32 (wrap32 (t180))] 44 (0, 0)) (by (with_reducible repeat first | apply bN | apply bD | apply bA); refine bP (cs := #[.int .u32 ((rd_T44 l0 x24_1).f0), .int .i32 ((rd_T44 l0 x24_1).f1), .int .i32 ((rd_T44 l0 x24_1).f2.f0), .int .i32 ((rd_T44 l0 x24_1).f2.f1), .int .i32 ((rd_T44 l0 x24_1).f3), .int .i32 ((rd_T44 l0 x24_1).f4), .int .i32 ((rd_T44 l0 x24_1).f5.f0), .int .i32 ((rd_T44 l0 x24_1).f5.f1), .int .i32 (wrap32 (t177)), .int .i32 ((rd_T44 l0 x24_1).f6.f1)]) ?_ 9 _ rfl; (with_reducible repeat first | apply bN | apply bD | apply bA); refine bP (cs := #[.int .u32 ((rd_T44 l0 x24_1).f0), .int .i32 ((rd_T44 l0 x24_1).f1), .int .i32 ((rd_T44 l0 x24_1).f2.f0), .int .i32 ((rd_T44 l0 x24_1).f2.f1), .int .i32 ((rd_T44 l0 x24_1).f3), .int .i32 ((rd_T44 l0 x24_1).f4), .int .i32 ((rd_T44 l0 x24_1).f5.f0), .int .i32 ((rd_T44 l0 x24_1).f5.f1), .int .i32 ((rd_T44 l0 x24_1).f6.f0), .int .i32 ((rd_T44 l0 x24_1).f6.f1)]) ?_ 8 _ rfl; (with_reducible repeat first | apply bN | apply bD | apply bA); exact BK175.out) k_ hk)); (case aO => exact (by (with_reducible repeat (first | apply Kd.R_alloc | apply Kd.R_drewN | apply Kd.R_drew)); exact Kd.R_mono (Kd.R_far (p := ⟨b175, 9, none⟩) (Kd.R_far (p := ⟨b175, 8, none⟩) (Kd.R_mono HO_9.out (fun k_ hk => (⟨hk, hk⟩ : _ ∧ k_ ≠ b175))) (fun _ hk => hk.2) (.int .i32 (wrap32 (t177)))) (fun _ hk => hk.2) (.int .i32 (wrap32 (t180)))) (fun _ hk => hk.1))); (case aS => exact (lZ (by repeat (first | (with_reducible first | exact HB.out | apply lA | apply lN | apply lD | refine lS ?_ GE175.out) | exact HB.out)))); (case aL => have := LMc13.out; omega); intro v183 w24 ho hb hg hat; rw [← Ny182.out] at ho; have n0_ := aM (Kd.R_over' (by (with_reducible repeat (first | apply Kd.R_alloc | apply Kd.R_drewN | apply Kd.R_drew)); exact (Kd.R_mono (Kd.R_far (p := ⟨b175, 9, none⟩) (Kd.R_far (p := ⟨b175, 8, none⟩) (Kd.R_types HO_6.out BK175.out (by decide)) (fun _ hk => hk.2) (.int .i32 (wrap32 (t177)))) (fun _ hk => hk.2) (.int .i32 (wrap32 (t180)))) (fun _ h_ => h_.1))) (Kd.R_typed (by (with_reducible repeat (first | apply Kd.R_alloc | apply Kd.R_drewN | apply Kd.R_drew)); exact (Kd.R_mono (Kd.R_far (p := ⟨b175, 9, none⟩) (Kd.R_far (p := ⟨b175, 8, none⟩) (Kd.R_mono HO_9.out (fun k_ hk => (⟨hk, hk⟩ : _ ∧ k_ ≠ b175))) (fun _ hk => hk.2) (.int .i32 (wrap32 (t177)))) (fun _ hk => hk.2) (.int .i32 (wrap32 (t180)))) (fun _ h_ => h_.1)))) (by decide) hg); have n1_ := aM (Kd.R_over' (by (with_reducible repeat (first | apply Kd.R_alloc | apply Kd.R_drewN | apply Kd.R_drew)); exact (Kd.R_mono (Kd.R_far (p := ⟨b175, 9, none⟩) (Kd.R_far (p := ⟨b175, 8, none⟩) (Kd.R_types HO_7.out BK175.out (by decide)) (fun _ hk => hk.2) (.int .i32 (wrap32 (t177)))) (fun _ hk => hk.2) (.int .i32 (wrap32 (t180)))) (fun _ h_ => h_.1))) (Kd.R_typed (by (with_reducible repeat (first | apply Kd.R_alloc | apply Kd.R_drewN | apply Kd.R_drew)); exact (Kd.R_mono (Kd.R_far (p := ⟨b175, 9, none⟩) (Kd.R_far (p := ⟨b175, 8, none⟩) (Kd.R_mono HO_9.out (fun k_ hk => (⟨hk, hk⟩ : _ ∧ k_ ≠ b175))) (fun _ hk => hk.2) (.int .i32 (wrap32 (t177)))) (fun _ hk => hk.2) (.int .i32 (wrap32 (t180)))) (fun _ h_ => h_.1)))) (by decide) hg); have n2_ := aM (blk_grown (g := b175) (o := .cells #[.int .u32 ((rd_T44 l0 x24_1).f0), .int .i32 ((rd_T44 l0 x24_1).f1), .int .i32 ((rd_T44 l0 x24_1).f2.f0), .int .i32 ((rd_T44 l0 x24_1).f2.f1), .int .i32 ((rd_T44 l0 x24_1).f3), .int .i32 ((rd_T44 l0 x24_1).f4), .int .i32 ((rd_T44 l0 x24_1).f5.f0), .int .i32 ((rd_T44 l0 x24_1).f5.f1), .int .i32 (wrap32 (t177)), .int .i32 (wrap32 (t180))] 44 (0, 0)) (by (with_reducible repeat first | apply bN | apply bD | apply bA); refine bP (cs := #[.int .u32 ((rd_T44 l0 x24_1).f0), .int .i32 ((rd_T44 l0 x24_1).f1), .int .i32 ((rd_T44 l0 x24_1).f2.f0), .int .i32 ((rd_T44 l0 x24_1).f2.f1), .int .i32 ((rd_T44 l0 x24_1).f3), .int .i32 ((rd_T44 l0 x24_1).f4), .int .i32 ((rd_T44 l0 x24_1).f5.f0), .int .i32 ((rd_T44 l0 x24_1).f5.f1), .int .i32 (wrap32 (t177)), .int .i32 ((rd_T44 l0 x24_1).f6.f1)]) ?_ 9 _ rfl; (with_reducible repeat first | apply bN | apply bD | apply bA); refine bP (cs := #[.int .u32 ((rd_T44 l0 x24_1).f0), .int .i32 ((rd_T44 l0 x24_1).f1), .int .i32 ((rd_T44 l0 x24_1).f2.f0), .int .i32 ((rd_T44 l0 x24_1).f2.f1), .int .i32 ((rd_T44 l0 x24_1).f3), .int .i32 ((rd_T44 l0 x24_1).f4), .int .i32 ((rd_T44 l0 x24_1).f5.f0), .int .i32 ((rd_T44 l0 x24_1).f5.f1), .int .i32 ((rd_T44 l0 x24_1).f6.f0), .int .i32 ((rd_T44 l0 x24_1).f6.f1)]) ?_ 8 _ rfl; (with_reducible repeat first | apply bN | apply bD | apply bA); exact BK175.out) hg (Kd.R_away HO_9.out (fun _ hk => hk))); have n3_ := aM (hb); have n4_ := aM (ho); clear HO_6; clear HO_7; clear BK175; clear HB; clear HO_9; have HO_6 := n0_; have HO_7 := n1_; have BK175 := n2_; have HB := n3_; have HO184 := n4_; clear n0_ n1_ n2_ n3_ n4_; clear ho hb hg hat))
          go_roundg k1
          case measure => have := HK1.out; omega
          case rel => exact ⟨(true), (y182), (wrap64 (x24_1 + 1)), (by first | rfl | (simp; done) | (simp [*]; done)), (by first | rfl | (simp; done) | (simp [*]; done)), H', ⟨by have := HK1.out; omega⟩, ⟨by (with_reducible repeat (first | apply Kd.R_alloc | apply Kd.R_drewN | apply Kd.R_drew)); exact HO_6.out⟩, ⟨by (with_reducible repeat (first | apply Kd.R_alloc | apply Kd.R_drewN | apply Kd.R_drew)); exact HO_7.out⟩, ⟨by (with_reducible repeat (first | apply Kd.R_alloc | apply Kd.R_drewN | apply Kd.R_drew)); exact Kd.R_mono HO184.out (fun _ hk => trivial)⟩, ⟨by repeat (first | (with_reducible first | exact HB.out | apply lA | apply lN | apply lD | refine lS ?_ GE175.out) | exact HB.out)⟩⟩
         ·rw [if_neg c13] at H
          exact absurd H (by simp)
        ·replace c12 := Bool.eq_false_iff.mpr c12
         subst c12
         rw [if_neg (show ¬ (false = true) by decide)] at H
         by_cases c25 : t178 = true
         ·subst c25
          rw [if_pos rfl] at H
          by_cases c26 : x9_1.length < 3518437208883
          ·rw [if_pos c26] at H
           have LMc26 := aM c26
           clear c26
           obtain ⟨y185, hy185⟩ : ∃ y_ : List (S44), y_ = (x9_1 ++ [(⟨(rd_T44 l0 x24_1).f0, (rd_T44 l0 x24_1).f1, (⟨(rd_T44 l0 x24_1).f2.f0, (rd_T44 l0 x24_1).f2.f1⟩ : S39), (rd_T44 l0 x24_1).f3, (rd_T44 l0 x24_1).f4, (⟨(rd_T44 l0 x24_1).f5.f0, (rd_T44 l0 x24_1).f5.f1⟩ : S39), (⟨wrap32 (t177), wrap32 (t180)⟩ : S39)⟩ : S44)]) := ⟨_, rfl⟩
           replace H : (jacobi_Round.l0 k1 t168 t169 true y185 l0 (l0.length : Int) (wrap64 (x24_1 + 1))) = some (r1, r2) := by first | (rw [hy185]; with_reducible exact H) | (have H2_ := (Option.bind_some _ _).symm.trans H; rw [hy185]; with_reducible exact H2_) | (have H2_ := (Option.bind_some _ _).symm.trans H; with_reducible exact H2_) | with_reducible exact H | (rw [hy185]; exact H) | exact H
           have Ny185 := aM hy185
           clear hy185
           have H' := aM H
           clear H
           have p174 : 0 ≤ (x24_1 : Int) := of_decide_eq_true (by first | (with_reducible assumption) | assumption)
           have q174 : x24_1 < (l0.length : Int) := of_decide_eq_true (by first | (with_reducible assumption) | assumption)
           obtain ⟨ad174, e174, hx174_0, hx174_1, hx174_2, hx174_3, hx174_4, hx174_5, hx174_6, hx174_7, hx174_8, hx174_9⟩ := at_T44 HR0.out x24_1 p174 q174
           cases e174
           replace hx174_0 := (HB.out.cell (World.block_lt_of_cell? w _ hx174_0)).trans hx174_0
           replace hx174_1 := (HB.out.cell (World.block_lt_of_cell? w _ hx174_1)).trans hx174_1
           replace hx174_2 := (HB.out.cell (World.block_lt_of_cell? w _ hx174_2)).trans hx174_2
           replace hx174_3 := (HB.out.cell (World.block_lt_of_cell? w _ hx174_3)).trans hx174_3
           replace hx174_4 := (HB.out.cell (World.block_lt_of_cell? w _ hx174_4)).trans hx174_4
           replace hx174_5 := (HB.out.cell (World.block_lt_of_cell? w _ hx174_5)).trans hx174_5
           replace hx174_6 := (HB.out.cell (World.block_lt_of_cell? w _ hx174_6)).trans hx174_6
           replace hx174_7 := (HB.out.cell (World.block_lt_of_cell? w _ hx174_7)).trans hx174_7
           replace hx174_8 := (HB.out.cell (World.block_lt_of_cell? w _ hx174_8)).trans hx174_8
           replace hx174_9 := (HB.out.cell (World.block_lt_of_cell? w _ hx174_9)).trans hx174_9
           replace p174 := eq_true p174
           replace q174 := eq_true q174
           try go_wp2_with (first | ((with_reducible refine gate_dst (N := 11) rfl ?_); refine box_event ?hg (N := 11) ?hd (cs := #[.int .u32 0, .int .i32 0, .int .i32 0, .int .i32 0, .int .i32 0, .int .i32 0, .int .i32 0, .int .i32 0, .int .i32 0, .int .i32 0]) (t := 44) ?hr ?_; (case hd => rfl); (case hg => rfl); (case hr => first | (go_simp; done) | (go_simp; rfl)); intro b175 hg w27 hbox hb; have n0_ := aM (Kd.R_below (by (with_reducible repeat (first | apply Kd.R_alloc | apply Kd.R_drewN | apply Kd.R_drew)); exact HO_6.out) hb); have n1_ := aM (Kd.R_below (by (with_reducible repeat (first | apply Kd.R_alloc | apply Kd.R_drewN | apply Kd.R_drew)); exact HO_7.out) hb); have n2_ := aM (Kd.R_below (Kd.R_elderB (by (with_reducible repeat (first | apply Kd.R_alloc | apply Kd.R_drewN | apply Kd.R_drew)); exact HO_9.out) b175 (Nat.le_of_eq hg.symm)) hb); have n3_ := aM (lT (by repeat (first | (with_reducible first | exact HB.out | apply lA | apply lN | apply lD) | exact HB.out)) hb); have n4_ := aM (hbox); have n5_ := aM ((by rw [hg]; exact (lZ (by repeat (first | (with_reducible first | exact HB.out | apply lA | apply lN | apply lD) | exact HB.out))) : w.heap.size ≤ b175)); have n6_ := aM ((by rw [hg]; exact (lZ (by repeat (first | (with_reducible first | exact HB.out | apply lA | apply lN | apply lD) | exact HB.out))) : w.heap.size ≤ b175)); clear HO_6; clear HO_7; clear HO_9; clear HB; have HO_6 := n0_; have HO_7 := n1_; have HO_9 := n2_; have HB := n3_; have BK175 := n4_; have GW175 := n5_; have GE175 := n6_; clear n0_ n1_ n2_ n3_ n4_ n5_ n6_; clear hb hbox hg; have hcz28_0 : w27.cell? ⟨b175, 0, none⟩ = some (.int .u32 0) := (bC BK175.out 0).trans rfl; have hcz28_1 : w27.cell? ⟨b175, 1, none⟩ = some (.int .i32 0) := (bC BK175.out 1).trans rfl; have hcz28_2 : w27.cell? ⟨b175, 2, none⟩ = some (.int .i32 0) := (bC BK175.out 2).trans rfl; have hcz28_3 : w27.cell? ⟨b175, 3, none⟩ = some (.int .i32 0) := (bC BK175.out 3).trans rfl; have hcz28_4 : w27.cell? ⟨b175, 4, none⟩ = some (.int .i32 0) := (bC BK175.out 4).trans rfl; have hcz28_5 : w27.cell? ⟨b175, 5, none⟩ = some (.int .i32 0) := (bC BK175.out 5).trans rfl; have hcz28_6 : w27.cell? ⟨b175, 6, none⟩ = some (.int .i32 0) := (bC BK175.out 6).trans rfl; have hcz28_7 : w27.cell? ⟨b175, 7, none⟩ = some (.int .i32 0) := (bC BK175.out 7).trans rfl; have hcz28_8 : w27.cell? ⟨b175, 8, none⟩ = some (.int .i32 0) := (bC BK175.out 8).trans rfl; have hcz28_9 : w27.cell? ⟨b175, 9, none⟩ = some (.int .i32 0) := (bC BK175.out 9).trans rfl; have hfz28_0 := bF BK175.out 0; have hfz28_1 := bF BK175.out 1; have hfz28_2 := bF BK175.out 2; have hfz28_3 := bF BK175.out 3; have hfz28_4 := bF BK175.out 4; have hfz28_5 := bF BK175.out 5; have hfz28_6 := bF BK175.out 6; have hfz28_7 := bF BK175.out 7; have hfz28_8 := bF BK175.out 8; have hfz28_9 := bF BK175.out 9))
           have n0_ : Aside0 (Kd.R (Kd.int .i64) 2 ((((((((((w27.setCell ⟨b175, 0, none⟩ (.int .u32 ((rd_T44 l0 x24_1).f0))).setCell ⟨b175, 1, none⟩ (.int .i32 ((rd_T44 l0 x24_1).f1))).setCell ⟨b175, 2, none⟩ (.int .i32 ((rd_T44 l0 x24_1).f2.f0))).setCell ⟨b175, 3, none⟩ (.int .i32 ((rd_T44 l0 x24_1).f2.f1))).setCell ⟨b175, 4, none⟩ (.int .i32 ((rd_T44 l0 x24_1).f3))).setCell ⟨b175, 5, none⟩ (.int .i32 ((rd_T44 l0 x24_1).f4))).setCell ⟨b175, 6, none⟩ (.int .i32 ((rd_T44 l0 x24_1).f5.f0))).setCell ⟨b175, 7, none⟩ (.int .i32 ((rd_T44 l0 x24_1).f5.f1))).setCell ⟨b175, 8, none⟩ (.int .i32 ((rd_T44 l0 x24_1).f6.f0))).setCell ⟨b175, 9, none⟩ (.int .i32 ((rd_T44 l0 x24_1).f6.f1))) w.heap.size (fun k_ => some k_ ≠ (v172 : Value).ownBlock) v170 t168) := ⟨by (with_reducible repeat (first | apply Kd.R_alloc | apply Kd.R_drewN | apply Kd.R_drew)); exact Kd.R_mono (Kd.R_far (p := ⟨b175, 9, none⟩) (Kd.R_far (p := ⟨b175, 8, none⟩) (Kd.R_far (p := ⟨b175, 7, none⟩) (Kd.R_far (p := ⟨b175, 6, none⟩) (Kd.R_far (p := ⟨b175, 5, none⟩) (Kd.R_far (p := ⟨b175, 4, none⟩) (Kd.R_far (p := ⟨b175, 3, none⟩) (Kd.R_far (p := ⟨b175, 2, none⟩) (Kd.R_far (p := ⟨b175, 1, none⟩) (Kd.R_far (p := ⟨b175, 0, none⟩) (Kd.R_types HO_6.out BK175.out (by decide)) (fun _ hk => hk.2) (.int .u32 ((rd_T44 l0 x24_1).f0))) (fun _ hk => hk.2) (.int .i32 ((rd_T44 l0 x24_1).f1))) (fun _ hk => hk.2) (.int .i32 ((rd_T44 l0 x24_1).f2.f0))) (fun _ hk => hk.2) (.int .i32 ((rd_T44 l0 x24_1).f2.f1))) (fun _ hk => hk.2) (.int .i32 ((rd_T44 l0 x24_1).f3))) (fun _ hk => hk.2) (.int .i32 ((rd_T44 l0 x24_1).f4))) (fun _ hk => hk.2) (.int .i32 ((rd_T44 l0 x24_1).f5.f0))) (fun _ hk => hk.2) (.int .i32 ((rd_T44 l0 x24_1).f5.f1))) (fun _ hk => hk.2) (.int .i32 ((rd_T44 l0 x24_1).f6.f0))) (fun _ hk => hk.2) (.int .i32 ((rd_T44 l0 x24_1).f6.f1))) (fun _ hk => hk.1)⟩
           have n1_ : Aside0 (Kd.R (Kd.int .i64) 2 ((((((((((w27.setCell ⟨b175, 0, none⟩ (.int .u32 ((rd_T44 l0 x24_1).f0))).setCell ⟨b175, 1, none⟩ (.int .i32 ((rd_T44 l0 x24_1).f1))).setCell ⟨b175, 2, none⟩ (.int .i32 ((rd_T44 l0 x24_1).f2.f0))).setCell ⟨b175, 3, none⟩ (.int .i32 ((rd_T44 l0 x24_1).f2.f1))).setCell ⟨b175, 4, none⟩ (.int .i32 ((rd_T44 l0 x24_1).f3))).setCell ⟨b175, 5, none⟩ (.int .i32 ((rd_T44 l0 x24_1).f4))).setCell ⟨b175, 6, none⟩ (.int .i32 ((rd_T44 l0 x24_1).f5.f0))).setCell ⟨b175, 7, none⟩ (.int .i32 ((rd_T44 l0 x24_1).f5.f1))).setCell ⟨b175, 8, none⟩ (.int .i32 ((rd_T44 l0 x24_1).f6.f0))).setCell ⟨b175, 9, none⟩ (.int .i32 ((rd_T44 l0 x24_1).f6.f1))) w.heap.size (fun k_ => some k_ ≠ (v170 : Value).ownBlock) v172 t169) := ⟨by (with_reducible repeat (first | apply Kd.R_alloc | apply Kd.R_drewN | apply Kd.R_drew)); exact Kd.R_mono (Kd.R_far (p := ⟨b175, 9, none⟩) (Kd.R_far (p := ⟨b175, 8, none⟩) (Kd.R_far (p := ⟨b175, 7, none⟩) (Kd.R_far (p := ⟨b175, 6, none⟩) (Kd.R_far (p := ⟨b175, 5, none⟩) (Kd.R_far (p := ⟨b175, 4, none⟩) (Kd.R_far (p := ⟨b175, 3, none⟩) (Kd.R_far (p := ⟨b175, 2, none⟩) (Kd.R_far (p := ⟨b175, 1, none⟩) (Kd.R_far (p := ⟨b175, 0, none⟩) (Kd.R_types HO_7.out BK175.out (by decide)) (fun _ hk => hk.2) (.int .u32 ((rd_T44 l0 x24_1).f0))) (fun _ hk => hk.2) (.int .i32 ((rd_T44 l0 x24_1).f1))) (fun _ hk => hk.2) (.int .i32 ((rd_T44 l0 x24_1).f2.f0))) (fun _ hk => hk.2) (.int .i32 ((rd_T44 l0 x24_1).f2.f1))) (fun _ hk => hk.2) (.int .i32 ((rd_T44 l0 x24_1).f3))) (fun _ hk => hk.2) (.int .i32 ((rd_T44 l0 x24_1).f4))) (fun _ hk => hk.2) (.int .i32 ((rd_T44 l0 x24_1).f5.f0))) (fun _ hk => hk.2) (.int .i32 ((rd_T44 l0 x24_1).f5.f1))) (fun _ hk => hk.2) (.int .i32 ((rd_T44 l0 x24_1).f6.f0))) (fun _ hk => hk.2) (.int .i32 ((rd_T44 l0 x24_1).f6.f1))) (fun _ hk => hk.1)⟩
           have n2_ : Aside0 (Kd.R k44 44 ((((((((((w27.setCell ⟨b175, 0, none⟩ (.int .u32 ((rd_T44 l0 x24_1).f0))).setCell ⟨b175, 1, none⟩ (.int .i32 ((rd_T44 l0 x24_1).f1))).setCell ⟨b175, 2, none⟩ (.int .i32 ((rd_T44 l0 x24_1).f2.f0))).setCell ⟨b175, 3, none⟩ (.int .i32 ((rd_T44 l0 x24_1).f2.f1))).setCell ⟨b175, 4, none⟩ (.int .i32 ((rd_T44 l0 x24_1).f3))).setCell ⟨b175, 5, none⟩ (.int .i32 ((rd_T44 l0 x24_1).f4))).setCell ⟨b175, 6, none⟩ (.int .i32 ((rd_T44 l0 x24_1).f5.f0))).setCell ⟨b175, 7, none⟩ (.int .i32 ((rd_T44 l0 x24_1).f5.f1))).setCell ⟨b175, 8, none⟩ (.int .i32 ((rd_T44 l0 x24_1).f6.f0))).setCell ⟨b175, 9, none⟩ (.int .i32 ((rd_T44 l0 x24_1).f6.f1))) w.heap.size (fun k_ => k_ ≠ b175) u9 x9_1) := ⟨by (with_reducible repeat (first | apply Kd.R_alloc | apply Kd.R_drewN | apply Kd.R_drew)); exact Kd.R_mono (Kd.R_far (p := ⟨b175, 9, none⟩) (Kd.R_far (p := ⟨b175, 8, none⟩) (Kd.R_far (p := ⟨b175, 7, none⟩) (Kd.R_far (p := ⟨b175, 6, none⟩) (Kd.R_far (p := ⟨b175, 5, none⟩) (Kd.R_far (p := ⟨b175, 4, none⟩) (Kd.R_far (p := ⟨b175, 3, none⟩) (Kd.R_far (p := ⟨b175, 2, none⟩) (Kd.R_far (p := ⟨b175, 1, none⟩) (Kd.R_far (p := ⟨b175, 0, none⟩) (Kd.R_mono HO_9.out (fun k_ hk => (⟨hk, hk.2⟩ : _ ∧ k_ ≠ b175))) (fun _ hk => hk.2) (.int .u32 ((rd_T44 l0 x24_1).f0))) (fun _ hk => hk.2) (.int .i32 ((rd_T44 l0 x24_1).f1))) (fun _ hk => hk.2) (.int .i32 ((rd_T44 l0 x24_1).f2.f0))) (fun _ hk => hk.2) (.int .i32 ((rd_T44 l0 x24_1).f2.f1))) (fun _ hk => hk.2) (.int .i32 ((rd_T44 l0 x24_1).f3))) (fun _ hk => hk.2) (.int .i32 ((rd_T44 l0 x24_1).f4))) (fun _ hk => hk.2) (.int .i32 ((rd_T44 l0 x24_1).f5.f0))) (fun _ hk => hk.2) (.int .i32 ((rd_T44 l0 x24_1).f5.f1))) (fun _ hk => hk.2) (.int .i32 ((rd_T44 l0 x24_1).f6.f0))) (fun _ hk => hk.2) (.int .i32 ((rd_T44 l0 x24_1).f6.f1))) (fun _ hk => hk.1.2)⟩
           have n3_ : Aside0 (((((((((((w27.setCell ⟨b175, 0, none⟩ (.int .u32 ((rd_T44 l0 x24_1).f0))).setCell ⟨b175, 1, none⟩ (.int .i32 ((rd_T44 l0 x24_1).f1))).setCell ⟨b175, 2, none⟩ (.int .i32 ((rd_T44 l0 x24_1).f2.f0))).setCell ⟨b175, 3, none⟩ (.int .i32 ((rd_T44 l0 x24_1).f2.f1))).setCell ⟨b175, 4, none⟩ (.int .i32 ((rd_T44 l0 x24_1).f3))).setCell ⟨b175, 5, none⟩ (.int .i32 ((rd_T44 l0 x24_1).f4))).setCell ⟨b175, 6, none⟩ (.int .i32 ((rd_T44 l0 x24_1).f5.f0))).setCell ⟨b175, 7, none⟩ (.int .i32 ((rd_T44 l0 x24_1).f5.f1))).setCell ⟨b175, 8, none⟩ (.int .i32 ((rd_T44 l0 x24_1).f6.f0))).setCell ⟨b175, 9, none⟩ (.int .i32 ((rd_T44 l0 x24_1).f6.f1))).heap[b175]? = some (.cells #[.int .u32 ((rd_T44 l0 x24_1).f0), .int .i32 ((rd_T44 l0 x24_1).f1), .int .i32 ((rd_T44 l0 x24_1).f2.f0), .int .i32 ((rd_T44 l0 x24_1).f2.f1), .int .i32 ((rd_T44 l0 x24_1).f3), .int .i32 ((rd_T44 l0 x24_1).f4), .int .i32 ((rd_T44 l0 x24_1).f5.f0), .int .i32 ((rd_T44 l0 x24_1).f5.f1), .int .i32 ((rd_T44 l0 x24_1).f6.f0), .int .i32 ((rd_T44 l0 x24_1).f6.f1)] 44 (0, 0))) := ⟨by (with_reducible repeat first | apply bN | apply bD | apply bA); refine bP (cs := #[.int .u32 ((rd_T44 l0 x24_1).f0), .int .i32 ((rd_T44 l0 x24_1).f1), .int .i32 ((rd_T44 l0 x24_1).f2.f0), .int .i32 ((rd_T44 l0 x24_1).f2.f1), .int .i32 ((rd_T44 l0 x24_1).f3), .int .i32 ((rd_T44 l0 x24_1).f4), .int .i32 ((rd_T44 l0 x24_1).f5.f0), .int .i32 ((rd_T44 l0 x24_1).f5.f1), .int .i32 ((rd_T44 l0 x24_1).f6.f0), .int .i32 0]) ?_ 9 _ rfl; (with_reducible repeat first | apply bN | apply bD | apply bA); refine bP (cs := #[.int .u32 ((rd_T44 l0 x24_1).f0), .int .i32 ((rd_T44 l0 x24_1).f1), .int .i32 ((rd_T44 l0 x24_1).f2.f0), .int .i32 ((rd_T44 l0 x24_1).f2.f1), .int .i32 ((rd_T44 l0 x24_1).f3), .int .i32 ((rd_T44 l0 x24_1).f4), .int .i32 ((rd_T44 l0 x24_1).f5.f0), .int .i32 ((rd_T44 l0 x24_1).f5.f1), .int .i32 0, .int .i32 0]) ?_ 8 _ rfl; (with_reducible repeat first | apply bN | apply bD | apply bA); refine bP (cs := #[.int .u32 ((rd_T44 l0 x24_1).f0), .int .i32 ((rd_T44 l0 x24_1).f1), .int .i32 ((rd_T44 l0 x24_1).f2.f0), .int .i32 ((rd_T44 l0 x24_1).f2.f1), .int .i32 ((rd_T44 l0 x24_1).f3), .int .i32 ((rd_T44 l0 x24_1).f4), .int .i32 ((rd_T44 l0 x24_1).f5.f0), .int .i32 0, .int .i32 0, .int .i32 0]) ?_ 7 _ rfl; (with_reducible repeat first | apply bN | apply bD | apply bA); refine bP (cs := #[.int .u32 ((rd_T44 l0 x24_1).f0), .int .i32 ((rd_T44 l0 x24_1).f1), .int .i32 ((rd_T44 l0 x24_1).f2.f0), .int .i32 ((rd_T44 l0 x24_1).f2.f1), .int .i32 ((rd_T44 l0 x24_1).f3), .int .i32 ((rd_T44 l0 x24_1).f4), .int .i32 0, .int .i32 0, .int .i32 0, .int .i32 0]) ?_ 6 _ rfl; (with_reducible repeat first | apply bN | apply bD | apply bA); refine bP (cs := #[.int .u32 ((rd_T44 l0 x24_1).f0), .int .i32 ((rd_T44 l0 x24_1).f1), .int .i32 ((rd_T44 l0 x24_1).f2.f0), .int .i32 ((rd_T44 l0 x24_1).f2.f1), .int .i32 ((rd_T44 l0 x24_1).f3), .int .i32 0, .int .i32 0, .int .i32 0, .int .i32 0, .int .i32 0]) ?_ 5 _ rfl; (with_reducible repeat first | apply bN | apply bD | apply bA); refine bP (cs := #[.int .u32 ((rd_T44 l0 x24_1).f0), .int .i32 ((rd_T44 l0 x24_1).f1), .int .i32 ((rd_T44 l0 x24_1).f2.f0), .int .i32 ((rd_T44 l0 x24_1).f2.f1), .int .i32 0, .int .i32 0, .int .i32 0, .int .i32 0, .int .i32 0, .int .i32 0]) ?_ 4 _ rfl; (with_reducible repeat first | apply bN | apply bD | apply bA); refine bP (cs := #[.int .u32 ((rd_T44 l0 x24_1).f0), .int .i32 ((rd_T44 l0 x24_1).f1), .int .i32 ((rd_T44 l0 x24_1).f2.f0), .int .i32 0, .int .i32 0, .int .i32 0, .int .i32 0, .int .i32 0, .int .i32 0, .int .i32 0]) ?_ 3 _ rfl; (with_reducible repeat first | apply bN | apply bD | apply bA); refine bP (cs := #[.int .u32 ((rd_T44 l0 x24_1).f0), .int .i32 ((rd_T44 l0 x24_1).f1), .int .i32 0, .int .i32 0, .int .i32 0, .int .i32 0, .int .i32 0, .int .i32 0, .int .i32 0, .int .i32 0]) ?_ 2 _ rfl; (with_reducible repeat first | apply bN | apply bD | apply bA); refine bP (cs := #[.int .u32 ((rd_T44 l0 x24_1).f0), .int .i32 0, .int .i32 0, .int .i32 0, .int .i32 0, .int .i32 0, .int .i32 0, .int .i32 0, .int .i32 0, .int .i32 0]) ?_ 1 _ rfl; (with_reducible repeat first | apply bN | apply bD | apply bA); refine bP (cs := #[.int .u32 0, .int .i32 0, .int .i32 0, .int .i32 0, .int .i32 0, .int .i32 0, .int .i32 0, .int .i32 0, .int .i32 0, .int .i32 0]) ?_ 0 _ rfl; (with_reducible repeat first | apply bN | apply bD | apply bA); exact BK175.out⟩
           have n4_ : Aside0 (Below w.heap.size w ((((((((((w27.setCell ⟨b175, 0, none⟩ (.int .u32 ((rd_T44 l0 x24_1).f0))).setCell ⟨b175, 1, none⟩ (.int .i32 ((rd_T44 l0 x24_1).f1))).setCell ⟨b175, 2, none⟩ (.int .i32 ((rd_T44 l0 x24_1).f2.f0))).setCell ⟨b175, 3, none⟩ (.int .i32 ((rd_T44 l0 x24_1).f2.f1))).setCell ⟨b175, 4, none⟩ (.int .i32 ((rd_T44 l0 x24_1).f3))).setCell ⟨b175, 5, none⟩ (.int .i32 ((rd_T44 l0 x24_1).f4))).setCell ⟨b175, 6, none⟩ (.int .i32 ((rd_T44 l0 x24_1).f5.f0))).setCell ⟨b175, 7, none⟩ (.int .i32 ((rd_T44 l0 x24_1).f5.f1))).setCell ⟨b175, 8, none⟩ (.int .i32 ((rd_T44 l0 x24_1).f6.f0))).setCell ⟨b175, 9, none⟩ (.int .i32 ((rd_T44 l0 x24_1).f6.f1)))) := ⟨by repeat (first | (with_reducible first | exact HB.out | apply lA | apply lN | apply lD | refine lS ?_ GE175.out) | exact HB.out)⟩
           (try clear HO_6)
           (try clear HO_7)
           (try clear HO_9)
           (try clear BK175)
           (try clear HB)
           generalize ((((((((((w27.setCell ⟨b175, 0, none⟩ (.int .u32 ((rd_T44 l0 x24_1).f0))).setCell ⟨b175, 1, none⟩ (.int .i32 ((rd_T44 l0 x24_1).f1))).setCell ⟨b175, 2, none⟩ (.int .i32 ((rd_T44 l0 x24_1).f2.f0))).setCell ⟨b175, 3, none⟩ (.int .i32 ((rd_T44 l0 x24_1).f2.f1))).setCell ⟨b175, 4, none⟩ (.int .i32 ((rd_T44 l0 x24_1).f3))).setCell ⟨b175, 5, none⟩ (.int .i32 ((rd_T44 l0 x24_1).f4))).setCell ⟨b175, 6, none⟩ (.int .i32 ((rd_T44 l0 x24_1).f5.f0))).setCell ⟨b175, 7, none⟩ (.int .i32 ((rd_T44 l0 x24_1).f5.f1))).setCell ⟨b175, 8, none⟩ (.int .i32 ((rd_T44 l0 x24_1).f6.f0))).setCell ⟨b175, 9, none⟩ (.int .i32 ((rd_T44 l0 x24_1).f6.f1))) = w29 at n0_ n1_ n2_ n3_ n4_ ⊢
           have HO_6 := n0_
           have HO_7 := n1_
           have HO_9 := n2_
           have BK175 := n3_
           have HB := n4_
           clear n0_ n1_ n2_ n3_ n4_
           have n0_ := aM (Kd.R_drew HO_6.out)
           have n1_ := aM (Kd.R_drew HO_7.out)
           have n2_ := aM (Kd.R_drew HO_9.out)
           have n3_ := aM (bD BK175.out)
           have n4_ := aM (lD HB.out)
           clear HO_6
           clear HO_7
           clear HO_9
           clear BK175
           clear HB
           have HO_6 := n0_
           have HO_7 := n1_
           have HO_9 := n2_
           have BK175 := n3_
           have HB := n4_
           clear n0_ n1_ n2_ n3_ n4_
           obtain ⟨Ao31, co31, eo31⟩ := Kd.R_slice HO_6.out
           (first | subst eo31 | (injection eo31 with f1_ f2_ f3_; have f4_ := f1_.symm; have f5_ := f3_.symm; clear f1_ f2_ f3_; subst f4_; subst f5_))
           have p176 : 0 ≤ (x24_1 : Int) := of_decide_eq_true (by first | (with_reducible assumption) | assumption)
           have q176 : x24_1 < (t168.length : Int) := of_decide_eq_true (by first | (with_reducible assumption) | assumption)
           obtain ⟨ad176, e176, hx176_0⟩ := Kd.at_int (Kd.R_reads' HO_6.out).2.2 x24_1 p176 q176
           cases e176
           replace p176 := eq_true p176
           replace q176 := eq_true q176
           refine start_ (n := 15) (S := fun w' => w'.cell? ⟨b175, 0, none⟩ = some (.int .u32 ((rd_T44 l0 x24_1).f0)) ∧ w'.cell? ⟨b175, 1, none⟩ = some (.int .i32 ((rd_T44 l0 x24_1).f1)) ∧ w'.cell? ⟨b175, 2, none⟩ = some (.int .i32 ((rd_T44 l0 x24_1).f2.f0)) ∧ w'.cell? ⟨b175, 3, none⟩ = some (.int .i32 ((rd_T44 l0 x24_1).f2.f1)) ∧ w'.cell? ⟨b175, 4, none⟩ = some (.int .i32 ((rd_T44 l0 x24_1).f3)) ∧ w'.cell? ⟨b175, 5, none⟩ = some (.int .i32 ((rd_T44 l0 x24_1).f4)) ∧ w'.cell? ⟨b175, 6, none⟩ = some (.int .i32 ((rd_T44 l0 x24_1).f5.f0)) ∧ w'.cell? ⟨b175, 7, none⟩ = some (.int .i32 ((rd_T44 l0 x24_1).f5.f1)) ∧ w'.cell? ⟨b175, 8, none⟩ = some (.int .i32 ((rd_T44 l0 x24_1).f6.f0)) ∧ w'.cell? ⟨b175, 9, none⟩ = some (.int .i32 ((rd_T44 l0 x24_1).f6.f1)) ∧ w'.cell? (ad176.add (x24_1).toNat) = some (.int .i64 (rd t168 x24_1))) (ds := []) #[F,F,F,F,F,F,F,F,F,F,F,F,F,F,F] (by kernel_rfl) rfl rfl ⟨(bC BK175.out 0).trans rfl, (bC BK175.out 1).trans rfl, (bC BK175.out 2).trans rfl, (bC BK175.out 3).trans rfl, (bC BK175.out 4).trans rfl, (bC BK175.out 5).trans rfl, (bC BK175.out 6).trans rfl, (bC BK175.out 7).trans rfl, (bC BK175.out 8).trans rfl, (bC BK175.out 9).trans rfl, hx176_0⟩ (fun hHeld => ?_); refine with_tabW jacobi_Round.tab7 jacobi_Round.bits7 (fun HT_ HW_ => ?_)
           generalize w29.drew = w30 at HO_6 HO_7 HO_9 BK175 HB hx176_0 hHeld ⊢
           refine pure_ (i := 0) (N := some 30) (v := ?_) (a' := ?_) #[T,F,F,F,F,F,F,F,F,F,F,F,F,F,F] rfl rfl (any_of HT_.out (by kernel_rfl)) (fun _ _ _ h => h) (Or.inl ⟨by rfl, ?_⟩) ?_ ?_
           rotate_left
           ·intro w'
            go_simp
            with_reducible rfl
           rotate_left
           ·simp only [Act.put, sA, sB, sC, i64_w, i32_w]
            rfl
           refine pure_ (i := 1) (N := some 31) (v := ?_) (a' := ?_) #[T,T,F,F,F,F,F,F,F,F,F,F,F,F,F] rfl rfl (any_of HT_.out (by kernel_rfl)) (fun _ _ _ h => h) (Or.inl ⟨by rfl, ?_⟩) ?_ ?_
           rotate_left
           ·intro w'
            go_simp
            with_reducible rfl
           rotate_left
           ·simp only [Act.put, sA, sB, sC, i64_w, i32_w]
            rfl
           refine pure_ (i := 4) (N := some 34) (v := ?_) (a' := ?_) #[T,T,F,F,T,F,F,F,F,F,F,F,F,F,F] rfl rfl (any_of HT_.out (by kernel_rfl)) (fun _ _ _ h => h) (Or.inl ⟨by rfl, ?_⟩) ?_ ?_
           rotate_left
           ·intro w'
            go_simp
            with_reducible rfl
           rotate_left
           ·simp only [Act.put, sA, sB, sC, i64_w, i32_w]
            rfl
           refine pure_ (i := 5) (N := some 35) (v := ?_) (a' := ?_) #[T,T,F,F,T,T,F,F,F,F,F,F,F,F,F] rfl rfl (any_of HT_.out (by kernel_rfl)) (fun _ _ _ h => h) (Or.inl ⟨by rfl, ?_⟩) ?_ ?_
           rotate_left
           ·intro w'
            go_simp
            with_reducible rfl
           rotate_left
           ·simp only [Act.put, sA, sB, sC, i64_w, i32_w]
            rfl
           refine pure_ (i := 6) (N := some 36) (v := ?_) (a' := ?_) #[T,T,F,F,T,T,T,F,F,F,F,F,F,F,F] rfl rfl (any_of HT_.out (by kernel_rfl)) (fun _ _ _ h => h) (Or.inl ⟨by rfl, ?_⟩) ?_ ?_
           rotate_left
           ·intro w'
            go_simp
            with_reducible rfl
           rotate_left
           ·simp only [Act.put, sA, sB, sC, i64_w, i32_w]
            rfl
           refine take_ (i := 2) (N := some 32) (v := ?_) (a' := ?_) #[T,T,T,F,T,T,T,F,F,F,F,F,F,F,F] rfl rfl (take_ofW HT_.out HW_.out (by kernel_rfl)) (fun _ _ _ h => h) (Or.inl ⟨by rfl, ?_⟩) hHeld ?_ ?_
           rotate_left
           ·rintro w' ⟨s0, s1, s2, s3, s4, s5, s6, s7, s8, s9, s10⟩
            go_simp
            with_reducible rfl
           rotate_left
           ·simp only [Act.put, sA, sB, sC, i64_w, i32_w]
            rfl
           refine pure_ (i := 3) (N := some 33) (v := ?_) (a' := ?_) #[T,T,T,T,T,T,T,F,F,F,F,F,F,F,F] rfl rfl (any_of HT_.out (by kernel_rfl)) (fun _ _ _ h => h) (Or.inl ⟨by rfl, ?_⟩) ?_ ?_
           rotate_left
           ·intro w'
            go_simp
            with_reducible rfl
           rotate_left
           ·simp only [Act.put, sA, sB, sC, i64_w, i32_w]
            rfl
           refine take_ (i := 7) (N := some 37) (v := ?_) (a' := ?_) #[T,T,T,T,T,T,T,T,F,F,F,F,F,F,F] rfl rfl (take_ofW HT_.out HW_.out (by kernel_rfl)) (fun _ _ _ h => h) (Or.inl ⟨by rfl, ?_⟩) hHeld ?_ ?_
           rotate_left
           ·rintro w' ⟨s0, s1, s2, s3, s4, s5, s6, s7, s8, s9, s10⟩
            go_simp
            with_reducible rfl
           rotate_left
           ·simp only [Act.put, sA, sB, sC, i64_w, i32_w]
            rfl
           refine pure_ (i := 8) (N := some 38) (v := ?_) (a' := ?_) #[T,T,T,T,T,T,T,T,T,F,F,F,F,F,F] rfl rfl (any_of HT_.out (by kernel_rfl)) (fun _ _ _ h => h) (Or.inl ⟨by rfl, ?_⟩) ?_ ?_
           rotate_left
           ·intro w'
            go_simp
            with_reducible rfl
           rotate_left
           ·simp only [Act.put, sA, sB, sC, i64_w, i32_w]
            rfl
           refine one_ (i := 9) (N := some 39) #[T,T,T,T,T,T,T,T,T,T,F,F,F,F,F] rfl rfl (one_of HT_.out (by kernel_rfl)) (by decide) (fun K hK => ?_)
           refine goes_ Try.func23 (by kernel_rfl) rfl #[.int .i64 (wrap64 ((wrap64 ((rd_T44 l0 x24_1).f6.f0)) + (rd t168 x24_1))), .int .i64 16777216] (by rfl) rfl rfl (by (try simp only [List.map_toArray, List.map_cons, List.map_nil]); first | done | rfl | (simp only [List.length_drop, List.length_take]; rfl)) ?_
           with_reducible refine (fx_Limit.calls (wrap64 ((wrap64 ((rd_T44 l0 x24_1).f6.f0)) + (rd t168 x24_1))) 16777216 t177 true _ A9.out).mono ?_
           rintro e w32 ⟨rfl, hb⟩
           have HS10_ := (hb.cell (World.block_lt_of_cell? _ _ (hHeld.2.2.2.2.2.2.2.2.2.2))).trans (hHeld.2.2.2.2.2.2.2.2.2.2)
           refine ⟨_, rfl, ?_⟩
           have n0_ := aM (Kd.R_below (by (with_reducible repeat (first | apply Kd.R_alloc | apply Kd.R_drewN | apply Kd.R_drew)); exact HO_6.out) hb)
           have n1_ := aM (Kd.R_below (by (with_reducible repeat (first | apply Kd.R_alloc | apply Kd.R_drewN | apply Kd.R_drew)); exact HO_7.out) hb)
           have n2_ := aM (Kd.R_below (by (with_reducible repeat (first | apply Kd.R_alloc | apply Kd.R_drewN | apply Kd.R_drew)); exact HO_9.out) hb)
           have n3_ := aM (bB (by (with_reducible repeat first | apply bN | apply bD | apply bA); exact BK175.out) hb)
           have n4_ := aM (lT (by repeat (first | (with_reducible first | exact HB.out | apply lA | apply lN | apply lD | refine lS ?_ GE175.out) | exact HB.out)) hb)
           clear HO_6
           clear HO_7
           clear HO_9
           clear BK175
           clear HB
           have HO_6 := n0_
           have HO_7 := n1_
           have HO_9 := n2_
           have BK175 := n3_
           have HB := n4_
           clear n0_ n1_ n2_ n3_ n4_
           (try clear hb)
           (try clear hb2)
           (try clear hk)
           (try clear hi)
           refine hK.out _ _ ⟨(bC BK175.out 0).trans rfl, (bC BK175.out 1).trans rfl, (bC BK175.out 2).trans rfl, (bC BK175.out 3).trans rfl, (bC BK175.out 4).trans rfl, (bC BK175.out 5).trans rfl, (bC BK175.out 6).trans rfl, (bC BK175.out 7).trans rfl, (bC BK175.out 8).trans rfl, (bC BK175.out 9).trans rfl, HS10_⟩ (fun hHeld => ?_)
           clear hK K
           refine norm_ (a' := ?_) ?_ ?_
           rotate_left
           ·show Act.put _ (some 39) _ = _
            simp only [Act.put, sA, sB, sC, i64_w, i32_w]
            rfl
           refine pure_ (i := 10) (N := some 29) (v := ?_) (a' := ?_) #[T,T,T,T,T,T,T,T,T,T,T,F,F,F,F] rfl rfl (any_of HT_.out (by kernel_rfl)) (fun _ _ _ h => h) (Or.inl ⟨by rfl, ?_⟩) ?_ ?_
           rotate_left
           ·intro w'
            go_simp
            with_reducible rfl
           rotate_left
           ·simp only [Act.put, sA, sB, sC, i64_w, i32_w]
            rfl
           refine pure_ (i := 11) (N := some 40) (v := ?_) (a' := ?_) #[T,T,T,T,T,T,T,T,T,T,T,T,F,F,F] rfl rfl (any_of HT_.out (by kernel_rfl)) (fun _ _ _ h => h) (Or.inl ⟨by rfl, ?_⟩) ?_ ?_
           rotate_left
           ·intro w'
            go_simp
            with_reducible rfl
           rotate_left
           ·simp only [Act.put, sA, sB, sC, i64_w, i32_w]
            rfl
           refine pure_ (i := 12) (N := some 41) (v := ?_) (a' := ?_) #[T,T,T,T,T,T,T,T,T,T,T,T,T,F,F] rfl rfl (any_of HT_.out (by kernel_rfl)) (fun _ _ _ h => h) (Or.inl ⟨by rfl, ?_⟩) ?_ ?_
           rotate_left
           ·intro w'
            go_simp
            with_reducible rfl
           rotate_left
           ·simp only [Act.put, sA, sB, sC, i64_w, i32_w]
            rfl
           refine pure_ (i := 13) (N := some 12) (v := ?_) (a' := ?_) #[T,T,T,T,T,T,T,T,T,T,T,T,T,T,F] rfl rfl (any_of HT_.out (by kernel_rfl)) (fun _ _ _ h => h) (Or.inl ⟨by rfl, ?_⟩) ?_ ?_
           rotate_left
           ·intro w'
            go_simp
            with_reducible rfl
           rotate_left
           ·simp only [Act.put, sA, sB, sC, i64_w, i32_w]
            rfl
           refine pure_ (i := 14) (N := some 13) (v := ?_) (a' := ?_) #[T,T,T,T,T,T,T,T,T,T,T,T,T,T,T] rfl rfl (any_of HT_.out (by kernel_rfl)) (fun _ _ _ h => h) (Or.inl ⟨by rfl, ?_⟩) ?_ ?_
           rotate_left
           ·intro w'
            go_simp
            with_reducible rfl
           rotate_left
           ·simp only [Act.put, sA, sB, sC, i64_w, i32_w]
            rfl
           refine done_ (done_of HT_.out (by kernel_rfl)) ?_
           try go_wp2
           have n0_ := aM (Kd.R_drew HO_6.out)
           have n1_ := aM (Kd.R_drew HO_7.out)
           have n2_ := aM (Kd.R_drew HO_9.out)
           have n3_ := aM (bD BK175.out)
           have n4_ := aM (lD HB.out)
           clear HO_6
           clear HO_7
           clear HO_9
           clear BK175
           clear HB
           have HO_6 := n0_
           have HO_7 := n1_
           have HO_9 := n2_
           have BK175 := n3_
           have HB := n4_
           clear n0_ n1_ n2_ n3_ n4_
           obtain ⟨Ao34, co34, eo34⟩ := Kd.R_slice HO_7.out
           (first | subst eo34 | (injection eo34 with f1_ f2_ f3_; have f4_ := f1_.symm; have f5_ := f3_.symm; clear f1_ f2_ f3_; subst f4_; subst f5_))
           have p179 : 0 ≤ (x24_1 : Int) := of_decide_eq_true (by first | (with_reducible assumption) | assumption)
           have q179 : x24_1 < (t169.length : Int) := of_decide_eq_true (by first | (with_reducible assumption) | assumption)
           obtain ⟨ad179, e179, hx179_0⟩ := Kd.at_int (Kd.R_reads' HO_7.out).2.2 x24_1 p179 q179
           cases e179
           replace p179 := eq_true p179
           replace q179 := eq_true q179
           refine start_ (n := 15) (S := fun w' => w'.cell? ⟨b175, 0, none⟩ = some (.int .u32 ((rd_T44 l0 x24_1).f0)) ∧ w'.cell? ⟨b175, 1, none⟩ = some (.int .i32 ((rd_T44 l0 x24_1).f1)) ∧ w'.cell? ⟨b175, 2, none⟩ = some (.int .i32 ((rd_T44 l0 x24_1).f2.f0)) ∧ w'.cell? ⟨b175, 3, none⟩ = some (.int .i32 ((rd_T44 l0 x24_1).f2.f1)) ∧ w'.cell? ⟨b175, 4, none⟩ = some (.int .i32 ((rd_T44 l0 x24_1).f3)) ∧ w'.cell? ⟨b175, 5, none⟩ = some (.int .i32 ((rd_T44 l0 x24_1).f4)) ∧ w'.cell? ⟨b175, 6, none⟩ = some (.int .i32 ((rd_T44 l0 x24_1).f5.f0)) ∧ w'.cell? ⟨b175, 7, none⟩ = some (.int .i32 ((rd_T44 l0 x24_1).f5.f1)) ∧ w'.cell? ⟨b175, 8, none⟩ = some (.int .i32 ((rd_T44 l0 x24_1).f6.f0)) ∧ w'.cell? ⟨b175, 9, none⟩ = some (.int .i32 ((rd_T44 l0 x24_1).f6.f1)) ∧ w'.cell? (ad179.add (x24_1).toNat) = some (.int .i64 (rd t169 x24_1))) (ds := []) #[F,F,F,F,F,F,F,F,F,F,F,F,F,F,F] (by kernel_rfl) rfl rfl ⟨(bC BK175.out 0).trans rfl, (bC BK175.out 1).trans rfl, (bC BK175.out 2).trans rfl, (bC BK175.out 3).trans rfl, (bC BK175.out 4).trans rfl, (bC BK175.out 5).trans rfl, (bC BK175.out 6).trans rfl, (bC BK175.out 7).trans rfl, (bC BK175.out 8).trans rfl, (bC BK175.out 9).trans rfl, hx179_0⟩ (fun hHeld => ?_); refine with_tabW jacobi_Round.tab8 jacobi_Round.bits8 (fun HT_ HW_ => ?_)
           generalize w32.drew = w33 at HO_6 HO_7 HO_9 BK175 HB hx179_0 hHeld ⊢
           refine pure_ (i := 0) (N := some 43) (v := ?_) (a' := ?_) #[T,F,F,F,F,F,F,F,F,F,F,F,F,F,F] rfl rfl (any_of HT_.out (by kernel_rfl)) (fun _ _ _ h => h) (Or.inl ⟨by rfl, ?_⟩) ?_ ?_
           rotate_left
           ·intro w'
            go_simp
            with_reducible rfl
           rotate_left
           ·simp only [Act.put, sA, sB, sC, i64_w, i32_w]
            rfl
           refine pure_ (i := 1) (N := some 44) (v := ?_) (a' := ?_) #[T,T,F,F,F,F,F,F,F,F,F,F,F,F,F] rfl rfl (any_of HT_.out (by kernel_rfl)) (fun _ _ _ h => h) (Or.inl ⟨by rfl, ?_⟩) ?_ ?_
           rotate_left
           ·intro w'
            go_simp
            with_reducible rfl
           rotate_left
           ·simp only [Act.put, sA, sB, sC, i64_w, i32_w]
            rfl
           refine pure_ (i := 4) (N := some 47) (v := ?_) (a' := ?_) #[T,T,F,F,T,F,F,F,F,F,F,F,F,F,F] rfl rfl (any_of HT_.out (by kernel_rfl)) (fun _ _ _ h => h) (Or.inl ⟨by rfl, ?_⟩) ?_ ?_
           rotate_left
           ·intro w'
            go_simp
            with_reducible rfl
           rotate_left
           ·simp only [Act.put, sA, sB, sC, i64_w, i32_w]
            rfl
           refine pure_ (i := 5) (N := some 48) (v := ?_) (a' := ?_) #[T,T,F,F,T,T,F,F,F,F,F,F,F,F,F] rfl rfl (any_of HT_.out (by kernel_rfl)) (fun _ _ _ h => h) (Or.inl ⟨by rfl, ?_⟩) ?_ ?_
           rotate_left
           ·intro w'
            go_simp
            with_reducible rfl
           rotate_left
           ·simp only [Act.put, sA, sB, sC, i64_w, i32_w]
            rfl
           refine pure_ (i := 6) (N := some 49) (v := ?_) (a' := ?_) #[T,T,F,F,T,T,T,F,F,F,F,F,F,F,F] rfl rfl (any_of HT_.out (by kernel_rfl)) (fun _ _ _ h => h) (Or.inl ⟨by rfl, ?_⟩) ?_ ?_
           rotate_left
           ·intro w'
            go_simp
            with_reducible rfl
           rotate_left
           ·simp only [Act.put, sA, sB, sC, i64_w, i32_w]
            rfl
           refine take_ (i := 2) (N := some 45) (v := ?_) (a' := ?_) #[T,T,T,F,T,T,T,F,F,F,F,F,F,F,F] rfl rfl (take_ofW HT_.out HW_.out (by kernel_rfl)) (fun _ _ _ h => h) (Or.inl ⟨by rfl, ?_⟩) hHeld ?_ ?_
           rotate_left
           ·rintro w' ⟨s0, s1, s2, s3, s4, s5, s6, s7, s8, s9, s10⟩
            go_simp
            with_reducible rfl
           rotate_left
           ·simp only [Act.put, sA, sB, sC, i64_w, i32_w]
            rfl
           refine pure_ (i := 3) (N := some 46) (v := ?_) (a' := ?_) #[T,T,T,T,T,T,T,F,F,F,F,F,F,F,F] rfl rfl (any_of HT_.out (by kernel_rfl)) (fun _ _ _ h => h) (Or.inl ⟨by rfl, ?_⟩) ?_ ?_
           rotate_left
           ·intro w'
            go_simp
            with_reducible rfl
           rotate_left
           ·simp only [Act.put, sA, sB, sC, i64_w, i32_w]
            rfl
           refine take_ (i := 7) (N := some 50) (v := ?_) (a' := ?_) #[T,T,T,T,T,T,T,T,F,F,F,F,F,F,F] rfl rfl (take_ofW HT_.out HW_.out (by kernel_rfl)) (fun _ _ _ h => h) (Or.inl ⟨by rfl, ?_⟩) hHeld ?_ ?_
           rotate_left
           ·rintro w' ⟨s0, s1, s2, s3, s4, s5, s6, s7, s8, s9, s10⟩
            go_simp
            with_reducible rfl
           rotate_left
           ·simp only [Act.put, sA, sB, sC, i64_w, i32_w]
            rfl
           refine pure_ (i := 8) (N := some 51) (v := ?_) (a' := ?_) #[T,T,T,T,T,T,T,T,T,F,F,F,F,F,F] rfl rfl (any_of HT_.out (by kernel_rfl)) (fun _ _ _ h => h) (Or.inl ⟨by rfl, ?_⟩) ?_ ?_
           rotate_left
           ·intro w'
            go_simp
            with_reducible rfl
           rotate_left
           ·simp only [Act.put, sA, sB, sC, i64_w, i32_w]
            rfl
           refine one_ (i := 9) (N := some 52) #[T,T,T,T,T,T,T,T,T,T,F,F,F,F,F] rfl rfl (one_of HT_.out (by kernel_rfl)) (by decide) (fun K hK => ?_)
           refine goes_ Try.func23 (by kernel_rfl) rfl #[.int .i64 (wrap64 ((wrap64 ((rd_T44 l0 x24_1).f6.f1)) + (rd t169 x24_1))), .int .i64 16777216] (by rfl) rfl rfl (by (try simp only [List.map_toArray, List.map_cons, List.map_nil]); first | done | rfl | (simp only [List.length_drop, List.length_take]; rfl)) ?_
           with_reducible refine (fx_Limit.calls (wrap64 ((wrap64 ((rd_T44 l0 x24_1).f6.f1)) + (rd t169 x24_1))) 16777216 t180 t181 _ A11.out).mono ?_
           rintro e w35 ⟨rfl, hb⟩
           have HS10_ := (hb.cell (World.block_lt_of_cell? _ _ (hHeld.2.2.2.2.2.2.2.2.2.2))).trans (hHeld.2.2.2.2.2.2.2.2.2.2)
           refine ⟨_, rfl, ?_⟩
           have n0_ := aM (Kd.R_below (by (with_reducible repeat (first | apply Kd.R_alloc | apply Kd.R_drewN | apply Kd.R_drew)); exact HO_6.out) hb)
           have n1_ := aM (Kd.R_below (by (with_reducible repeat (first | apply Kd.R_alloc | apply Kd.R_drewN | apply Kd.R_drew)); exact HO_7.out) hb)
           have n2_ := aM (Kd.R_below (by (with_reducible repeat (first | apply Kd.R_alloc | apply Kd.R_drewN | apply Kd.R_drew)); exact HO_9.out) hb)
           have n3_ := aM (bB (by (with_reducible repeat first | apply bN | apply bD | apply bA); exact BK175.out) hb)
           have n4_ := aM (lT (by repeat (first | (with_reducible first | exact HB.out | apply lA | apply lN | apply lD | refine lS ?_ GE175.out) | exact HB.out)) hb)
           clear HO_6
           clear HO_7
           clear HO_9
           clear BK175
           clear HB
           have HO_6 := n0_
           have HO_7 := n1_
           have HO_9 := n2_
           have BK175 := n3_
           have HB := n4_
           clear n0_ n1_ n2_ n3_ n4_
           (try clear hb)
           (try clear hb2)
           (try clear hk)
           (try clear hi)
           refine hK.out _ _ ⟨(bC BK175.out 0).trans rfl, (bC BK175.out 1).trans rfl, (bC BK175.out 2).trans rfl, (bC BK175.out 3).trans rfl, (bC BK175.out 4).trans rfl, (bC BK175.out 5).trans rfl, (bC BK175.out 6).trans rfl, (bC BK175.out 7).trans rfl, (bC BK175.out 8).trans rfl, (bC BK175.out 9).trans rfl, HS10_⟩ (fun hHeld => ?_)
           clear hK K
           refine norm_ (a' := ?_) ?_ ?_
           rotate_left
           ·show Act.put _ (some 52) _ = _
            simp only [Act.put, sA, sB, sC, i64_w, i32_w]
            rfl
           refine pure_ (i := 10) (N := some 42) (v := ?_) (a' := ?_) #[T,T,T,T,T,T,T,T,T,T,T,F,F,F,F] rfl rfl (any_of HT_.out (by kernel_rfl)) (fun _ _ _ h => h) (Or.inl ⟨by rfl, ?_⟩) ?_ ?_
           rotate_left
           ·intro w'
            go_simp
            with_reducible rfl
           rotate_left
           ·simp only [Act.put, sA, sB, sC, i64_w, i32_w]
            rfl
           refine pure_ (i := 11) (N := some 53) (v := ?_) (a' := ?_) #[T,T,T,T,T,T,T,T,T,T,T,T,F,F,F] rfl rfl (any_of HT_.out (by kernel_rfl)) (fun _ _ _ h => h) (Or.inl ⟨by rfl, ?_⟩) ?_ ?_
           rotate_left
           ·intro w'
            go_simp
            with_reducible rfl
           rotate_left
           ·simp only [Act.put, sA, sB, sC, i64_w, i32_w]
            rfl
           refine pure_ (i := 12) (N := some 54) (v := ?_) (a' := ?_) #[T,T,T,T,T,T,T,T,T,T,T,T,T,F,F] rfl rfl (any_of HT_.out (by kernel_rfl)) (fun _ _ _ h => h) (Or.inl ⟨by rfl, ?_⟩) ?_ ?_
           rotate_left
           ·intro w'
            go_simp
            with_reducible rfl
           rotate_left
           ·simp only [Act.put, sA, sB, sC, i64_w, i32_w]
            rfl
           refine pure_ (i := 13) (N := some 14) (v := ?_) (a' := ?_) #[T,T,T,T,T,T,T,T,T,T,T,T,T,T,F] rfl rfl (any_of HT_.out (by kernel_rfl)) (fun _ _ _ h => h) (Or.inl ⟨by rfl, ?_⟩) ?_ ?_
           rotate_left
           ·intro w'
            go_simp
            with_reducible rfl
           rotate_left
           ·simp only [Act.put, sA, sB, sC, i64_w, i32_w]
            rfl
           refine pure_ (i := 14) (N := some 15) (v := ?_) (a' := ?_) #[T,T,T,T,T,T,T,T,T,T,T,T,T,T,T] rfl rfl (any_of HT_.out (by kernel_rfl)) (fun _ _ _ h => h) (Or.inl ⟨by rfl, ?_⟩) ?_ ?_
           rotate_left
           ·intro w'
            go_simp
            with_reducible rfl
           rotate_left
           ·simp only [Act.put, sA, sB, sC, i64_w, i32_w]
            rfl
           refine done_ (done_of HT_.out (by kernel_rfl)) ?_
           have hcz36_0 : w35.cell? ⟨b175, 0, none⟩ = some (.int .u32 ((rd_T44 l0 x24_1).f0)) := (bC BK175.out 0).trans rfl
           have hcz36_1 : w35.cell? ⟨b175, 1, none⟩ = some (.int .i32 ((rd_T44 l0 x24_1).f1)) := (bC BK175.out 1).trans rfl
           have hcz36_2 : w35.cell? ⟨b175, 2, none⟩ = some (.int .i32 ((rd_T44 l0 x24_1).f2.f0)) := (bC BK175.out 2).trans rfl
           have hcz36_3 : w35.cell? ⟨b175, 3, none⟩ = some (.int .i32 ((rd_T44 l0 x24_1).f2.f1)) := (bC BK175.out 3).trans rfl
           have hcz36_4 : w35.cell? ⟨b175, 4, none⟩ = some (.int .i32 ((rd_T44 l0 x24_1).f3)) := (bC BK175.out 4).trans rfl
           have hcz36_5 : w35.cell? ⟨b175, 5, none⟩ = some (.int .i32 ((rd_T44 l0 x24_1).f4)) := (bC BK175.out 5).trans rfl
           have hcz36_6 : w35.cell? ⟨b175, 6, none⟩ = some (.int .i32 ((rd_T44 l0 x24_1).f5.f0)) := (bC BK175.out 6).trans rfl
           have hcz36_7 : w35.cell? ⟨b175, 7, none⟩ = some (.int .i32 ((rd_T44 l0 x24_1).f5.f1)) := (bC BK175.out 7).trans rfl
           have hcz36_8 : w35.cell? ⟨b175, 8, none⟩ = some (.int .i32 ((rd_T44 l0 x24_1).f6.f0)) := (bC BK175.out 8).trans rfl
           have hcz36_9 : w35.cell? ⟨b175, 9, none⟩ = some (.int .i32 ((rd_T44 l0 x24_1).f6.f1)) := (bC BK175.out 9).trans rfl
           have hfz36_0 := bF BK175.out 0
           have hfz36_1 := bF BK175.out 1
           have hfz36_2 := bF BK175.out 2
           have hfz36_3 := bF BK175.out 3
           have hfz36_4 := bF BK175.out 4
           have hfz36_5 := bF BK175.out 5
           have hfz36_6 := bF BK175.out 6
           have hfz36_7 := bF BK175.out 7
           have hfz36_8 := bF BK175.out 8
           have hfz36_9 := bF BK175.out 9
           try go_wp2_with (first | ((with_reducible refine gate_builtin (b := .append) (xs := #[.tmp 68, .tmp 70]) rfl ?_); at_builtin; refine Kd.R_append k44 (w0 := w) w.heap.size rfl (.tmp 68) (.tmp 70) 22 44 (.agg #[(.int .u32 0), (.int .i32 0), (.int .i32 0), (.int .i32 0), (.int .i32 0), (.int .i32 0), (.int .i32 0), (.int .i32 0), (.int .i32 0), (.int .i32 0)]) 40 rfl Try.underlying22 info44 rfl (by decide) (by omega) u9 x9_1 (⟨(rd_T44 l0 x24_1).f0, (rd_T44 l0 x24_1).f1, (⟨(rd_T44 l0 x24_1).f2.f0, (rd_T44 l0 x24_1).f2.f1⟩ : S39), (rd_T44 l0 x24_1).f3, (rd_T44 l0 x24_1).f4, (⟨(rd_T44 l0 x24_1).f5.f0, (rd_T44 l0 x24_1).f5.f1⟩ : S39), (⟨wrap32 (t177), wrap32 (t180)⟩ : S39)⟩ : S44) [.int .u32 ((rd_T44 l0 x24_1).f0), .int .i32 ((rd_T44 l0 x24_1).f1), .int .i32 ((rd_T44 l0 x24_1).f2.f0), .int .i32 ((rd_T44 l0 x24_1).f2.f1), .int .i32 ((rd_T44 l0 x24_1).f3), .int .i32 ((rd_T44 l0 x24_1).f4), .int .i32 ((rd_T44 l0 x24_1).f5.f0), .int .i32 ((rd_T44 l0 x24_1).f5.f1), .int .i32 (wrap32 (t177)), .int .i32 (wrap32 (t180))] (fun k_ => k_ ≠ b175) (fun _ => False) rfl (by first | (go_simp; done) | (go_simp; rfl)) ?aP (fun _ hk => hk.elim) ?aF ?aO ?aB ?aS ?aL ?_; (case aP => exact k44_mkM _ _ _ (⟨(rd_T44 l0 x24_1).f0, (rd_T44 l0 x24_1).f1, (⟨(rd_T44 l0 x24_1).f2.f0, (rd_T44 l0 x24_1).f2.f1⟩ : S39), (rd_T44 l0 x24_1).f3, (rd_T44 l0 x24_1).f4, (⟨(rd_T44 l0 x24_1).f5.f0, (rd_T44 l0 x24_1).f5.f1⟩ : S39), (⟨wrap32 (t177), wrap32 (t180)⟩ : S39)⟩ : S44)); (case aB => exact (by repeat (first | (with_reducible first | exact HB.out | apply lA | apply lN | apply lD | refine lS ?_ GE175.out) | exact HB.out))); (case aF => exact (fun k_ hk => Kd.freshB (g := b175) (o := .cells #[.int .u32 ((rd_T44 l0 x24_1).f0), .int .i32 ((rd_T44 l0 x24_1).f1), .int .i32 ((rd_T44 l0 x24_1).f2.f0), .int .i32 ((rd_T44 l0 x24_1).f2.f1), .int .i32 ((rd_T44 l0 x24_1).f3), .int .i32 ((rd_T44 l0 x24_1).f4), .int .i32 ((rd_T44 l0 x24_1).f5.f0), .int .i32 ((rd_T44 l0 x24_1).f5.f1), .int .i32 (wrap32 (t177)), .int .i32 (wrap32 (t180))] 44 (0, 0)) (by (with_reducible repeat first | apply bN | apply bD | apply bA); refine bP (cs := #[.int .u32 ((rd_T44 l0 x24_1).f0), .int .i32 ((rd_T44 l0 x24_1).f1), .int .i32 ((rd_T44 l0 x24_1).f2.f0), .int .i32 ((rd_T44 l0 x24_1).f2.f1), .int .i32 ((rd_T44 l0 x24_1).f3), .int .i32 ((rd_T44 l0 x24_1).f4), .int .i32 ((rd_T44 l0 x24_1).f5.f0), .int .i32 ((rd_T44 l0 x24_1).f5.f1), .int .i32 (wrap32 (t177)), .int .i32 ((rd_T44 l0 x24_1).f6.f1)]) ?_ 9 _ rfl; (with_reducible repeat first | apply bN | apply bD | apply bA); refine bP (cs := #[.int .u32 ((rd_T44 l0 x24_1).f0), .int .i32 ((rd_T44 l0 x24_1).f1), .int .i32 ((rd_T44 l0 x24_1).f2.f0), .int .i32 ((rd_T44 l0 x24_1).f2.f1), .int .i32 ((rd_T44 l0 x24_1).f3), .int .i32 ((rd_T44 l0 x24_1).f4), .int .i32 ((rd_T44 l0 x24_1).f5.f0), .int .i32 ((rd_T44 l0 x24_1).f5.f1), .int .i32 ((rd_T44 l0 x24_1).f6.f0), .int .i32 ((rd_T44 l0 x24_1).f6.f1)]) ?_ 8 _ rfl; (with_reducible repeat first | apply bN | apply bD | apply bA); exact BK175.out) k_ hk)); (case aO => exact (by (with_reducible repeat (first | apply Kd.R_alloc | apply Kd.R_drewN | apply Kd.R_drew)); exact Kd.R_mono (Kd.R_far (p := ⟨b175, 9, none⟩) (Kd.R_far (p := ⟨b175, 8, none⟩) (Kd.R_mono HO_9.out (fun k_ hk => (⟨hk, hk⟩ : _ ∧ k_ ≠ b175))) (fun _ hk => hk.2) (.int .i32 (wrap32 (t177)))) (fun _ hk => hk.2) (.int .i32 (wrap32 (t180)))) (fun _ hk => hk.1))); (case aS => exact (lZ (by repeat (first | (with_reducible first | exact HB.out | apply lA | apply lN | apply lD | refine lS ?_ GE175.out) | exact HB.out)))); (case aL => have := LMc26.out; omega); intro v186 w37 ho hb hg hat; rw [← Ny185.out] at ho; have n0_ := aM (Kd.R_over' (by (with_reducible repeat (first | apply Kd.R_alloc | apply Kd.R_drewN | apply Kd.R_drew)); exact (Kd.R_mono (Kd.R_far (p := ⟨b175, 9, none⟩) (Kd.R_far (p := ⟨b175, 8, none⟩) (Kd.R_types HO_6.out BK175.out (by decide)) (fun _ hk => hk.2) (.int .i32 (wrap32 (t177)))) (fun _ hk => hk.2) (.int .i32 (wrap32 (t180)))) (fun _ h_ => h_.1))) (Kd.R_typed (by (with_reducible repeat (first | apply Kd.R_alloc | apply Kd.R_drewN | apply Kd.R_drew)); exact (Kd.R_mono (Kd.R_far (p := ⟨b175, 9, none⟩) (Kd.R_far (p := ⟨b175, 8, none⟩) (Kd.R_mono HO_9.out (fun k_ hk => (⟨hk, hk⟩ : _ ∧ k_ ≠ b175))) (fun _ hk => hk.2) (.int .i32 (wrap32 (t177)))) (fun _ hk => hk.2) (.int .i32 (wrap32 (t180)))) (fun _ h_ => h_.1)))) (by decide) hg); have n1_ := aM (Kd.R_over' (by (with_reducible repeat (first | apply Kd.R_alloc | apply Kd.R_drewN | apply Kd.R_drew)); exact (Kd.R_mono (Kd.R_far (p := ⟨b175, 9, none⟩) (Kd.R_far (p := ⟨b175, 8, none⟩) (Kd.R_types HO_7.out BK175.out (by decide)) (fun _ hk => hk.2) (.int .i32 (wrap32 (t177)))) (fun _ hk => hk.2) (.int .i32 (wrap32 (t180)))) (fun _ h_ => h_.1))) (Kd.R_typed (by (with_reducible repeat (first | apply Kd.R_alloc | apply Kd.R_drewN | apply Kd.R_drew)); exact (Kd.R_mono (Kd.R_far (p := ⟨b175, 9, none⟩) (Kd.R_far (p := ⟨b175, 8, none⟩) (Kd.R_mono HO_9.out (fun k_ hk => (⟨hk, hk⟩ : _ ∧ k_ ≠ b175))) (fun _ hk => hk.2) (.int .i32 (wrap32 (t177)))) (fun _ hk => hk.2) (.int .i32 (wrap32 (t180)))) (fun _ h_ => h_.1)))) (by decide) hg); have n2_ := aM (blk_grown (g := b175) (o := .cells #[.int .u32 ((rd_T44 l0 x24_1).f0), .int .i32 ((rd_T44 l0 x24_1).f1), .int .i32 ((rd_T44 l0 x24_1).f2.f0), .int .i32 ((rd_T44 l0 x24_1).f2.f1), .int .i32 ((rd_T44 l0 x24_1).f3), .int .i32 ((rd_T44 l0 x24_1).f4), .int .i32 ((rd_T44 l0 x24_1).f5.f0), .int .i32 ((rd_T44 l0 x24_1).f5.f1), .int .i32 (wrap32 (t177)), .int .i32 (wrap32 (t180))] 44 (0, 0)) (by (with_reducible repeat first | apply bN | apply bD | apply bA); refine bP (cs := #[.int .u32 ((rd_T44 l0 x24_1).f0), .int .i32 ((rd_T44 l0 x24_1).f1), .int .i32 ((rd_T44 l0 x24_1).f2.f0), .int .i32 ((rd_T44 l0 x24_1).f2.f1), .int .i32 ((rd_T44 l0 x24_1).f3), .int .i32 ((rd_T44 l0 x24_1).f4), .int .i32 ((rd_T44 l0 x24_1).f5.f0), .int .i32 ((rd_T44 l0 x24_1).f5.f1), .int .i32 (wrap32 (t177)), .int .i32 ((rd_T44 l0 x24_1).f6.f1)]) ?_ 9 _ rfl; (with_reducible repeat first | apply bN | apply bD | apply bA); refine bP (cs := #[.int .u32 ((rd_T44 l0 x24_1).f0), .int .i32 ((rd_T44 l0 x24_1).f1), .int .i32 ((rd_T44 l0 x24_1).f2.f0), .int .i32 ((rd_T44 l0 x24_1).f2.f1), .int .i32 ((rd_T44 l0 x24_1).f3), .int .i32 ((rd_T44 l0 x24_1).f4), .int .i32 ((rd_T44 l0 x24_1).f5.f0), .int .i32 ((rd_T44 l0 x24_1).f5.f1), .int .i32 ((rd_T44 l0 x24_1).f6.f0), .int .i32 ((rd_T44 l0 x24_1).f6.f1)]) ?_ 8 _ rfl; (with_reducible repeat first | apply bN | apply bD | apply bA); exact BK175.out) hg (Kd.R_away HO_9.out (fun _ hk => hk))); have n3_ := aM (hb); have n4_ := aM (ho); clear HO_6; clear HO_7; clear BK175; clear HB; clear HO_9; have HO_6 := n0_; have HO_7 := n1_; have BK175 := n2_; have HB := n3_; have HO187 := n4_; clear n0_ n1_ n2_ n3_ n4_; clear ho hb hg hat))
           go_roundg k1
           case measure => have := HK1.out; omega
           case rel => exact ⟨(true), (y185), (wrap64 (x24_1 + 1)), (by first | rfl | (simp; done) | (simp [*]; done)), (by first | rfl | (simp; done) | (simp [*]; done)), H', ⟨by have := HK1.out; omega⟩, ⟨by (with_reducible repeat (first | apply Kd.R_alloc | apply Kd.R_drewN | apply Kd.R_drew)); exact HO_6.out⟩, ⟨by (with_reducible repeat (first | apply Kd.R_alloc | apply Kd.R_drewN | apply Kd.R_drew)); exact HO_7.out⟩, ⟨by (with_reducible repeat (first | apply Kd.R_alloc | apply Kd.R_drewN | apply Kd.R_drew)); exact Kd.R_mono HO187.out (fun _ hk => trivial)⟩, ⟨by repeat (first | (with_reducible first | exact HB.out | apply lA | apply lN | apply lD | refine lS ?_ GE175.out) | exact HB.out)⟩⟩
          ·rw [if_neg c26] at H
           exact absurd H (by simp)
         ·replace c25 := Bool.eq_false_iff.mpr c25
          subst c25
          rw [if_neg (show ¬ (false = true) by decide)] at H
          by_cases c38 : x9_1.length < 3518437208883
          ·rw [if_pos c38] at H
           have LMc38 := aM c38
           clear c38
           obtain ⟨y188, hy188⟩ : ∃ y_ : List (S44), y_ = (x9_1 ++ [(⟨(rd_T44 l0 x24_1).f0, (rd_T44 l0 x24_1).f1, (⟨(rd_T44 l0 x24_1).f2.f0, (rd_T44 l0 x24_1).f2.f1⟩ : S39), (rd_T44 l0 x24_1).f3, (rd_T44 l0 x24_1).f4, (⟨(rd_T44 l0 x24_1).f5.f0, (rd_T44 l0 x24_1).f5.f1⟩ : S39), (⟨wrap32 (t177), wrap32 (t180)⟩ : S39)⟩ : S44)]) := ⟨_, rfl⟩
           replace H : (jacobi_Round.l0 k1 t168 t169 t181 y188 l0 (l0.length : Int) (wrap64 (x24_1 + 1))) = some (r1, r2) := by first | (rw [hy188]; with_reducible exact H) | (have H2_ := (Option.bind_some _ _).symm.trans H; rw [hy188]; with_reducible exact H2_) | (have H2_ := (Option.bind_some _ _).symm.trans H; with_reducible exact H2_) | with_reducible exact H | (rw [hy188]; exact H) | exact H
           have Ny188 := aM hy188
           clear hy188
           have H' := aM H
           clear H
           have p174 : 0 ≤ (x24_1 : Int) := of_decide_eq_true (by first | (with_reducible assumption) | assumption)
           have q174 : x24_1 < (l0.length : Int) := of_decide_eq_true (by first | (with_reducible assumption) | assumption)
           obtain ⟨ad174, e174, hx174_0, hx174_1, hx174_2, hx174_3, hx174_4, hx174_5, hx174_6, hx174_7, hx174_8, hx174_9⟩ := at_T44 HR0.out x24_1 p174 q174
           cases e174
           replace hx174_0 := (HB.out.cell (World.block_lt_of_cell? w _ hx174_0)).trans hx174_0
           replace hx174_1 := (HB.out.cell (World.block_lt_of_cell? w _ hx174_1)).trans hx174_1
           replace hx174_2 := (HB.out.cell (World.block_lt_of_cell? w _ hx174_2)).trans hx174_2
           replace hx174_3 := (HB.out.cell (World.block_lt_of_cell? w _ hx174_3)).trans hx174_3
           replace hx174_4 := (HB.out.cell (World.block_lt_of_cell? w _ hx174_4)).trans hx174_4
           replace hx174_5 := (HB.out.cell (World.block_lt_of_cell? w _ hx174_5)).trans hx174_5
           replace hx174_6 := (HB.out.cell (World.block_lt_of_cell? w _ hx174_6)).trans hx174_6
           replace hx174_7 := (HB.out.cell (World.block_lt_of_cell? w _ hx174_7)).trans hx174_7
           replace hx174_8 := (HB.out.cell (World.block_lt_of_cell? w _ hx174_8)).trans hx174_8
           replace hx174_9 := (HB.out.cell (World.block_lt_of_cell? w _ hx174_9)).trans hx174_9
           replace p174 := eq_true p174
           replace q174 := eq_true q174
           try go_wp2_with (first | ((with_reducible refine gate_dst (N := 11) rfl ?_); refine box_event ?hg (N := 11) ?hd (cs := #[.int .u32 0, .int .i32 0, .int .i32 0, .int .i32 0, .int .i32 0, .int .i32 0, .int .i32 0, .int .i32 0, .int .i32 0, .int .i32 0]) (t := 44) ?hr ?_; (case hd => rfl); (case hg => rfl); (case hr => first | (go_simp; done) | (go_simp; rfl)); intro b175 hg w39 hbox hb; have n0_ := aM (Kd.R_below (by (with_reducible repeat (first | apply Kd.R_alloc | apply Kd.R_drewN | apply Kd.R_drew)); exact HO_6.out) hb); have n1_ := aM (Kd.R_below (by (with_reducible repeat (first | apply Kd.R_alloc | apply Kd.R_drewN | apply Kd.R_drew)); exact HO_7.out) hb); have n2_ := aM (Kd.R_below (Kd.R_elderB (by (with_reducible repeat (first | apply Kd.R_alloc | apply Kd.R_drewN | apply Kd.R_drew)); exact HO_9.out) b175 (Nat.le_of_eq hg.symm)) hb); have n3_ := aM (lT (by repeat (first | (with_reducible first | exact HB.out | apply lA | apply lN | apply lD) | exact HB.out)) hb); have n4_ := aM (hbox); have n5_ := aM ((by rw [hg]; exact (lZ (by repeat (first | (with_reducible first | exact HB.out | apply lA | apply lN | apply lD) | exact HB.out))) : w.heap.size ≤ b175)); have n6_ := aM ((by rw [hg]; exact (lZ (by repeat (first | (with_reducible first | exact HB.out | apply lA | apply lN | apply lD) | exact HB.out))) : w.heap.size ≤ b175)); clear HO_6; clear HO_7; clear HO_9; clear HB; have HO_6 := n0_; have HO_7 := n1_; have HO_9 := n2_; have HB := n3_; have BK175 := n4_; have GW175 := n5_; have GE175 := n6_; clear n0_ n1_ n2_ n3_ n4_ n5_ n6_; clear hb hbox hg; have hcz40_0 : w39.cell? ⟨b175, 0, none⟩ = some (.int .u32 0) := (bC BK175.out 0).trans rfl; have hcz40_1 : w39.cell? ⟨b175, 1, none⟩ = some (.int .i32 0) := (bC BK175.out 1).trans rfl; have hcz40_2 : w39.cell? ⟨b175, 2, none⟩ = some (.int .i32 0) := (bC BK175.out 2).trans rfl; have hcz40_3 : w39.cell? ⟨b175, 3, none⟩ = some (.int .i32 0) := (bC BK175.out 3).trans rfl; have hcz40_4 : w39.cell? ⟨b175, 4, none⟩ = some (.int .i32 0) := (bC BK175.out 4).trans rfl; have hcz40_5 : w39.cell? ⟨b175, 5, none⟩ = some (.int .i32 0) := (bC BK175.out 5).trans rfl; have hcz40_6 : w39.cell? ⟨b175, 6, none⟩ = some (.int .i32 0) := (bC BK175.out 6).trans rfl; have hcz40_7 : w39.cell? ⟨b175, 7, none⟩ = some (.int .i32 0) := (bC BK175.out 7).trans rfl; have hcz40_8 : w39.cell? ⟨b175, 8, none⟩ = some (.int .i32 0) := (bC BK175.out 8).trans rfl; have hcz40_9 : w39.cell? ⟨b175, 9, none⟩ = some (.int .i32 0) := (bC BK175.out 9).trans rfl; have hfz40_0 := bF BK175.out 0; have hfz40_1 := bF BK175.out 1; have hfz40_2 := bF BK175.out 2; have hfz40_3 := bF BK175.out 3; have hfz40_4 := bF BK175.out 4; have hfz40_5 := bF BK175.out 5; have hfz40_6 := bF BK175.out 6; have hfz40_7 := bF BK175.out 7; have hfz40_8 := bF BK175.out 8; have hfz40_9 := bF BK175.out 9))
           have n0_ : Aside0 (Kd.R (Kd.int .i64) 2 ((((((((((w39.setCell ⟨b175, 0, none⟩ (.int .u32 ((rd_T44 l0 x24_1).f0))).setCell ⟨b175, 1, none⟩ (.int .i32 ((rd_T44 l0 x24_1).f1))).setCell ⟨b175, 2, none⟩ (.int .i32 ((rd_T44 l0 x24_1).f2.f0))).setCell ⟨b175, 3, none⟩ (.int .i32 ((rd_T44 l0 x24_1).f2.f1))).setCell ⟨b175, 4, none⟩ (.int .i32 ((rd_T44 l0 x24_1).f3))).setCell ⟨b175, 5, none⟩ (.int .i32 ((rd_T44 l0 x24_1).f4))).setCell ⟨b175, 6, none⟩ (.int .i32 ((rd_T44 l0 x24_1).f5.f0))).setCell ⟨b175, 7, none⟩ (.int .i32 ((rd_T44 l0 x24_1).f5.f1))).setCell ⟨b175, 8, none⟩ (.int .i32 ((rd_T44 l0 x24_1).f6.f0))).setCell ⟨b175, 9, none⟩ (.int .i32 ((rd_T44 l0 x24_1).f6.f1))) w.heap.size (fun k_ => some k_ ≠ (v172 : Value).ownBlock) v170 t168) := ⟨by (with_reducible repeat (first | apply Kd.R_alloc | apply Kd.R_drewN | apply Kd.R_drew)); exact Kd.R_mono (Kd.R_far (p := ⟨b175, 9, none⟩) (Kd.R_far (p := ⟨b175, 8, none⟩) (Kd.R_far (p := ⟨b175, 7, none⟩) (Kd.R_far (p := ⟨b175, 6, none⟩) (Kd.R_far (p := ⟨b175, 5, none⟩) (Kd.R_far (p := ⟨b175, 4, none⟩) (Kd.R_far (p := ⟨b175, 3, none⟩) (Kd.R_far (p := ⟨b175, 2, none⟩) (Kd.R_far (p := ⟨b175, 1, none⟩) (Kd.R_far (p := ⟨b175, 0, none⟩) (Kd.R_types HO_6.out BK175.out (by decide)) (fun _ hk => hk.2) (.int .u32 ((rd_T44 l0 x24_1).f0))) (fun _ hk => hk.2) (.int .i32 ((rd_T44 l0 x24_1).f1))) (fun _ hk => hk.2) (.int .i32 ((rd_T44 l0 x24_1).f2.f0))) (fun _ hk => hk.2) (.int .i32 ((rd_T44 l0 x24_1).f2.f1))) (fun _ hk => hk.2) (.int .i32 ((rd_T44 l0 x24_1).f3))) (fun _ hk => hk.2) (.int .i32 ((rd_T44 l0 x24_1).f4))) (fun _ hk => hk.2) (.int .i32 ((rd_T44 l0 x24_1).f5.f0))) (fun _ hk => hk.2) (.int .i32 ((rd_T44 l0 x24_1).f5.f1))) (fun _ hk => hk.2) (.int .i32 ((rd_T44 l0 x24_1).f6.f0))) (fun _ hk => hk.2) (.int .i32 ((rd_T44 l0 x24_1).f6.f1))) (fun _ hk => hk.1)⟩
           have n1_ : Aside0 (Kd.R (Kd.int .i64) 2 ((((((((((w39.setCell ⟨b175, 0, none⟩ (.int .u32 ((rd_T44 l0 x24_1).f0))).setCell ⟨b175, 1, none⟩ (.int .i32 ((rd_T44 l0 x24_1).f1))).setCell ⟨b175, 2, none⟩ (.int .i32 ((rd_T44 l0 x24_1).f2.f0))).setCell ⟨b175, 3, none⟩ (.int .i32 ((rd_T44 l0 x24_1).f2.f1))).setCell ⟨b175, 4, none⟩ (.int .i32 ((rd_T44 l0 x24_1).f3))).setCell ⟨b175, 5, none⟩ (.int .i32 ((rd_T44 l0 x24_1).f4))).setCell ⟨b175, 6, none⟩ (.int .i32 ((rd_T44 l0 x24_1).f5.f0))).setCell ⟨b175, 7, none⟩ (.int .i32 ((rd_T44 l0 x24_1).f5.f1))).setCell ⟨b175, 8, none⟩ (.int .i32 ((rd_T44 l0 x24_1).f6.f0))).setCell ⟨b175, 9, none⟩ (.int .i32 ((rd_T44 l0 x24_1).f6.f1))) w.heap.size (fun k_ => some k_ ≠ (v170 : Value).ownBlock) v172 t169) := ⟨by (with_reducible repeat (first | apply Kd.R_alloc | apply Kd.R_drewN | apply Kd.R_drew)); exact Kd.R_mono (Kd.R_far (p := ⟨b175, 9, none⟩) (Kd.R_far (p := ⟨b175, 8, none⟩) (Kd.R_far (p := ⟨b175, 7, none⟩) (Kd.R_far (p := ⟨b175, 6, none⟩) (Kd.R_far (p := ⟨b175, 5, none⟩) (Kd.R_far (p := ⟨b175, 4, none⟩) (Kd.R_far (p := ⟨b175, 3, none⟩) (Kd.R_far (p := ⟨b175, 2, none⟩) (Kd.R_far (p := ⟨b175, 1, none⟩) (Kd.R_far (p := ⟨b175, 0, none⟩) (Kd.R_types HO_7.out BK175.out (by decide)) (fun _ hk => hk.2) (.int .u32 ((rd_T44 l0 x24_1).f0))) (fun _ hk => hk.2) (.int .i32 ((rd_T44 l0 x24_1).f1))) (fun _ hk => hk.2) (.int .i32 ((rd_T44 l0 x24_1).f2.f0))) (fun _ hk => hk.2) (.int .i32 ((rd_T44 l0 x24_1).f2.f1))) (fun _ hk => hk.2) (.int .i32 ((rd_T44 l0 x24_1).f3))) (fun _ hk => hk.2) (.int .i32 ((rd_T44 l0 x24_1).f4))) (fun _ hk => hk.2) (.int .i32 ((rd_T44 l0 x24_1).f5.f0))) (fun _ hk => hk.2) (.int .i32 ((rd_T44 l0 x24_1).f5.f1))) (fun _ hk => hk.2) (.int .i32 ((rd_T44 l0 x24_1).f6.f0))) (fun _ hk => hk.2) (.int .i32 ((rd_T44 l0 x24_1).f6.f1))) (fun _ hk => hk.1)⟩
           have n2_ : Aside0 (Kd.R k44 44 ((((((((((w39.setCell ⟨b175, 0, none⟩ (.int .u32 ((rd_T44 l0 x24_1).f0))).setCell ⟨b175, 1, none⟩ (.int .i32 ((rd_T44 l0 x24_1).f1))).setCell ⟨b175, 2, none⟩ (.int .i32 ((rd_T44 l0 x24_1).f2.f0))).setCell ⟨b175, 3, none⟩ (.int .i32 ((rd_T44 l0 x24_1).f2.f1))).setCell ⟨b175, 4, none⟩ (.int .i32 ((rd_T44 l0 x24_1).f3))).setCell ⟨b175, 5, none⟩ (.int .i32 ((rd_T44 l0 x24_1).f4))).setCell ⟨b175, 6, none⟩ (.int .i32 ((rd_T44 l0 x24_1).f5.f0))).setCell ⟨b175, 7, none⟩ (.int .i32 ((rd_T44 l0 x24_1).f5.f1))).setCell ⟨b175, 8, none⟩ (.int .i32 ((rd_T44 l0 x24_1).f6.f0))).setCell ⟨b175, 9, none⟩ (.int .i32 ((rd_T44 l0 x24_1).f6.f1))) w.heap.size (fun k_ => k_ ≠ b175) u9 x9_1) := ⟨by (with_reducible repeat (first | apply Kd.R_alloc | apply Kd.R_drewN | apply Kd.R_drew)); exact Kd.R_mono (Kd.R_far (p := ⟨b175, 9, none⟩) (Kd.R_far (p := ⟨b175, 8, none⟩) (Kd.R_far (p := ⟨b175, 7, none⟩) (Kd.R_far (p := ⟨b175, 6, none⟩) (Kd.R_far (p := ⟨b175, 5, none⟩) (Kd.R_far (p := ⟨b175, 4, none⟩) (Kd.R_far (p := ⟨b175, 3, none⟩) (Kd.R_far (p := ⟨b175, 2, none⟩) (Kd.R_far (p := ⟨b175, 1, none⟩) (Kd.R_far (p := ⟨b175, 0, none⟩) (Kd.R_mono HO_9.out (fun k_ hk => (⟨hk, hk.2⟩ : _ ∧ k_ ≠ b175))) (fun _ hk => hk.2) (.int .u32 ((rd_T44 l0 x24_1).f0))) (fun _ hk => hk.2) (.int .i32 ((rd_T44 l0 x24_1).f1))) (fun _ hk => hk.2) (.int .i32 ((rd_T44 l0 x24_1).f2.f0))) (fun _ hk => hk.2) (.int .i32 ((rd_T44 l0 x24_1).f2.f1))) (fun _ hk => hk.2) (.int .i32 ((rd_T44 l0 x24_1).f3))) (fun _ hk => hk.2) (.int .i32 ((rd_T44 l0 x24_1).f4))) (fun _ hk => hk.2) (.int .i32 ((rd_T44 l0 x24_1).f5.f0))) (fun _ hk => hk.2) (.int .i32 ((rd_T44 l0 x24_1).f5.f1))) (fun _ hk => hk.2) (.int .i32 ((rd_T44 l0 x24_1).f6.f0))) (fun _ hk => hk.2) (.int .i32 ((rd_T44 l0 x24_1).f6.f1))) (fun _ hk => hk.1.2)⟩
           have n3_ : Aside0 (((((((((((w39.setCell ⟨b175, 0, none⟩ (.int .u32 ((rd_T44 l0 x24_1).f0))).setCell ⟨b175, 1, none⟩ (.int .i32 ((rd_T44 l0 x24_1).f1))).setCell ⟨b175, 2, none⟩ (.int .i32 ((rd_T44 l0 x24_1).f2.f0))).setCell ⟨b175, 3, none⟩ (.int .i32 ((rd_T44 l0 x24_1).f2.f1))).setCell ⟨b175, 4, none⟩ (.int .i32 ((rd_T44 l0 x24_1).f3))).setCell ⟨b175, 5, none⟩ (.int .i32 ((rd_T44 l0 x24_1).f4))).setCell ⟨b175, 6, none⟩ (.int .i32 ((rd_T44 l0 x24_1).f5.f0))).setCell ⟨b175, 7, none⟩ (.int .i32 ((rd_T44 l0 x24_1).f5.f1))).setCell ⟨b175, 8, none⟩ (.int .i32 ((rd_T44 l0 x24_1).f6.f0))).setCell ⟨b175, 9, none⟩ (.int .i32 ((rd_T44 l0 x24_1).f6.f1))).heap[b175]? = some (.cells #[.int .u32 ((rd_T44 l0 x24_1).f0), .int .i32 ((rd_T44 l0 x24_1).f1), .int .i32 ((rd_T44 l0 x24_1).f2.f0), .int .i32 ((rd_T44 l0 x24_1).f2.f1), .int .i32 ((rd_T44 l0 x24_1).f3), .int .i32 ((rd_T44 l0 x24_1).f4), .int .i32 ((rd_T44 l0 x24_1).f5.f0), .int .i32 ((rd_T44 l0 x24_1).f5.f1), .int .i32 ((rd_T44 l0 x24_1).f6.f0), .int .i32 ((rd_T44 l0 x24_1).f6.f1)] 44 (0, 0))) := ⟨by (with_reducible repeat first | apply bN | apply bD | apply bA); refine bP (cs := #[.int .u32 ((rd_T44 l0 x24_1).f0), .int .i32 ((rd_T44 l0 x24_1).f1), .int .i32 ((rd_T44 l0 x24_1).f2.f0), .int .i32 ((rd_T44 l0 x24_1).f2.f1), .int .i32 ((rd_T44 l0 x24_1).f3), .int .i32 ((rd_T44 l0 x24_1).f4), .int .i32 ((rd_T44 l0 x24_1).f5.f0), .int .i32 ((rd_T44 l0 x24_1).f5.f1), .int .i32 ((rd_T44 l0 x24_1).f6.f0), .int .i32 0]) ?_ 9 _ rfl; (with_reducible repeat first | apply bN | apply bD | apply bA); refine bP (cs := #[.int .u32 ((rd_T44 l0 x24_1).f0), .int .i32 ((rd_T44 l0 x24_1).f1), .int .i32 ((rd_T44 l0 x24_1).f2.f0), .int .i32 ((rd_T44 l0 x24_1).f2.f1), .int .i32 ((rd_T44 l0 x24_1).f3), .int .i32 ((rd_T44 l0 x24_1).f4), .int .i32 ((rd_T44 l0 x24_1).f5.f0), .int .i32 ((rd_T44 l0 x24_1).f5.f1), .int .i32 0, .int .i32 0]) ?_ 8 _ rfl; (with_reducible repeat first | apply bN | apply bD | apply bA); refine bP (cs := #[.int .u32 ((rd_T44 l0 x24_1).f0), .int .i32 ((rd_T44 l0 x24_1).f1), .int .i32 ((rd_T44 l0 x24_1).f2.f0), .int .i32 ((rd_T44 l0 x24_1).f2.f1), .int .i32 ((rd_T44 l0 x24_1).f3), .int .i32 ((rd_T44 l0 x24_1).f4), .int .i32 ((rd_T44 l0 x24_1).f5.f0), .int .i32 0, .int .i32 0, .int .i32 0]) ?_ 7 _ rfl; (with_reducible repeat first | apply bN | apply bD | apply bA); refine bP (cs := #[.int .u32 ((rd_T44 l0 x24_1).f0), .int .i32 ((rd_T44 l0 x24_1).f1), .int .i32 ((rd_T44 l0 x24_1).f2.f0), .int .i32 ((rd_T44 l0 x24_1).f2.f1), .int .i32 ((rd_T44 l0 x24_1).f3), .int .i32 ((rd_T44 l0 x24_1).f4), .int .i32 0, .int .i32 0, .int .i32 0, .int .i32 0]) ?_ 6 _ rfl; (with_reducible repeat first | apply bN | apply bD | apply bA); refine bP (cs := #[.int .u32 ((rd_T44 l0 x24_1).f0), .int .i32 ((rd_T44 l0 x24_1).f1), .int .i32 ((rd_T44 l0 x24_1).f2.f0), .int .i32 ((rd_T44 l0 x24_1).f2.f1), .int .i32 ((rd_T44 l0 x24_1).f3), .int .i32 0, .int .i32 0, .int .i32 0, .int .i32 0, .int .i32 0]) ?_ 5 _ rfl; (with_reducible repeat first | apply bN | apply bD | apply bA); refine bP (cs := #[.int .u32 ((rd_T44 l0 x24_1).f0), .int .i32 ((rd_T44 l0 x24_1).f1), .int .i32 ((rd_T44 l0 x24_1).f2.f0), .int .i32 ((rd_T44 l0 x24_1).f2.f1), .int .i32 0, .int .i32 0, .int .i32 0, .int .i32 0, .int .i32 0, .int .i32 0]) ?_ 4 _ rfl; (with_reducible repeat first | apply bN | apply bD | apply bA); refine bP (cs := #[.int .u32 ((rd_T44 l0 x24_1).f0), .int .i32 ((rd_T44 l0 x24_1).f1), .int .i32 ((rd_T44 l0 x24_1).f2.f0), .int .i32 0, .int .i32 0, .int .i32 0, .int .i32 0, .int .i32 0, .int .i32 0, .int .i32 0]) ?_ 3 _ rfl; (with_reducible repeat first | apply bN | apply bD | apply bA); refine bP (cs := #[.int .u32 ((rd_T44 l0 x24_1).f0), .int .i32 ((rd_T44 l0 x24_1).f1), .int .i32 0, .int .i32 0, .int .i32 0, .int .i32 0, .int .i32 0, .int .i32 0, .int .i32 0, .int .i32 0]) ?_ 2 _ rfl; (with_reducible repeat first | apply bN | apply bD | apply bA); refine bP (cs := #[.int .u32 ((rd_T44 l0 x24_1).f0), .int .i32 0, .int .i32 0, .int .i32 0, .int .i32 0, .int .i32 0, .int .i32 0, .int .i32 0, .int .i32 0, .int .i32 0]) ?_ 1 _ rfl; (with_reducible repeat first | apply bN | apply bD | apply bA); refine bP (cs := #[.int .u32 0, .int .i32 0, .int .i32 0, .int .i32 0, .int .i32 0, .int .i32 0, .int .i32 0, .int .i32 0, .int .i32 0, .int .i32 0]) ?_ 0 _ rfl; (with_reducible repeat first | apply bN | apply bD | apply bA); exact BK175.out⟩
           have n4_ : Aside0 (Below w.heap.size w ((((((((((w39.setCell ⟨b175, 0, none⟩ (.int .u32 ((rd_T44 l0 x24_1).f0))).setCell ⟨b175, 1, none⟩ (.int .i32 ((rd_T44 l0 x24_1).f1))).setCell ⟨b175, 2, none⟩ (.int .i32 ((rd_T44 l0 x24_1).f2.f0))).setCell ⟨b175, 3, none⟩ (.int .i32 ((rd_T44 l0 x24_1).f2.f1))).setCell ⟨b175, 4, none⟩ (.int .i32 ((rd_T44 l0 x24_1).f3))).setCell ⟨b175, 5, none⟩ (.int .i32 ((rd_T44 l0 x24_1).f4))).setCell ⟨b175, 6, none⟩ (.int .i32 ((rd_T44 l0 x24_1).f5.f0))).setCell ⟨b175, 7, none⟩ (.int .i32 ((rd_T44 l0 x24_1).f5.f1))).setCell ⟨b175, 8, none⟩ (.int .i32 ((rd_T44 l0 x24_1).f6.f0))).setCell ⟨b175, 9, none⟩ (.int .i32 ((rd_T44 l0 x24_1).f6.f1)))) := ⟨by repeat (first | (with_reducible first | exact HB.out | apply lA | apply lN | apply lD | refine lS ?_ GE175.out) | exact HB.out)⟩
           (try clear HO_6)
           (try clear HO_7)
           (try clear HO_9)
           (try clear BK175)
           (try clear HB)
           generalize ((((((((((w39.setCell ⟨b175, 0, none⟩ (.int .u32 ((rd_T44 l0 x24_1).f0))).setCell ⟨b175, 1, none⟩ (.int .i32 ((rd_T44 l0 x24_1).f1))).setCell ⟨b175, 2, none⟩ (.int .i32 ((rd_T44 l0 x24_1).f2.f0))).setCell ⟨b175, 3, none⟩ (.int .i32 ((rd_T44 l0 x24_1).f2.f1))).setCell ⟨b175, 4, none⟩ (.int .i32 ((rd_T44 l0 x24_1).f3))).setCell ⟨b175, 5, none⟩ (.int .i32 ((rd_T44 l0 x24_1).f4))).setCell ⟨b175, 6, none⟩ (.int .i32 ((rd_T44 l0 x24_1).f5.f0))).setCell ⟨b175, 7, none⟩ (.int .i32 ((rd_T44 l0 x24_1).f5.f1))).setCell ⟨b175, 8, none⟩ (.int .i32 ((rd_T44 l0 x24_1).f6.f0))).setCell ⟨b175, 9, none⟩ (.int .i32 ((rd_T44 l0 x24_1).f6.f1))) = w41 at n0_ n1_ n2_ n3_ n4_ ⊢
           have HO_6 := n0_
           have HO_7 := n1_
           have HO_9 := n2_
           have BK175 := n3_
           have HB := n4_
           clear n0_ n1_ n2_ n3_ n4_
           have n0_ := aM (Kd.R_drew HO_6.out)
           have n1_ := aM (Kd.R_drew HO_7.out)
           have n2_ := aM (Kd.R_drew HO_9.out)
           have n3_ := aM (bD BK175.out)
           have n4_ := aM (lD HB.out)
           clear HO_6
           clear HO_7
           clear HO_9
           clear BK175
           clear HB
           have HO_6 := n0_
           have HO_7 := n1_
           have HO_9 := n2_
           have BK175 := n3_
           have HB := n4_
           clear n0_ n1_ n2_ n3_ n4_
           obtain ⟨Ao43, co43, eo43⟩ := Kd.R_slice HO_6.out
           (first | subst eo43 | (injection eo43 with f1_ f2_ f3_; have f4_ := f1_.symm; have f5_ := f3_.symm; clear f1_ f2_ f3_; subst f4_; subst f5_))
           have p176 : 0 ≤ (x24_1 : Int) := of_decide_eq_true (by first | (with_reducible assumption) | assumption)
           have q176 : x24_1 < (t168.length : Int) := of_decide_eq_true (by first | (with_reducible assumption) | assumption)
           obtain ⟨ad176, e176, hx176_0⟩ := Kd.at_int (Kd.R_reads' HO_6.out).2.2 x24_1 p176 q176
           cases e176
           replace p176 := eq_true p176
           replace q176 := eq_true q176
           refine start_ (n := 15) (S := fun w' => w'.cell? ⟨b175, 0, none⟩ = some (.int .u32 ((rd_T44 l0 x24_1).f0)) ∧ w'.cell? ⟨b175, 1, none⟩ = some (.int .i32 ((rd_T44 l0 x24_1).f1)) ∧ w'.cell? ⟨b175, 2, none⟩ = some (.int .i32 ((rd_T44 l0 x24_1).f2.f0)) ∧ w'.cell? ⟨b175, 3, none⟩ = some (.int .i32 ((rd_T44 l0 x24_1).f2.f1)) ∧ w'.cell? ⟨b175, 4, none⟩ = some (.int .i32 ((rd_T44 l0 x24_1).f3)) ∧ w'.cell? ⟨b175, 5, none⟩ = some (.int .i32 ((rd_T44 l0 x24_1).f4)) ∧ w'.cell? ⟨b175, 6, none⟩ = some (.int .i32 ((rd_T44 l0 x24_1).f5.f0)) ∧ w'.cell? ⟨b175, 7, none⟩ = some (.int .i32 ((rd_T44 l0 x24_1).f5.f1)) ∧ w'.cell? ⟨b175, 8, none⟩ = some (.int .i32 ((rd_T44 l0 x24_1).f6.f0)) ∧ w'.cell? ⟨b175, 9, none⟩ = some (.int .i32 ((rd_T44 l0 x24_1).f6.f1)) ∧ w'.cell? (ad176.add (x24_1).toNat) = some (.int .i64 (rd t168 x24_1))) (ds := []) #[F,F,F,F,F,F,F,F,F,F,F,F,F,F,F] (by kernel_rfl) rfl rfl ⟨(bC BK175.out 0).trans rfl, (bC BK175.out 1).trans rfl, (bC BK175.out 2).trans rfl, (bC BK175.out 3).trans rfl, (bC BK175.out 4).trans rfl, (bC BK175.out 5).trans rfl, (bC BK175.out 6).trans rfl, (bC BK175.out 7).trans rfl, (bC BK175.out 8).trans rfl, (bC BK175.out 9).trans rfl, hx176_0⟩ (fun hHeld => ?_); refine with_tabW jacobi_Round.tab7 jacobi_Round.bits7 (fun HT_ HW_ => ?_)
           generalize w41.drew = w42 at HO_6 HO_7 HO_9 BK175 HB hx176_0 hHeld ⊢
           refine pure_ (i := 0) (N := some 30) (v := ?_) (a' := ?_) #[T,F,F,F,F,F,F,F,F,F,F,F,F,F,F] rfl rfl (any_of HT_.out (by kernel_rfl)) (fun _ _ _ h => h) (Or.inl ⟨by rfl, ?_⟩) ?_ ?_
           rotate_left
           ·intro w'
            go_simp
            with_reducible rfl
           rotate_left
           ·simp only [Act.put, sA, sB, sC, i64_w, i32_w]
            rfl
           refine pure_ (i := 1) (N := some 31) (v := ?_) (a' := ?_) #[T,T,F,F,F,F,F,F,F,F,F,F,F,F,F] rfl rfl (any_of HT_.out (by kernel_rfl)) (fun _ _ _ h => h) (Or.inl ⟨by rfl, ?_⟩) ?_ ?_
           rotate_left
           ·intro w'
            go_simp
            with_reducible rfl
           rotate_left
           ·simp only [Act.put, sA, sB, sC, i64_w, i32_w]
            rfl
           refine pure_ (i := 4) (N := some 34) (v := ?_) (a' := ?_) #[T,T,F,F,T,F,F,F,F,F,F,F,F,F,F] rfl rfl (any_of HT_.out (by kernel_rfl)) (fun _ _ _ h => h) (Or.inl ⟨by rfl, ?_⟩) ?_ ?_
           rotate_left
           ·intro w'
            go_simp
            with_reducible rfl
           rotate_left
           ·simp only [Act.put, sA, sB, sC, i64_w, i32_w]
            rfl
           refine pure_ (i := 5) (N := some 35) (v := ?_) (a' := ?_) #[T,T,F,F,T,T,F,F,F,F,F,F,F,F,F] rfl rfl (any_of HT_.out (by kernel_rfl)) (fun _ _ _ h => h) (Or.inl ⟨by rfl, ?_⟩) ?_ ?_
           rotate_left
           ·intro w'
            go_simp
            with_reducible rfl
           rotate_left
           ·simp only [Act.put, sA, sB, sC, i64_w, i32_w]
            rfl
           refine pure_ (i := 6) (N := some 36) (v := ?_) (a' := ?_) #[T,T,F,F,T,T,T,F,F,F,F,F,F,F,F] rfl rfl (any_of HT_.out (by kernel_rfl)) (fun _ _ _ h => h) (Or.inl ⟨by rfl, ?_⟩) ?_ ?_
           rotate_left
           ·intro w'
            go_simp
            with_reducible rfl
           rotate_left
           ·simp only [Act.put, sA, sB, sC, i64_w, i32_w]
            rfl
           refine take_ (i := 2) (N := some 32) (v := ?_) (a' := ?_) #[T,T,T,F,T,T,T,F,F,F,F,F,F,F,F] rfl rfl (take_ofW HT_.out HW_.out (by kernel_rfl)) (fun _ _ _ h => h) (Or.inl ⟨by rfl, ?_⟩) hHeld ?_ ?_
           rotate_left
           ·rintro w' ⟨s0, s1, s2, s3, s4, s5, s6, s7, s8, s9, s10⟩
            go_simp
            with_reducible rfl
           rotate_left
           ·simp only [Act.put, sA, sB, sC, i64_w, i32_w]
            rfl
           refine pure_ (i := 3) (N := some 33) (v := ?_) (a' := ?_) #[T,T,T,T,T,T,T,F,F,F,F,F,F,F,F] rfl rfl (any_of HT_.out (by kernel_rfl)) (fun _ _ _ h => h) (Or.inl ⟨by rfl, ?_⟩) ?_ ?_
           rotate_left
           ·intro w'
            go_simp
            with_reducible rfl
           rotate_left
           ·simp only [Act.put, sA, sB, sC, i64_w, i32_w]
            rfl
           refine take_ (i := 7) (N := some 37) (v := ?_) (a' := ?_) #[T,T,T,T,T,T,T,T,F,F,F,F,F,F,F] rfl rfl (take_ofW HT_.out HW_.out (by kernel_rfl)) (fun _ _ _ h => h) (Or.inl ⟨by rfl, ?_⟩) hHeld ?_ ?_
           rotate_left
           ·rintro w' ⟨s0, s1, s2, s3, s4, s5, s6, s7, s8, s9, s10⟩
            go_simp
            with_reducible rfl
           rotate_left
           ·simp only [Act.put, sA, sB, sC, i64_w, i32_w]
            rfl
           refine pure_ (i := 8) (N := some 38) (v := ?_) (a' := ?_) #[T,T,T,T,T,T,T,T,T,F,F,F,F,F,F] rfl rfl (any_of HT_.out (by kernel_rfl)) (fun _ _ _ h => h) (Or.inl ⟨by rfl, ?_⟩) ?_ ?_
           rotate_left
           ·intro w'
            go_simp
            with_reducible rfl
           rotate_left
           ·simp only [Act.put, sA, sB, sC, i64_w, i32_w]
            rfl
           refine one_ (i := 9) (N := some 39) #[T,T,T,T,T,T,T,T,T,T,F,F,F,F,F] rfl rfl (one_of HT_.out (by kernel_rfl)) (by decide) (fun K hK => ?_)
           refine goes_ Try.func23 (by kernel_rfl) rfl #[.int .i64 (wrap64 ((wrap64 ((rd_T44 l0 x24_1).f6.f0)) + (rd t168 x24_1))), .int .i64 16777216] (by rfl) rfl rfl (by (try simp only [List.map_toArray, List.map_cons, List.map_nil]); first | done | rfl | (simp only [List.length_drop, List.length_take]; rfl)) ?_
           with_reducible refine (fx_Limit.calls (wrap64 ((wrap64 ((rd_T44 l0 x24_1).f6.f0)) + (rd t168 x24_1))) 16777216 t177 false _ A9.out).mono ?_
           rintro e w44 ⟨rfl, hb⟩
           have HS10_ := (hb.cell (World.block_lt_of_cell? _ _ (hHeld.2.2.2.2.2.2.2.2.2.2))).trans (hHeld.2.2.2.2.2.2.2.2.2.2)
           refine ⟨_, rfl, ?_⟩
           have n0_ := aM (Kd.R_below (by (with_reducible repeat (first | apply Kd.R_alloc | apply Kd.R_drewN | apply Kd.R_drew)); exact HO_6.out) hb)
           have n1_ := aM (Kd.R_below (by (with_reducible repeat (first | apply Kd.R_alloc | apply Kd.R_drewN | apply Kd.R_drew)); exact HO_7.out) hb)
           have n2_ := aM (Kd.R_below (by (with_reducible repeat (first | apply Kd.R_alloc | apply Kd.R_drewN | apply Kd.R_drew)); exact HO_9.out) hb)
           have n3_ := aM (bB (by (with_reducible repeat first | apply bN | apply bD | apply bA); exact BK175.out) hb)
           have n4_ := aM (lT (by repeat (first | (with_reducible first | exact HB.out | apply lA | apply lN | apply lD | refine lS ?_ GE175.out) | exact HB.out)) hb)
           clear HO_6
           clear HO_7
           clear HO_9
           clear BK175
           clear HB
           have HO_6 := n0_
           have HO_7 := n1_
           have HO_9 := n2_
           have BK175 := n3_
           have HB := n4_
           clear n0_ n1_ n2_ n3_ n4_
           (try clear hb)
           (try clear hb2)
           (try clear hk)
           (try clear hi)
           refine hK.out _ _ ⟨(bC BK175.out 0).trans rfl, (bC BK175.out 1).trans rfl, (bC BK175.out 2).trans rfl, (bC BK175.out 3).trans rfl, (bC BK175.out 4).trans rfl, (bC BK175.out 5).trans rfl, (bC BK175.out 6).trans rfl, (bC BK175.out 7).trans rfl, (bC BK175.out 8).trans rfl, (bC BK175.out 9).trans rfl, HS10_⟩ (fun hHeld => ?_)
           clear hK K
           refine norm_ (a' := ?_) ?_ ?_
           rotate_left
           ·show Act.put _ (some 39) _ = _
            simp only [Act.put, sA, sB, sC, i64_w, i32_w]
            rfl
           refine pure_ (i := 10) (N := some 29) (v := ?_) (a' := ?_) #[T,T,T,T,T,T,T,T,T,T,T,F,F,F,F] rfl rfl (any_of HT_.out (by kernel_rfl)) (fun _ _ _ h => h) (Or.inl ⟨by rfl, ?_⟩) ?_ ?_
           rotate_left
           ·intro w'
            go_simp
            with_reducible rfl
           rotate_left
           ·simp only [Act.put, sA, sB, sC, i64_w, i32_w]
            rfl
           refine pure_ (i := 11) (N := some 40) (v := ?_) (a' := ?_) #[T,T,T,T,T,T,T,T,T,T,T,T,F,F,F] rfl rfl (any_of HT_.out (by kernel_rfl)) (fun _ _ _ h => h) (Or.inl ⟨by rfl, ?_⟩) ?_ ?_
           rotate_left
           ·intro w'
            go_simp
            with_reducible rfl
           rotate_left
           ·simp only [Act.put, sA, sB, sC, i64_w, i32_w]
            rfl
           refine pure_ (i := 12) (N := some 41) (v := ?_) (a' := ?_) #[T,T,T,T,T,T,T,T,T,T,T,T,T,F,F] rfl rfl (any_of HT_.out (by kernel_rfl)) (fun _ _ _ h => h) (Or.inl ⟨by rfl, ?_⟩) ?_ ?_
           rotate_left
           ·intro w'
            go_simp
            with_reducible rfl
           rotate_left
           ·simp only [Act.put, sA, sB, sC, i64_w, i32_w]
            rfl
           refine pure_ (i := 13) (N := some 12) (v := ?_) (a' := ?_) #[T,T,T,T,T,T,T,T,T,T,T,T,T,T,F] rfl rfl (any_of HT_.out (by kernel_rfl)) (fun _ _ _ h => h) (Or.inl ⟨by rfl, ?_⟩) ?_ ?_
           rotate_left
           ·intro w'
            go_simp
            with_reducible rfl
           rotate_left
           ·simp only [Act.put, sA, sB, sC, i64_w, i32_w]
            rfl
           refine pure_ (i := 14) (N := some 13) (v := ?_) (a' := ?_) #[T,T,T,T,T,T,T,T,T,T,T,T,T,T,T] rfl rfl (any_of HT_.out (by kernel_rfl)) (fun _ _ _ h => h) (Or.inl ⟨by rfl, ?_⟩) ?_ ?_
           rotate_left
           ·intro w'
            go_simp
            with_reducible rfl
           rotate_left
           ·simp only [Act.put, sA, sB, sC, i64_w, i32_w]
            rfl
           refine done_ (done_of HT_.out (by kernel_rfl)) ?_
           try go_wp2
           have n0_ := aM (Kd.R_drew HO_6.out)
           have n1_ := aM (Kd.R_drew HO_7.out)
           have n2_ := aM (Kd.R_drew HO_9.out)
           have n3_ := aM (bD BK175.out)
           have n4_ := aM (lD HB.out)
           clear HO_6
           clear HO_7
           clear HO_9
           clear BK175
           clear HB
           have HO_6 := n0_
           have HO_7 := n1_
           have HO_9 := n2_
           have BK175 := n3_
           have HB := n4_
           clear n0_ n1_ n2_ n3_ n4_
           obtain ⟨Ao46, co46, eo46⟩ := Kd.R_slice HO_7.out
           (first | subst eo46 | (injection eo46 with f1_ f2_ f3_; have f4_ := f1_.symm; have f5_ := f3_.symm; clear f1_ f2_ f3_; subst f4_; subst f5_))
           have p179 : 0 ≤ (x24_1 : Int) := of_decide_eq_true (by first | (with_reducible assumption) | assumption)
           have q179 : x24_1 < (t169.length : Int) := of_decide_eq_true (by first | (with_reducible assumption) | assumption)
           obtain ⟨ad179, e179, hx179_0⟩ := Kd.at_int (Kd.R_reads' HO_7.out).2.2 x24_1 p179 q179
           cases e179
           replace p179 := eq_true p179
           replace q179 := eq_true q179
           refine start_ (n := 15) (S := fun w' => w'.cell? ⟨b175, 0, none⟩ = some (.int .u32 ((rd_T44 l0 x24_1).f0)) ∧ w'.cell? ⟨b175, 1, none⟩ = some (.int .i32 ((rd_T44 l0 x24_1).f1)) ∧ w'.cell? ⟨b175, 2, none⟩ = some (.int .i32 ((rd_T44 l0 x24_1).f2.f0)) ∧ w'.cell? ⟨b175, 3, none⟩ = some (.int .i32 ((rd_T44 l0 x24_1).f2.f1)) ∧ w'.cell? ⟨b175, 4, none⟩ = some (.int .i32 ((rd_T44 l0 x24_1).f3)) ∧ w'.cell? ⟨b175, 5, none⟩ = some (.int .i32 ((rd_T44 l0 x24_1).f4)) ∧ w'.cell? ⟨b175, 6, none⟩ = some (.int .i32 ((rd_T44 l0 x24_1).f5.f0)) ∧ w'.cell? ⟨b175, 7, none⟩ = some (.int .i32 ((rd_T44 l0 x24_1).f5.f1)) ∧ w'.cell? ⟨b175, 8, none⟩ = some (.int .i32 ((rd_T44 l0 x24_1).f6.f0)) ∧ w'.cell? ⟨b175, 9, none⟩ = some (.int .i32 ((rd_T44 l0 x24_1).f6.f1)) ∧ w'.cell? (ad179.add (x24_1).toNat) = some (.int .i64 (rd t169 x24_1))) (ds := []) #[F,F,F,F,F,F,F,F,F,F,F,F,F,F,F] (by kernel_rfl) rfl rfl ⟨(bC BK175.out 0).trans rfl, (bC BK175.out 1).trans rfl, (bC BK175.out 2).trans rfl, (bC BK175.out 3).trans rfl, (bC BK175.out 4).trans rfl, (bC BK175.out 5).trans rfl, (bC BK175.out 6).trans rfl, (bC BK175.out 7).trans rfl, (bC BK175.out 8).trans rfl, (bC BK175.out 9).trans rfl, hx179_0⟩ (fun hHeld => ?_); refine with_tabW jacobi_Round.tab8 jacobi_Round.bits8 (fun HT_ HW_ => ?_)
           generalize w44.drew = w45 at HO_6 HO_7 HO_9 BK175 HB hx179_0 hHeld ⊢
           refine pure_ (i := 0) (N := some 43) (v := ?_) (a' := ?_) #[T,F,F,F,F,F,F,F,F,F,F,F,F,F,F] rfl rfl (any_of HT_.out (by kernel_rfl)) (fun _ _ _ h => h) (Or.inl ⟨by rfl, ?_⟩) ?_ ?_
           rotate_left
           ·intro w'
            go_simp
            with_reducible rfl
           rotate_left
           ·simp only [Act.put, sA, sB, sC, i64_w, i32_w]
            rfl
           refine pure_ (i := 1) (N := some 44) (v := ?_) (a' := ?_) #[T,T,F,F,F,F,F,F,F,F,F,F,F,F,F] rfl rfl (any_of HT_.out (by kernel_rfl)) (fun _ _ _ h => h) (Or.inl ⟨by rfl, ?_⟩) ?_ ?_
           rotate_left
           ·intro w'
            go_simp
            with_reducible rfl
           rotate_left
           ·simp only [Act.put, sA, sB, sC, i64_w, i32_w]
            rfl
           refine pure_ (i := 4) (N := some 47) (v := ?_) (a' := ?_) #[T,T,F,F,T,F,F,F,F,F,F,F,F,F,F] rfl rfl (any_of HT_.out (by kernel_rfl)) (fun _ _ _ h => h) (Or.inl ⟨by rfl, ?_⟩) ?_ ?_
           rotate_left
           ·intro w'
            go_simp
            with_reducible rfl
           rotate_left
           ·simp only [Act.put, sA, sB, sC, i64_w, i32_w]
            rfl
           refine pure_ (i := 5) (N := some 48) (v := ?_) (a' := ?_) #[T,T,F,F,T,T,F,F,F,F,F,F,F,F,F] rfl rfl (any_of HT_.out (by kernel_rfl)) (fun _ _ _ h => h) (Or.inl ⟨by rfl, ?_⟩) ?_ ?_
           rotate_left
           ·intro w'
            go_simp
            with_reducible rfl
           rotate_left
           ·simp only [Act.put, sA, sB, sC, i64_w, i32_w]
            rfl
           refine pure_ (i := 6) (N := some 49) (v := ?_) (a' := ?_) #[T,T,F,F,T,T,T,F,F,F,F,F,F,F,F] rfl rfl (any_of HT_.out (by kernel_rfl)) (fun _ _ _ h => h) (Or.inl ⟨by rfl, ?_⟩) ?_ ?_
           rotate_left
           ·intro w'
            go_simp
            with_reducible rfl
           rotate_left
           ·simp only [Act.put, sA, sB, sC, i64_w, i32_w]
            rfl
           refine take_ (i := 2) (N := some 45) (v := ?_) (a' := ?_) #[T,T,T,F,T,T,T,F,F,F,F,F,F,F,F] rfl rfl (take_ofW HT_.out HW_.out (by kernel_rfl)) (fun _ _ _ h => h) (Or.inl ⟨by rfl, ?_⟩) hHeld ?_ ?_
           rotate_left
           ·rintro w' ⟨s0, s1, s2, s3, s4, s5, s6, s7, s8, s9, s10⟩
            go_simp
            with_reducible rfl
           rotate_left
           ·simp only [Act.put, sA, sB, sC, i64_w, i32_w]
            rfl
           refine pure_ (i := 3) (N := some 46) (v := ?_) (a' := ?_) #[T,T,T,T,T,T,T,F,F,F,F,F,F,F,F] rfl rfl (any_of HT_.out (by kernel_rfl)) (fun _ _ _ h => h) (Or.inl ⟨by rfl, ?_⟩) ?_ ?_
           rotate_left
           ·intro w'
            go_simp
            with_reducible rfl
           rotate_left
           ·simp only [Act.put, sA, sB, sC, i64_w, i32_w]
            rfl
           refine take_ (i := 7) (N := some 50) (v := ?_) (a' := ?_) #[T,T,T,T,T,T,T,T,F,F,F,F,F,F,F] rfl rfl (take_ofW HT_.out HW_.out (by kernel_rfl)) (fun _ _ _ h => h) (Or.inl ⟨by rfl, ?_⟩) hHeld ?_ ?_
           rotate_left
           ·rintro w' ⟨s0, s1, s2, s3, s4, s5, s6, s7, s8, s9, s10⟩
            go_simp
            with_reducible rfl
           rotate_left
           ·simp only [Act.put, sA, sB, sC, i64_w, i32_w]
            rfl
           refine pure_ (i := 8) (N := some 51) (v := ?_) (a' := ?_) #[T,T,T,T,T,T,T,T,T,F,F,F,F,F,F] rfl rfl (any_of HT_.out (by kernel_rfl)) (fun _ _ _ h => h) (Or.inl ⟨by rfl, ?_⟩) ?_ ?_
           rotate_left
           ·intro w'
            go_simp
            with_reducible rfl
           rotate_left
           ·simp only [Act.put, sA, sB, sC, i64_w, i32_w]
            rfl
           refine one_ (i := 9) (N := some 52) #[T,T,T,T,T,T,T,T,T,T,F,F,F,F,F] rfl rfl (one_of HT_.out (by kernel_rfl)) (by decide) (fun K hK => ?_)
           refine goes_ Try.func23 (by kernel_rfl) rfl #[.int .i64 (wrap64 ((wrap64 ((rd_T44 l0 x24_1).f6.f1)) + (rd t169 x24_1))), .int .i64 16777216] (by rfl) rfl rfl (by (try simp only [List.map_toArray, List.map_cons, List.map_nil]); first | done | rfl | (simp only [List.length_drop, List.length_take]; rfl)) ?_
           with_reducible refine (fx_Limit.calls (wrap64 ((wrap64 ((rd_T44 l0 x24_1).f6.f1)) + (rd t169 x24_1))) 16777216 t180 t181 _ A11.out).mono ?_
           rintro e w47 ⟨rfl, hb⟩
           have HS10_ := (hb.cell (World.block_lt_of_cell? _ _ (hHeld.2.2.2.2.2.2.2.2.2.2))).trans (hHeld.2.2.2.2.2.2.2.2.2.2)
           refine ⟨_, rfl, ?_⟩
           have n0_ := aM (Kd.R_below (by (with_reducible repeat (first | apply Kd.R_alloc | apply Kd.R_drewN | apply Kd.R_drew)); exact HO_6.out) hb)
           have n1_ := aM (Kd.R_below (by (with_reducible repeat (first | apply Kd.R_alloc | apply Kd.R_drewN | apply Kd.R_drew)); exact HO_7.out) hb)
           have n2_ := aM (Kd.R_below (by (with_reducible repeat (first | apply Kd.R_alloc | apply Kd.R_drewN | apply Kd.R_drew)); exact HO_9.out) hb)
           have n3_ := aM (bB (by (with_reducible repeat first | apply bN | apply bD | apply bA); exact BK175.out) hb)
           have n4_ := aM (lT (by repeat (first | (with_reducible first | exact HB.out | apply lA | apply lN | apply lD | refine lS ?_ GE175.out) | exact HB.out)) hb)
           clear HO_6
           clear HO_7
           clear HO_9
           clear BK175
           clear HB
           have HO_6 := n0_
           have HO_7 := n1_
           have HO_9 := n2_
           have BK175 := n3_
           have HB := n4_
           clear n0_ n1_ n2_ n3_ n4_
           (try clear hb)
           (try clear hb2)
           (try clear hk)
           (try clear hi)
           refine hK.out _ _ ⟨(bC BK175.out 0).trans rfl, (bC BK175.out 1).trans rfl, (bC BK175.out 2).trans rfl, (bC BK175.out 3).trans rfl, (bC BK175.out 4).trans rfl, (bC BK175.out 5).trans rfl, (bC BK175.out 6).trans rfl, (bC BK175.out 7).trans rfl, (bC BK175.out 8).trans rfl, (bC BK175.out 9).trans rfl, HS10_⟩ (fun hHeld => ?_)
           clear hK K
           refine norm_ (a' := ?_) ?_ ?_
           rotate_left
           ·show Act.put _ (some 52) _ = _
            simp only [Act.put, sA, sB, sC, i64_w, i32_w]
            rfl
           refine pure_ (i := 10) (N := some 42) (v := ?_) (a' := ?_) #[T,T,T,T,T,T,T,T,T,T,T,F,F,F,F] rfl rfl (any_of HT_.out (by kernel_rfl)) (fun _ _ _ h => h) (Or.inl ⟨by rfl, ?_⟩) ?_ ?_
           rotate_left
           ·intro w'
            go_simp
            with_reducible rfl
           rotate_left
           ·simp only [Act.put, sA, sB, sC, i64_w, i32_w]
            rfl
           refine pure_ (i := 11) (N := some 53) (v := ?_) (a' := ?_) #[T,T,T,T,T,T,T,T,T,T,T,T,F,F,F] rfl rfl (any_of HT_.out (by kernel_rfl)) (fun _ _ _ h => h) (Or.inl ⟨by rfl, ?_⟩) ?_ ?_
           rotate_left
           ·intro w'
            go_simp
            with_reducible rfl
           rotate_left
           ·simp only [Act.put, sA, sB, sC, i64_w, i32_w]
            rfl
           refine pure_ (i := 12) (N := some 54) (v := ?_) (a' := ?_) #[T,T,T,T,T,T,T,T,T,T,T,T,T,F,F] rfl rfl (any_of HT_.out (by kernel_rfl)) (fun _ _ _ h => h) (Or.inl ⟨by rfl, ?_⟩) ?_ ?_
           rotate_left
           ·intro w'
            go_simp
            with_reducible rfl
           rotate_left
           ·simp only [Act.put, sA, sB, sC, i64_w, i32_w]
            rfl
           refine pure_ (i := 13) (N := some 14) (v := ?_) (a' := ?_) #[T,T,T,T,T,T,T,T,T,T,T,T,T,T,F] rfl rfl (any_of HT_.out (by kernel_rfl)) (fun _ _ _ h => h) (Or.inl ⟨by rfl, ?_⟩) ?_ ?_
           rotate_left
           ·intro w'
            go_simp
            with_reducible rfl
           rotate_left
           ·simp only [Act.put, sA, sB, sC, i64_w, i32_w]
            rfl
           refine pure_ (i := 14) (N := some 15) (v := ?_) (a' := ?_) #[T,T,T,T,T,T,T,T,T,T,T,T,T,T,T] rfl rfl (any_of HT_.out (by kernel_rfl)) (fun _ _ _ h => h) (Or.inl ⟨by rfl, ?_⟩) ?_ ?_
           rotate_left
           ·intro w'
            go_simp
            with_reducible rfl
           rotate_left
           ·simp only [Act.put, sA, sB, sC, i64_w, i32_w]
            rfl
           refine done_ (done_of HT_.out (by kernel_rfl)) ?_
           have hcz48_0 : w47.cell? ⟨b175, 0, none⟩ = some (.int .u32 ((rd_T44 l0 x24_1).f0)) := (bC BK175.out 0).trans rfl
           have hcz48_1 : w47.cell? ⟨b175, 1, none⟩ = some (.int .i32 ((rd_T44 l0 x24_1).f1)) := (bC BK175.out 1).trans rfl
           have hcz48_2 : w47.cell? ⟨b175, 2, none⟩ = some (.int .i32 ((rd_T44 l0 x24_1).f2.f0)) := (bC BK175.out 2).trans rfl
           have hcz48_3 : w47.cell? ⟨b175, 3, none⟩ = some (.int .i32 ((rd_T44 l0 x24_1).f2.f1)) := (bC BK175.out 3).trans rfl
           have hcz48_4 : w47.cell? ⟨b175, 4, none⟩ = some (.int .i32 ((rd_T44 l0 x24_1).f3)) := (bC BK175.out 4).trans rfl
           have hcz48_5 : w47.cell? ⟨b175, 5, none⟩ = some (.int .i32 ((rd_T44 l0 x24_1).f4)) := (bC BK175.out 5).trans rfl
           have hcz48_6 : w47.cell? ⟨b175, 6, none⟩ = some (.int .i32 ((rd_T44 l0 x24_1).f5.f0)) := (bC BK175.out 6).trans rfl
           have hcz48_7 : w47.cell? ⟨b175, 7, none⟩ = some (.int .i32 ((rd_T44 l0 x24_1).f5.f1)) := (bC BK175.out 7).trans rfl
           have hcz48_8 : w47.cell? ⟨b175, 8, none⟩ = some (.int .i32 ((rd_T44 l0 x24_1).f6.f0)) := (bC BK175.out 8).trans rfl
           have hcz48_9 : w47.cell? ⟨b175, 9, none⟩ = some (.int .i32 ((rd_T44 l0 x24_1).f6.f1)) := (bC BK175.out 9).trans rfl
           have hfz48_0 := bF BK175.out 0
           have hfz48_1 := bF BK175.out 1
           have hfz48_2 := bF BK175.out 2
           have hfz48_3 := bF BK175.out 3
           have hfz48_4 := bF BK175.out 4
           have hfz48_5 := bF BK175.out 5
           have hfz48_6 := bF BK175.out 6
           have hfz48_7 := bF BK175.out 7
           have hfz48_8 := bF BK175.out 8
           have hfz48_9 := bF BK175.out 9
           try go_wp2_with (first | ((with_reducible refine gate_builtin (b := .append) (xs := #[.tmp 68, .tmp 70]) rfl ?_); at_builtin; refine Kd.R_append k44 (w0 := w) w.heap.size rfl (.tmp 68) (.tmp 70) 22 44 (.agg #[(.int .u32 0), (.int .i32 0), (.int .i32 0), (.int .i32 0), (.int .i32 0), (.int .i32 0), (.int .i32 0), (.int .i32 0), (.int .i32 0), (.int .i32 0)]) 40 rfl Try.underlying22 info44 rfl (by decide) (by omega) u9 x9_1 (⟨(rd_T44 l0 x24_1).f0, (rd_T44 l0 x24_1).f1, (⟨(rd_T44 l0 x24_1).f2.f0, (rd_T44 l0 x24_1).f2.f1⟩ : S39), (rd_T44 l0 x24_1).f3, (rd_T44 l0 x24_1).f4, (⟨(rd_T44 l0 x24_1).f5.f0, (rd_T44 l0 x24_1).f5.f1⟩ : S39), (⟨wrap32 (t177), wrap32 (t180)⟩ : S39)⟩ : S44) [.int .u32 ((rd_T44 l0 x24_1).f0), .int .i32 ((rd_T44 l0 x24_1).f1), .int .i32 ((rd_T44 l0 x24_1).f2.f0), .int .i32 ((rd_T44 l0 x24_1).f2.f1), .int .i32 ((rd_T44 l0 x24_1).f3), .int .i32 ((rd_T44 l0 x24_1).f4), .int .i32 ((rd_T44 l0 x24_1).f5.f0), .int .i32 ((rd_T44 l0 x24_1).f5.f1), .int .i32 (wrap32 (t177)), .int .i32 (wrap32 (t180))] (fun k_ => k_ ≠ b175) (fun _ => False) rfl (by first | (go_simp; done) | (go_simp; rfl)) ?aP (fun _ hk => hk.elim) ?aF ?aO ?aB ?aS ?aL ?_; (case aP => exact k44_mkM _ _ _ (⟨(rd_T44 l0 x24_1).f0, (rd_T44 l0 x24_1).f1, (⟨(rd_T44 l0 x24_1).f2.f0, (rd_T44 l0 x24_1).f2.f1⟩ : S39), (rd_T44 l0 x24_1).f3, (rd_T44 l0 x24_1).f4, (⟨(rd_T44 l0 x24_1).f5.f0, (rd_T44 l0 x24_1).f5.f1⟩ : S39), (⟨wrap32 (t177), wrap32 (t180)⟩ : S39)⟩ : S44)); (case aB => exact (by repeat (first | (with_reducible first | exact HB.out | apply lA | apply lN | apply lD | refine lS ?_ GE175.out) | exact HB.out))); (case aF => exact (fun k_ hk => Kd.freshB (g := b175) (o := .cells #[.int .u32 ((rd_T44 l0 x24_1).f0), .int .i32 ((rd_T44 l0 x24_1).f1), .int .i32 ((rd_T44 l0 x24_1).f2.f0), .int .i32 ((rd_T44 l0 x24_1).f2.f1), .int .i32 ((rd_T44 l0 x24_1).f3), .int .i32 ((rd_T44 l0 x24_1).f4), .int .i32 ((rd_T44 l0 x24_1).f5.f0), .int .i32 ((rd_T44 l0 x24_1).f5.f1), .int .i32 (wrap32 (t177)), .int .i32 (wrap32 (t180))] 44 (0, 0)) (by (with_reducible repeat first | apply bN | apply bD | apply bA); refine bP (cs := #[.int .u32 ((rd_T44 l0 x24_1).f0), .int .i32 ((rd_T44 l0 x24_1).f1), .int .i32 ((rd_T44 l0 x24_1).f2.f0), .int .i32 ((rd_T44 l0 x24_1).f2.f1), .int .i32 ((rd_T44 l0 x24_1).f3), .int .i32 ((rd_T44 l0 x24_1).f4), .int .i32 ((rd_T44 l0 x24_1).f5.f0), .int .i32 ((rd_T44 l0 x24_1).f5.f1), .int .i32 (wrap32 (t177)), .int .i32 ((rd_T44 l0 x24_1).f6.f1)]) ?_ 9 _ rfl; (with_reducible repeat first | apply bN | apply bD | apply bA); refine bP (cs := #[.int .u32 ((rd_T44 l0 x24_1).f0), .int .i32 ((rd_T44 l0 x24_1).f1), .int .i32 ((rd_T44 l0 x24_1).f2.f0), .int .i32 ((rd_T44 l0 x24_1).f2.f1), .int .i32 ((rd_T44 l0 x24_1).f3), .int .i32 ((rd_T44 l0 x24_1).f4), .int .i32 ((rd_T44 l0 x24_1).f5.f0), .int .i32 ((rd_T44 l0 x24_1).f5.f1), .int .i32 ((rd_T44 l0 x24_1).f6.f0), .int .i32 ((rd_T44 l0 x24_1).f6.f1)]) ?_ 8 _ rfl; (with_reducible repeat first | apply bN | apply bD | apply bA); exact BK175.out) k_ hk)); (case aO => exact (by (with_reducible repeat (first | apply Kd.R_alloc | apply Kd.R_drewN | apply Kd.R_drew)); exact Kd.R_mono (Kd.R_far (p := ⟨b175, 9, none⟩) (Kd.R_far (p := ⟨b175, 8, none⟩) (Kd.R_mono HO_9.out (fun k_ hk => (⟨hk, hk⟩ : _ ∧ k_ ≠ b175))) (fun _ hk => hk.2) (.int .i32 (wrap32 (t177)))) (fun _ hk => hk.2) (.int .i32 (wrap32 (t180)))) (fun _ hk => hk.1))); (case aS => exact (lZ (by repeat (first | (with_reducible first | exact HB.out | apply lA | apply lN | apply lD | refine lS ?_ GE175.out) | exact HB.out)))); (case aL => have := LMc38.out; omega); intro v189 w49 ho hb hg hat; rw [← Ny188.out] at ho; have n0_ := aM (Kd.R_over' (by (with_reducible repeat (first | apply Kd.R_alloc | apply Kd.R_drewN | apply Kd.R_drew)); exact (Kd.R_mono (Kd.R_far (p := ⟨b175, 9, none⟩) (Kd.R_far (p := ⟨b175, 8, none⟩) (Kd.R_types HO_6.out BK175.out (by decide)) (fun _ hk => hk.2) (.int .i32 (wrap32 (t177)))) (fun _ hk => hk.2) (.int .i32 (wrap32 (t180)))) (fun _ h_ => h_.1))) (Kd.R_typed (by (with_reducible repeat (first | apply Kd.R_alloc | apply Kd.R_drewN | apply Kd.R_drew)); exact (Kd.R_mono (Kd.R_far (p := ⟨b175, 9, none⟩) (Kd.R_far (p := ⟨b175, 8, none⟩) (Kd.R_mono HO_9.out (fun k_ hk => (⟨hk, hk⟩ : _ ∧ k_ ≠ b175))) (fun _ hk => hk.2) (.int .i32 (wrap32 (t177)))) (fun _ hk => hk.2) (.int .i32 (wrap32 (t180)))) (fun _ h_ => h_.1)))) (by decide) hg); have n1_ := aM (Kd.R_over' (by (with_reducible repeat (first | apply Kd.R_alloc | apply Kd.R_drewN | apply Kd.R_drew)); exact (Kd.R_mono (Kd.R_far (p := ⟨b175, 9, none⟩) (Kd.R_far (p := ⟨b175, 8, none⟩) (Kd.R_types HO_7.out BK175.out (by decide)) (fun _ hk => hk.2) (.int .i32 (wrap32 (t177)))) (fun _ hk => hk.2) (.int .i32 (wrap32 (t180)))) (fun _ h_ => h_.1))) (Kd.R_typed (by (with_reducible repeat (first | apply Kd.R_alloc | apply Kd.R_drewN | apply Kd.R_drew)); exact (Kd.R_mono (Kd.R_far (p := ⟨b175, 9, none⟩) (Kd.R_far (p := ⟨b175, 8, none⟩) (Kd.R_mono HO_9.out (fun k_ hk => (⟨hk, hk⟩ : _ ∧ k_ ≠ b175))) (fun _ hk => hk.2) (.int .i32 (wrap32 (t177)))) (fun _ hk => hk.2) (.int .i32 (wrap32 (t180)))) (fun _ h_ => h_.1)))) (by decide) hg); have n2_ := aM (blk_grown (g := b175) (o := .cells #[.int .u32 ((rd_T44 l0 x24_1).f0), .int .i32 ((rd_T44 l0 x24_1).f1), .int .i32 ((rd_T44 l0 x24_1).f2.f0), .int .i32 ((rd_T44 l0 x24_1).f2.f1), .int .i32 ((rd_T44 l0 x24_1).f3), .int .i32 ((rd_T44 l0 x24_1).f4), .int .i32 ((rd_T44 l0 x24_1).f5.f0), .int .i32 ((rd_T44 l0 x24_1).f5.f1), .int .i32 (wrap32 (t177)), .int .i32 (wrap32 (t180))] 44 (0, 0)) (by (with_reducible repeat first | apply bN | apply bD | apply bA); refine bP (cs := #[.int .u32 ((rd_T44 l0 x24_1).f0), .int .i32 ((rd_T44 l0 x24_1).f1), .int .i32 ((rd_T44 l0 x24_1).f2.f0), .int .i32 ((rd_T44 l0 x24_1).f2.f1), .int .i32 ((rd_T44 l0 x24_1).f3), .int .i32 ((rd_T44 l0 x24_1).f4), .int .i32 ((rd_T44 l0 x24_1).f5.f0), .int .i32 ((rd_T44 l0 x24_1).f5.f1), .int .i32 (wrap32 (t177)), .int .i32 ((rd_T44 l0 x24_1).f6.f1)]) ?_ 9 _ rfl; (with_reducible repeat first | apply bN | apply bD | apply bA); refine bP (cs := #[.int .u32 ((rd_T44 l0 x24_1).f0), .int .i32 ((rd_T44 l0 x24_1).f1), .int .i32 ((rd_T44 l0 x24_1).f2.f0), .int .i32 ((rd_T44 l0 x24_1).f2.f1), .int .i32 ((rd_T44 l0 x24_1).f3), .int .i32 ((rd_T44 l0 x24_1).f4), .int .i32 ((rd_T44 l0 x24_1).f5.f0), .int .i32 ((rd_T44 l0 x24_1).f5.f1), .int .i32 ((rd_T44 l0 x24_1).f6.f0), .int .i32 ((rd_T44 l0 x24_1).f6.f1)]) ?_ 8 _ rfl; (with_reducible repeat first | apply bN | apply bD | apply bA); exact BK175.out) hg (Kd.R_away HO_9.out (fun _ hk => hk))); have n3_ := aM (hb); have n4_ := aM (ho); clear HO_6; clear HO_7; clear BK175; clear HB; clear HO_9; have HO_6 := n0_; have HO_7 := n1_; have BK175 := n2_; have HB := n3_; have HO190 := n4_; clear n0_ n1_ n2_ n3_ n4_; clear ho hb hg hat))
           go_roundg k1
           case measure => have := HK1.out; omega
           case rel => exact ⟨(t181), (y188), (wrap64 (x24_1 + 1)), (by first | rfl | (simp; done) | (simp [*]; done)), (by first | rfl | (simp; done) | (simp [*]; done)), H', ⟨by have := HK1.out; omega⟩, ⟨by (with_reducible repeat (first | apply Kd.R_alloc | apply Kd.R_drewN | apply Kd.R_drew)); exact HO_6.out⟩, ⟨by (with_reducible repeat (first | apply Kd.R_alloc | apply Kd.R_drewN | apply Kd.R_drew)); exact HO_7.out⟩, ⟨by (with_reducible repeat (first | apply Kd.R_alloc | apply Kd.R_drewN | apply Kd.R_drew)); exact Kd.R_mono HO190.out (fun _ hk => trivial)⟩, ⟨by repeat (first | (with_reducible first | exact HB.out | apply lA | apply lN | apply lD | refine lS ?_ GE175.out) | exact HB.out)⟩⟩
          ·rw [if_neg c38] at H
           exact absurd H (by simp)
       ·rw [if_neg c10] at H
        exact absurd H (by simp)
      ·rw [if_neg c8] at H
       exact absurd H (by simp)
     ·rw [if_neg c7] at H
      exact absurd H (by simp)
    ·rw [if_neg c6] at H
     exact absurd H (by simp)
   ·rw [if_neg c5] at H
    have c5b0 : decide (x24_1 < (l0.length : Int)) = false := decide_eq_false c5
    clear c5
    simp only [Option.some.injEq, Prod.mk.injEq] at H
    obtain ⟨rfl, rfl⟩ := H
    go_wp2
    go_ret2
    exact ⟨_, by first | rfl | (simp [errW_none, errW_some] <;> rfl) | (simp [*, errW_none, errW_some] <;> rfl), by (with_reducible repeat (first | apply Kd.R_alloc | apply Kd.R_drewN | apply Kd.R_drew)); exact HO_9.out, by repeat (first | (with_reducible first | exact HB.out | apply lA | apply lN | apply lD) | exact HB.out)⟩

/-! ### jacobi_Solve: function 14 (given) -/
-- NEEDS billiard/jacobi.Round
def jacobi_Solve.l0 : Nat → List (S44) → List (S41) → Bool → Int → Option ((List (S44)) × Bool)
 | 0, _, _, _, _ => none
 | k + 1, x0, x1, x6, x9 => if x9 < 4 then ((jacobi_Round.f k x0 x1).bind fun bt191 => (if x6 = true then (jacobi_Solve.l0 k bt191.1 x1 true (wrap64 (x9 + 1))) else (jacobi_Solve.l0 k bt191.1 x1 bt191.2 (wrap64 (x9 + 1))))) else (some (x0, x6))
def jacobi_Solve.f (k : Nat) (l0 : List (S44)) (l1 : List (S41)) : Option ((List (S44)) × Bool) := jacobi_Solve.l0 k l0 l1 false 0
theorem jacobi_Solve.mono_l : ∀ k, (∀ y0 y1 y2 y3, LeO (jacobi_Solve.l0 k y0 y1 y2 y3) (jacobi_Solve.l0 (k + 1) y0 y1 y2 y3))
 | 0 => fun _ _ _ _ r h => by simp [jacobi_Solve.l0] at h
 | k + 1 => by
  have ih0 := jacobi_Solve.mono_l k
  intro y0 y1 y2 y3
  unfold jacobi_Solve.l0
  repeat' first
   | (with_reducible exact ih0 _ _ _ _)
   | (with_reducible exact jacobi_Round.mono _ _ _)
   | (with_reducible exact LeO.refl _)
   | (with_reducible exact LeO.none _)
   | (with_reducible refine LeO.ite ?_ ?_)
   | (with_reducible refine LeO.bind ?_ (fun _ => ?_))
theorem jacobi_Solve.mono : ∀ a0 a1 k, LeO (jacobi_Solve.f k a0 a1) (jacobi_Solve.f (k + 1) a0 a1) := by
 intro a0 a1 k
 exact jacobi_Solve.mono_l k _ _ _ _
set_option maxHeartbeats 8000000 in
set_option maxRecDepth 100000 in
theorem jacobi_Solve.calls (k : Nat) (A0 : Option Addr) (c0 : Nat) (l0 : List (S44)) (A1 : Option Addr) (c1 : Nat) (l1 : List (S41)) (r1 : List (S44)) (r2 : Bool) (w : World) (hr0 : Kd.C k44 w A0 l0.length l0) (hc0 : l0.length ≤ c0) (hr1 : Kd.C k41 w A1 l1.length l1) (hc1 : l1.length ≤ c1) (h : jacobi_Solve.f k l0 l1 = some (r1, r2)) :
  Calls Try.prog 14 #[.slice A0 l0.length c0, .slice A1 l1.length c1] w fun e w' => ∃ v0_ : Value, e = .returned (.tuple #[v0_, .bool r2]) ∧ Kd.R k44 44 w' w.heap.size (fun _ => True) v0_ r1 ∧ Below w.heap.size w w' := by
 have HR0 := aM hr0
 have HC0 := aM hc0
 have HR1 := aM hr1
 have HC1 := aM hc1
 clear hr0 hc0 hr1 hc1
 have HB := aM (Below.refl w.heap.size w)
 have H : (jacobi_Solve.l0 k l0 l1 false 0) = some (r1, r2) := h
 clear h
 have H' := aM H
 clear H
 go_enter Try.func14, Try.ntmps14
 go_wp2
 go_loopg [0, 6, 9] k (fun kq v0 v6 v9 w' => ∃ (x0_1 : List (S44)) (x6_1 : Bool) (x9_1 : Int) (A : Option Addr) (c : Nat), v0 = .slice A x0_1.length c ∧ v6 = .bool x6_1 ∧ v9 = .int .i64 x9_1 ∧ Aside0 (jacobi_Solve.l0 kq x0_1 l1 x6_1 x9_1 = some (r1, r2)) ∧ Aside0 (kq ≤ k) ∧ Aside0 (Kd.C k44 w' A x0_1.length x0_1) ∧ Aside0 (x0_1.length ≤ c) ∧ Aside0 (x9_1 = 0 ∨ Kd.R k44 44 w' w.heap.size (fun _ => True) (.slice A x0_1.length c) x0_1) ∧ Aside0 (Below w.heap.size w w'))
 case atStart => exact ⟨l0, false, 0, A0, c0, rfl, (by first | rfl | (simp; done)), (by first | rfl | (simp; done)), H', ⟨Nat.le_refl _⟩, HR0, HC0, ⟨Or.inl rfl⟩, ⟨by repeat (first | (with_reducible first | exact HB.out | apply lA | apply lN | apply lD) | exact HB.out)⟩⟩
 case round =>
  clear H' HR0 HC0
  obtain ⟨x0_1, x6_1, x9_1, A, c, rfl, rfl, rfl, HA, HK1, HC, HL, HO, HB⟩ := hrel
  cases gk with
  | zero => exact absurd HA.out (by simp [jacobi_Solve.l0])
  | succ k1 =>
   have H := HA.out
   clear HA
   simp only [jacobi_Solve.l0] at H
   by_cases c3 : x9_1 < 4
   ·rw [if_pos c3] at H
    have c3b0 : decide (x9_1 < 4) = true := decide_eq_true c3
    clear c3
    replace H := Option.bind_eq_some_iff.mp H
    obtain ⟨⟨t191, t192⟩, A40, H⟩ := H
    try dsimp only at H
    have A4 := aM A40
    clear A40
    have HS := aM (show 0 ≤ w.heap.size from Nat.zero_le _)
    by_cases c5 : x6_1 = true
    ·subst c5
     rw [if_pos rfl] at H
     have H' := aM H
     clear H
     go_wp2_with (first | ((with_reducible refine gate_callee (f := 12) rfl ?_); refine goesL_ (some 14) rfl rfl Try.func12 (by kernel_rfl) rfl #[.slice A x0_1.length c, .slice A1 l1.length c1] rfl (by (try simp only [List.map_toArray, List.map_cons, List.map_nil]); first | done | rfl | (simp only [List.length_drop, List.length_take]; rfl)) ?_; (with_reducible refine (jacobi_Round.calls k1 _ _ x0_1 _ _ l1 t191 t192 _ ?side1 ?side2 ?side3 ?side4 A4.out).mono ?_); (case side1 => repeat (first | exact HC.out | (with_reducible refine Kd.C_alloc ?_ _) | (with_reducible refine Kd.C_drewN ?_ _) | (with_reducible refine Kd.C_drew ?_))); (case side2 => exact HL.out); (case side3 => repeat (first | exact (Kd.C_below HR1.out HB.out) | (with_reducible refine Kd.C_alloc ?_ _) | (with_reducible refine Kd.C_drewN ?_ _) | (with_reducible refine Kd.C_drew ?_))); (case side4 => exact HC1.out); rintro e w7 ⟨v193, rfl, ho0, hb⟩; refine ⟨_, rfl, ?_⟩; have n1_ := aM (Kd.R_lower ho0 (lZ (by repeat (first | (with_reducible first | exact HB.out | apply lA | apply lN | apply lD) | exact HB.out)))); have n2_ := aM (lT (by repeat (first | (with_reducible first | exact HB.out | apply lA | apply lN | apply lD) | exact HB.out)) hb); clear HB HO HC HL; have HO := n1_; have HB := n2_; clear n1_ n2_; (try clear hb); (try clear hb2); (try clear hk); (try clear hi); (try clear ho0)))
     obtain ⟨A', c', e', hl', hC'⟩ := Kd.R_reads HO.out
     subst e'
     have HC' := aM hC'
     have HL' := aM hl'
     clear hC' hl'
     go_roundg k1
     case measure => have := HK1.out; omega
     case rel => exact ⟨t191, true, (wrap64 (x9_1 + 1)), A', c', (by first | rfl | (simp; done) | (simp [*]; done)), (by first | rfl | (simp; done) | (simp [*]; done)), (by first | rfl | (simp; done) | (simp [*]; done)), H', ⟨by have := HK1.out; omega⟩, HC', HL', ⟨Or.inr HO.out⟩, HB⟩
    ·replace c5 := Bool.eq_false_iff.mpr c5
     subst c5
     rw [if_neg (show ¬ (false = true) by decide)] at H
     have H' := aM H
     clear H
     go_wp2_with (first | ((with_reducible refine gate_callee (f := 12) rfl ?_); refine goesL_ (some 14) rfl rfl Try.func12 (by kernel_rfl) rfl #[.slice A x0_1.length c, .slice A1 l1.length c1] rfl (by (try simp only [List.map_toArray, List.map_cons, List.map_nil]); first | done | rfl | (simp only [List.length_drop, List.length_take]; rfl)) ?_; (with_reducible refine (jacobi_Round.calls k1 _ _ x0_1 _ _ l1 t191 t192 _ ?side1 ?side2 ?side3 ?side4 A4.out).mono ?_); (case side1 => repeat (first | exact HC.out | (with_reducible refine Kd.C_alloc ?_ _) | (with_reducible refine Kd.C_drewN ?_ _) | (with_reducible refine Kd.C_drew ?_))); (case side2 => exact HL.out); (case side3 => repeat (first | exact (Kd.C_below HR1.out HB.out) | (with_reducible refine Kd.C_alloc ?_ _) | (with_reducible refine Kd.C_drewN ?_ _) | (with_reducible refine Kd.C_drew ?_))); (case side4 => exact HC1.out); rintro e w7 ⟨v193, rfl, ho0, hb⟩; refine ⟨_, rfl, ?_⟩; have n1_ := aM (Kd.R_lower ho0 (lZ (by repeat (first | (with_reducible first | exact HB.out | apply lA | apply lN | apply lD) | exact HB.out)))); have n2_ := aM (lT (by repeat (first | (with_reducible first | exact HB.out | apply lA | apply lN | apply lD) | exact HB.out)) hb); clear HB HO HC HL; have HO := n1_; have HB := n2_; clear n1_ n2_; (try clear hb); (try clear hb2); (try clear hk); (try clear hi); (try clear ho0)))
     obtain ⟨A', c', e', hl', hC'⟩ := Kd.R_reads HO.out
     subst e'
     have HC' := aM hC'
     have HL' := aM hl'
     clear hC' hl'
     go_roundg k1
     case measure => have := HK1.out; omega
     case rel => exact ⟨t191, t192, (wrap64 (x9_1 + 1)), A', c', (by first | rfl | (simp; done) | (simp [*]; done)), (by first | rfl | (simp; done) | (simp [*]; done)), (by first | rfl | (simp; done) | (simp [*]; done)), H', ⟨by have := HK1.out; omega⟩, HC', HL', ⟨Or.inr HO.out⟩, HB⟩
   ·rw [if_neg c3] at H
    have c3b0 : decide (x9_1 < 4) = false := decide_eq_false c3
    have HO2 := aM (HO.out.resolve_left (by omega))
    clear c3 HO
    simp only [Option.some.injEq, Prod.mk.injEq] at H
    obtain ⟨rfl, rfl⟩ := H
    go_wp2
    go_ret2
    exact ⟨_, by first | rfl | (simp [errW_none, errW_some] <;> rfl) | (simp [*, errW_none, errW_some] <;> rfl), by (with_reducible repeat (first | apply Kd.R_alloc | apply Kd.R_drewN | apply Kd.R_drew)); exact HO2.out, by repeat (first | (with_reducible first | exact HB.out | apply lA | apply lN | apply lD) | exact HB.out)⟩

end Go.Proofs.Ytcbdcgghccjdpaa.Q
