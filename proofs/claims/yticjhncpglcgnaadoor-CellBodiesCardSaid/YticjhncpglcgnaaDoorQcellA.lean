-- PRINTED by print.py (a twelfth state) out of the translation. Not trusted: Lean checks it.
import Derived.Test.YticjhncpglcgnaaDoorQ0
import Derived.Test.YticjhncpglcgnaaDoorQbox
import Derived.Test.YticjhncpglcgnaaDoorQcell
import Derived.Lib.Hide
import Derived.LoopIn
import Derived.LoopNIn
import Derived.Maps.AppendAt
import Derived.OwnWalkIn
import Derived.RangeFuncBound
import Derived.RangeFuncBox
import Derived.RangeFuncCalls
import Derived.RangeFuncLeaves
import Derived.RangeFuncNested
import Derived.Shelf.Abstract
import Derived.Shelf.RegionOpen
import Derived.TacticsInMore
import Derived.Test.YticjhncpglcgnaaDoorMcells
import Derived.Test.YticjhncpglcgnaaDoorMspec
namespace Go.Proofs.YticjhncpglcgnaaDoor.Q
open Go.RowKit Go.Proofs.YticjhncpglcgnaaDoorW.PrintWords Go.Proofs.YticjhncpglcgnaaDoorW.PrintLast Go.Proofs.YticjhncpglcgnaaDoorW.PrintMore
attribute [local go_sem] max2_int min2_int max_two min_two max_three min_three max_four min_four   -- for this text's walks alone
set_option linter.unusedVariables false
set_option linter.unusedSimpArgs false

/-! ### cell_All: function 18 (given) -/
-- IMPORT Derived.Test.YticjhncpglcgnaaDoorMspec
-- IMPORT Derived.Test.YticjhncpglcgnaaDoorMcells
-- IMPORT Derived.Lib.Hide
-- IMPORT Derived.RangeFuncNested
-- IMPORT Derived.RangeFuncBound
-- IMPORT Derived.RangeFuncCalls
-- IMPORT Derived.RangeFuncLeaves
-- IMPORT Derived.RangeFuncBox
-- IMPORT Derived.Maps.AppendAt
-- IMPORT Derived.Shelf.Abstract
-- IMPORT Derived.Shelf.RegionOpen
-- IMPORT Derived.OwnWalkIn
-- IMPORT Derived.TacticsInMore
-- IMPORT Derived.LoopNIn
-- IMPORT Derived.LoopIn
-- NEEDS billiard/cell.Span
-- NEEDS billiard/box.Empty
-- NEEDS billiard/cell.Of
def cell_All.f (a0_0 a0_1 a0_2 a0_3 : Int) : Option (List S29) := if i32B a0_0 = true ∧ i32B a0_1 = true ∧ i32B a0_2 = true ∧ i32B a0_3 = true then (if a0_0 > a0_2 ∨ a0_1 > a0_3 then some [] else some (cellsC (a0_0 / 4194304) (a0_1 / 4194304) (a0_2 / 4194304 + 1 - a0_0 / 4194304).toNat (a0_3 / 4194304 + 1 - a0_1 / 4194304).toNat)) else none
section
open Go.Shelf
attribute [local go_sem] Oper.semAt_some
/-- The three blocks from k on are as they were. -/
def KeepI (k : Nat) (W W' : World) : Prop := ∀ i, k ≤ i → i < k + 3 → W'.heap[i]? = W.heap[i]?
theorem KeepI.refl (k : Nat) (W : World) : KeepI k W W := fun _ _ _ => rfl
theorem KeepI.trans {k : Nat} {A B C : World} (h : KeepI k A B) (g : KeepI k B C) : KeepI k A C := fun i h1 h2 => (g i h1 h2).trans (h i h1 h2)
theorem KeepI.of_below {k B : Nat} {W W' : World} (h : Below B W W') (hk : k + 3 ≤ B) : KeepI k W W' := fun i _ h2 => h.block i (by omega)
theorem KeepI.cell {k : Nat} {W W' : World} (h : KeepI k W W') (i j : Nat) (h1 : k ≤ i) (h2 : i < k + 3) : W'.cell? ⟨i, j, none⟩ = W.cell? ⟨i, j, none⟩ := by
  simp only [World.cell?, h i h1 h2]
/-- The three captured variables of the iterator. -/
structure IterV (W : World) (k : Nat) (lx ly hx hy : Int) (ok : Bool) : Prop where
  l0 : W.cell? ⟨k, 0, none⟩ = some (.int .i32 lx)
  l1 : W.cell? ⟨k, 1, none⟩ = some (.int .i32 ly)
  h0 : W.cell? ⟨k + 1, 0, none⟩ = some (.int .i32 hx)
  h1 : W.cell? ⟨k + 1, 1, none⟩ = some (.int .i32 hy)
  o : W.cell? ⟨k + 1 + 1, 0, none⟩ = some (.bool ok)
theorem IterV.keep {W W' : World} {k : Nat} {lx ly hx hy : Int} {ok : Bool} (v : IterV W k lx ly hx hy ok) (h : KeepI k W W') : IterV W' k lx ly hx hy ok :=
  ⟨(h.cell k 0 (by omega) (by omega)).trans v.l0, (h.cell k 1 (by omega) (by omega)).trans v.l1, (h.cell (k + 1) 0 (by omega) (by omega)).trans v.h0, (h.cell (k + 1) 1 (by omega) (by omega)).trans v.h1, (h.cell (k + 1 + 1) 0 (by omega) (by omega)).trans v.o⟩
set_option maxRecDepth 100000 in
set_option maxHeartbeats 4000000 in
theorem cell_iter_in (F : Fence) (n : Nat) (hF : F.fn 37) (hro : F.round = none) (hn : 1 ≤ n) (l k : Nat) (lx ly : Int) (nx ny : Nat) (hlx : -1024 ≤ lx ∧ lx + nx ≤ 1024) (hly : -1024 ≤ ly ∧ ly + ny ≤ 1024) (J Jx : List S29 → World → Prop)
    (hY : ∀ pre x W, J pre W → pre.length < ny * nx → YieldAt F (n - 1) Tryd.prog l #[.agg #[.int .i32 x.f0, .int .i32 x.f1]] W fun e W' =>
      (e = .returned (.bool true) ∧ J (pre ++ [x]) W' ∧ KeepI k W W') ∨ (e = .returned (.bool false) ∧ Jx (pre ++ [x]) W'))
    (W : World) (hV : IterV W k lx ly (lx + nx - 1) (ly + ny - 1) true) (h0 : J [] W) :
    CallsIn F n Tryd.prog 37 #[.func (.yield l) #[] #[], .pointer (some ⟨k, 0, none⟩), .pointer (some ⟨k + 1 + 1, 0, none⟩), .pointer (some ⟨k + 1, 0, none⟩)] W fun e W' => (∃ v, e = .returned v) ∧
      ((∃ ys, ys = cellsC lx ly nx ny ∧ J ys W') ∨ (∃ pre, pre <+: cellsC lx ly nx ny ∧ Jx pre W')) := by
  refine callsIn_of_wp Tryd.func37 rfl hF ?_ hro
  simp only [Tryd.ntmps37, List.size_toArray, List.length_cons, List.length_nil, Nat.reduceAdd, Nat.reduceSub, Array.replicate_succ, Array.replicate_zero, List.push_toArray, List.append_toArray, List.nil_append, List.cons_append]
  have HY := Lib.hid hY
  have HV := Lib.hid hV
  obtain ⟨c0, c1, c2, c3, c4⟩ := hV
  clear hY
  gi_wp2
  gi_loopw [5] (fun p wr => ∃ m : Nat, p = .int .i32 (ly + m) ∧ m ≤ ny ∧ J (cellsC lx ly nx m) wr ∧ KeepI k W wr)
    (fun p _ => (ly + ny - intOf p).toNat)
  case atStart =>
    exact ⟨0, by simp, by omega, h0, KeepI.refl _ _⟩
  case round =>
    obtain ⟨m, rfl, hm, hJ, hB⟩ := hrel
    have HB := Lib.hid hB
    obtain ⟨b0, b1, b2, b3, b4⟩ := HV.out.keep hB
    clear hB
    by_cases hlt : m < ny
    · have d1 : decide (ly + (m : Int) ≤ ly + (ny : Int) - 1) = true := decide_eq_true (by omega)
      gi_wp2
      gi_loopw [6] (fun p wr => ∃ c : Nat, p = .int .i32 (lx + c) ∧ c ≤ nx ∧ J (cellsC lx ly nx m ++ rowC lx (ly + m) c) wr ∧ KeepI k W wr)
        (fun p _ => (lx + nx - intOf p).toNat)
      case atStart => exact ⟨0, by simp, by omega, by simpa [rowC] using hJ, HB.out⟩
      case round =>
        obtain ⟨c, rfl, hc, hJ2, hB2⟩ := hrel
        have HB2 := Lib.hid hB2
        clear b0 b1 b2 b3 b4
        obtain ⟨b0, b1, b2, b3, b4⟩ := HV.out.keep hB2
        clear hB2
        by_cases hlt2 : c < nx
        · have d2 : decide (lx + (c : Int) ≤ lx + (nx : Int) - 1) = true := decide_eq_true (by omega)
          have hlen : (cellsC lx ly nx m ++ rowC lx (ly + m) c).length < ny * nx := by
            rw [List.length_append, cellsC_len, rowC_len]
            have := Nat.mul_le_mul_right nx (show m + 1 ≤ ny from hlt)
            rw [Nat.succ_mul] at this
            omega
          obtain ⟨fn, tmps, assign, body, hy, hR⟩ := HY.out _ ⟨lx + c, ly + m⟩ wr hJ2 hlen
          dsimp only at hy
          gi_wp2
          refine hR.mono ?_
          rintro e W3 (⟨rfl, hJ3, hk3⟩ | ⟨rfl, hJx3⟩)
          · gi_wp2
            go_roundw
            case rel => exact ⟨c + 1, by simp; omega, by omega, by rw [rowC_succ, ← List.append_assoc]; exact hJ3, HB2.out.trans hk3⟩
            case measure => simp [intOf]; omega
          · gi_wp2
            refine bodyPost_ret (results_none rfl _ _ _) rfl ?_
            exact ⟨⟨_, rfl⟩, .inr ⟨_, by have := cellsC_prefix lx ly nx (show c + 1 ≤ nx from hlt2) hlt; rw [rowC_succ, ← List.append_assoc] at this; exact this, hJx3⟩⟩
        · have d2 : decide (lx + (c : Int) ≤ lx + (nx : Int) - 1) = false := decide_eq_false (by omega)
          obtain rfl : c = nx := by omega
          gi_wp2
          exact ⟨⟨m + 1, by simp; omega, by omega, by rw [cellsC_succ]; exact hJ2, HB2.out⟩, by simp [intOf]; omega⟩
    · have d1 : decide (ly + (m : Int) ≤ ly + (ny : Int) - 1) = false := decide_eq_false (by omega)
      obtain rfl : m = ny := by omega
      gi_wp2
      go_end0
      exact ⟨⟨_, rfl⟩, .inl ⟨_, rfl, hJ⟩⟩
set_option maxHeartbeats 4000000 in
/-- Where the box is empty: no cell comes. -/
theorem cell_iter_none (F : Fence) (n : Nat) (hF : F.fn 37) (hro : F.round = none) (v : Value) (k : Nat) (lx ly hx hy : Int) (W : World) (hV : IterV W k lx ly hx hy false) (J : World → Prop) (hJ : J W) :
    CallsIn F n Tryd.prog 37 #[v, .pointer (some ⟨k, 0, none⟩), .pointer (some ⟨k + 1 + 1, 0, none⟩), .pointer (some ⟨k + 1, 0, none⟩)] W fun e W' => (∃ v, e = .returned v) ∧ J W' := by
  refine callsIn_of_wp Tryd.func37 rfl hF ?_ hro
  simp only [Tryd.ntmps37, List.size_toArray, List.length_cons, List.length_nil, Nat.reduceAdd, Nat.reduceSub, Array.replicate_succ, Array.replicate_zero, List.push_toArray, List.append_toArray, List.nil_append, List.cons_append]
  have HV := Lib.hid hV
  obtain ⟨c0, c1, c2, c3, c4⟩ := hV
  gi_wp2
  gi_loopw [5] (fun p wr => p = .int .i32 ly ∧ wr = W) (fun _ _ => 0)
  case atStart => exact ⟨rfl, rfl⟩
  case round =>
    obtain ⟨rfl, rfl⟩ := hrel
    gi_wp2
    go_end0
    exact ⟨⟨_, rfl⟩, hJ⟩
end
set_option maxRecDepth 100000 in
set_option maxHeartbeats 4000000 in
theorem cell_cells.same (a0 a1 a2 a3 lx ly hx hy : Int) (ok : Bool) (w : World) (h : cell_Span.f a0 a1 a2 a3 = some (lx, ly, hx, hy, ok)) :
    Calls Tryd.prog 31 #[.agg #[.int .i32 a0, .int .i32 a1, .int .i32 a2, .int .i32 a3]] w fun e w' => ∃ k, e = .returned (.func (.func 37) #[] #[.pointer (some ⟨k, 0, none⟩), .pointer (some ⟨k + 1 + 1, 0, none⟩), .pointer (some ⟨k + 1, 0, none⟩)]) ∧ IterV w' k lx ly hx hy ok ∧ (k + 3 ≤ w'.heap.size ∧ w.heap.size + 1 ≤ k) ∧ Below w.heap.size w w' := by
  have HS := Lib.hid (fun w => cell_Span.calls a0 a1 a2 a3 lx ly hx hy ok w h)
  clear h
  go_enter Tryd.func31, Tryd.ntmps31
  go_wp2_with fail
  refine (HS.out _).mono ?_
  rintro e w1 ⟨rfl, hb⟩
  have HB := Lib.hid (Below.trans (below_alloc (Below.refl w.heap.size w) _) (hb.mono (by simp)))
  have HS1 : w.heap.size + 1 ≤ w1.heap.size := by have := hb.size; simpa using this
  clear hb
  go_wp2_with fail
  go_ret
  have k0 := blk_alloc (blk_alloc (blk_new w1 (.cells #[.int .i32 lx, .int .i32 ly] 29)) (.cells #[.int .i32 hx, .int .i32 hy] 29)) (.cells #[.bool ok] 4)
  have k1 := blk_alloc (blk_new (w1.alloc (.cells #[.int .i32 lx, .int .i32 ly] 29)) (.cells #[.int .i32 hx, .int .i32 hy] 29)) (.cells #[.bool ok] 4)
  have k2 := blk_new ((w1.alloc (.cells #[.int .i32 lx, .int .i32 ly] 29)).alloc (.cells #[.int .i32 hx, .int .i32 hy] 29)) (.cells #[.bool ok] 4)
  simp only [World.size_alloc] at k1 k2
  have b0 := below_alloc (below_alloc (below_alloc HB.out (.cells #[.int .i32 lx, .int .i32 ly] 29)) (.cells #[.int .i32 hx, .int .i32 hy] 29)) (.cells #[.bool ok] 4)
  exact ⟨w1.heap.size, rfl, ⟨(blk_cell k0 0).trans rfl, (blk_cell k0 1).trans rfl, (blk_cell k1 0).trans rfl, (blk_cell k1 1).trans rfl, (blk_cell k2 0).trans rfl⟩, ⟨by simp, HS1⟩, b0⟩
section
open Go.Shelf
attribute [local go_sem] Oper.semAt_some
/-- What a range over cell.cells(a) gives: all cells, row by row. -/
def CellSeq (F : Fence) (n k : Nat) (xs : List S29) (w : World) : Prop :=
  SeqStopsK F n Tryd.prog 37 #[.pointer (some ⟨k, 0, none⟩), .pointer (some ⟨k + 1 + 1, 0, none⟩), .pointer (some ⟨k + 1, 0, none⟩)] (fun x : S29 => #[Value.agg #[.int .i32 x.f0, .int .i32 x.f1]]) (KeepI k) (fun ys => ys = xs) (fun pre => pre <+: xs) xs.length w
theorem CellSeq.of (F : Fence) (n : Nat) (hF : F.fn 37) (hro : F.round = none) (hn : 1 ≤ n) (k : Nat) (lx ly : Int) (nx ny : Nat) (hlx : -1024 ≤ lx ∧ lx + nx ≤ 1024) (hly : -1024 ≤ ly ∧ ly + ny ≤ 1024) (w : World) (hk : k + 3 ≤ w.heap.size) (hV : IterV w k lx ly (lx + nx - 1) (ly + ny - 1) true) :
    CellSeq F n k (cellsC lx ly nx ny) w := fun l J Jx W hW _ _ hY h0 =>
  cell_iter_in F n hF hro hn l k lx ly nx ny hlx hly J Jx (fun pre x W hJ hl => hY pre x W hJ (by rw [cellsC_len]; exact hl)) W (hV.keep (KeepI.of_below hW hk)) h0
theorem CellSeq.none (F : Fence) (n : Nat) (hF : F.fn 37) (hro : F.round = none) (k : Nat) (lx ly hx hy : Int) (w : World) (hk : k + 3 ≤ w.heap.size) (hV : IterV w k lx ly hx hy false) :
    CellSeq F n k [] w := fun l J Jx W hW _ _ hY h0 =>
  (cell_iter_none F n hF hro _ k lx ly hx hy W (hV.keep (KeepI.of_below hW hk)) (J []) h0).mono fun e W' h => ⟨h.1, .inl ⟨[], rfl, h.2⟩⟩
theorem cell_info : (Tryd.prog.info? 29).map (fun i => (i.zero, i.size, i.bytes)) = some (some (.agg #[.int .i32 0, .int .i32 0]), 2, 8) := by kernel_rfl
theorem cell_two_new (w : World) (x y : Value) (t : TypeId) : ∀ j u, [x, y][j]? = some u → (w.alloc (.cells #[x, y] t)).cell? ((⟨w.heap.size, 0, none⟩ : Addr).add j) = some u := by
  intro j u hj
  have h := blk_cell (blk_new w (.cells #[x, y] t)) j
  have e : ((⟨w.heap.size, 0, none⟩ : Addr).add j) = ⟨w.heap.size, j, none⟩ := by
    simp only [Addr.add, Nat.zero_add]
    split
    · rename_i e; rw [e]
    · rfl
  rw [e, h]
  simpa using hj
theorem k_reps {w : World} {base : Nat} {ok : Nat → Prop} (xs : List S29) : Reps (k29.M w base ok) k29.sz xs (flatC xs) := by
  have h : ∀ n (xs : List S29), xs.length = n → Reps (k29.M w base ok) k29.sz xs (flatC xs) := fun n => by
    induction n with
    | zero =>
      intro xs hx
      obtain rfl := List.eq_nil_of_length_eq_zero hx
      exact Reps.none _ _
    | succ n ih =>
      intro xs hx
      obtain ⟨ys, y, rfl⟩ : ∃ ys y, xs = ys ++ [y] := ⟨xs.dropLast, xs.getLast (by intro e; simp [e] at hx), (List.dropLast_concat_getLast _).symm⟩
      rw [flatC_snoc]
      exact (ih ys (by simpa using hx)).snoc ⟨[.int .i32 y.f0], [.int .i32 y.f1], rfl, rfl, rfl⟩ rfl
  exact h _ xs rfl
set_option maxRecDepth 100000 in
set_option maxHeartbeats 4000000 in
theorem cell_All_in (a0 a1 a2 a3 lx ly hx hy : Int) (ok : Bool) (xs : List S29) (hlen : xs.length ≤ 10000000) (w : World) (h : cell_Span.f a0 a1 a2 a3 = some (lx, ly, hx, hy, ok))
    (hseq : ∀ (k : Nat) (W : World), k + 3 ≤ W.heap.size → IterV W k lx ly hx hy ok → CellSeq Fence.wide 5 k xs W) :
    CallsIn Fence.wide 6 Tryd.prog 18 #[.agg #[.int .i32 a0, .int .i32 a1, .int .i32 a2, .int .i32 a3]] w fun e w' => ∃ v : Value, e = .returned v ∧ w'.ownsRow w.heap.size 29 2 v xs.length (flatC xs) ∧ Below w.heap.size w w' := by
  have HC := Lib.hid (fun w => cell_cells.same a0 a1 a2 a3 lx ly hx hy ok w h)
  clear h
  refine callsIn_of_wp_marks Tryd.func18 rfl trivial ?_ rfl
  simp only [Tryd.ntmps18, List.size_toArray, List.length_cons, List.length_nil, Nat.reduceAdd, Nat.reduceSub, Array.replicate_succ, Array.replicate_zero, List.push_toArray, List.append_toArray, List.nil_append, List.cons_append]
  gi_wp2_with ((refine ⟨trivial, ?_⟩; gi_at_call 31; refine (callsIn_wide.2 (HC.out _)).mono ?_; rintro e w1 ⟨k, rfl, hV, ⟨hk1, hk2⟩, hb⟩))
  have bO : Boxed w1 (w.heap.size + 1) 40 (.slice none 0 0) := by
    have h1 := blk_new (w.alloc (.cells #[.int .i32 a0, .int .i32 a1, .int .i32 a2, .int .i32 a3] 33)) (.cells #[.slice none 0 0] 40)
    simp only [World.size_alloc] at h1
    exact blk_below h1 hb
  have hB0 : Below w.heap.size w w1 := Below.trans (below_alloc (below_alloc (Below.refl w.heap.size w) _) _) (hb.mono (by simp; omega))
  simp only [World.size_alloc] at hk2
  clear hb
  refine wpIn_rangeFunc_ownH rfl (by decide) (gf := 37) (lb := #[.pointer (some ⟨k, 0, none⟩), .pointer (some ⟨k + 1 + 1, 0, none⟩), .pointer (some ⟨k + 1, 0, none⟩)]) rfl trivial (enters_of Tryd.func37 (by kernel_rfl) rfl)
    (hseq k w1 hk1 hV) KeepI.trans (fun W l o o' hl hh _ _ i h1 h2 => World.putObj_heap_other (by omega)) (Below.refl _ _) (fun _ => rfl)
    (fun pre W => (∃ v, Boxed W (w.heap.size + 1) 40 v ∧ W.ownsRow (k + 3) 29 2 v pre.length (flatC pre) ∧ True) ∧ (Below w.heap.size w W ∧ k + 3 ≤ W.heap.size))
    (fun _ _ _ => False)
    (OwnFrom.and (Own.from (holdsRow_own (k + 3) (w.heap.size + 1) 40 29 2 (fun pre => pre.length) flatC (fun _ _ => True)) _) (OwnFrom.and (ownFrom_below (Nat.le_refl _) (by omega)) (fun _ _ _ _ hs hg _ => Nat.le_trans hs hg.size)))
    (fun _ _ _ _ _ hs _ _ => hs)
    ⟨⟨_, bO, World.ownsRow_nil _ _ _ _, trivial⟩, hB0, hk1⟩
    (fun x a' W => ∃ Bx, w.heap.size + 1 < Bx ∧ k + 3 ≤ Bx ∧ W.heap[Bx]? = some (.cells #[.int .i32 x.f0, .int .i32 x.f1] 29 (0, 0)) ∧ a' = { tmps := #[.agg #[.int .i32 a0, .int .i32 a1, .int .i32 a2, .int .i32 a3], .pointer (some ⟨w.heap.size, 0, none⟩), .slice none 0 0, .pointer (some ⟨w.heap.size + 1, 0, none⟩), .pointer (some ⟨Bx, 0, none⟩), .agg #[.int .i32 a0, .int .i32 a1, .int .i32 a2, .int .i32 a3], .func (.func 37) #[] #[.pointer (some ⟨k, 0, none⟩), .pointer (some ⟨k + 1 + 1, 0, none⟩), .pointer (some ⟨k + 1, 0, none⟩)], .agg #[.int .i32 x.f0, .int .i32 x.f1], undef, undef, undef, undef, undef], defers := [] })
    (fun x a' _ X Y row hs hg hr => by
      obtain ⟨Bx, h1, h2, h3, h4⟩ := hs
      refine ⟨Bx, h1, h2, (hg.block Bx (blk_lt h3) (fun e => ?_)).trans h3, h4⟩
      obtain ⟨_, o, ho, hc⟩ := hr Bx e.symm
      rw [h3] at ho; cases ho; cases hc)
    ?assign ?body ?done ?stop
  case assign =>
    rintro l pre x W K ⟨⟨v, bv, hr, _⟩, hB, hk⟩ hK
    gi_wp2
    exact hK _ _ ((KeepsOthers.alloc _ _).from _) (KeepI.of_below ((Below.refl _ W).alloc (Nat.le_refl _) _) hk) ⟨⟨v, bv.alloc _, hr.alloc _, trivial⟩, hB.alloc hB.size _, by simp; omega⟩ ⟨W.heap.size, bv.lt, hk, blk_new _ _, rfl⟩
  case body =>
    rintro l pre x a' W hl ⟨r, hr⟩ ⟨⟨v, bv, hrow, _⟩, hB, hk⟩ ⟨Bx, hBx, hBk, bX, rfl⟩ hlt
    have cv := bv.cell
    have x0 : W.cell? ⟨Bx, 0, none⟩ = some (.int .i32 x.f0) := (blk_cell bX 0).trans rfl
    have x1 : W.cell? ⟨Bx, 1, none⟩ = some (.int .i32 x.f1) := (blk_cell bX 1).trans rfl
    obtain ⟨i0, hi, hz0, hz1, hz2⟩ := info_parts cell_info
    have hsz := hB.size
    gi_wp2_with (gi_at_builtin; refine wpListIn_append_own _ rfl _ _ 40 rfl (k + 3) 29 i0 (.agg #[.int .i32 0, .int .i32 0]) 2 8 Tryd.underlying40 hi hz0 hz1 hz2 rfl (by decide) _ _ _ rfl (hrow.alloc _) ⟨W.heap.size, 0, none⟩ 1 1 [.int .i32 x.f0, .int .i32 x.f1] rfl rfl (cell_two_new _ _ _ _) (by simp [Value.oneCell']) (by unfold maxLen; omega) (by omega) (by simp; omega) ?_; intro v' w2 hown' hgrow _; obtain ⟨g', cap', rfl⟩ := ownsRow_succ hown'; obtain ⟨hv1, hv2, _, hk2, hb2⟩ := bv.appended (by decide) (own_weaken hrow (show w.heap.size ≤ k + 3 by omega)) hB.size (by omega) (own_weaken hown' (show w.heap.size ≤ k + 3 by omega)) hgrow; have hc1 := hv1.cell; have hf1 := hv1.frozen)
    have hr2 := hown'.kept (grownBy_setCell' w2 (w.heap.size + 1) (.slice (some ⟨g', 0, none⟩) (pre.length + 1) cap')) (.inr (hv1.not_row (by decide) hown').symm)
    have hsz2 := hgrow.size
    simp only [World.size_alloc] at hsz2
    refine ⟨hk2.from _, fun i h1 h2 => ?_, ⟨⟨_, hv2, by rw [flatC_snoc, List.length_append]; exact hr2, trivial⟩, hB.trans hb2, ?_⟩⟩
    · exact (Below.heap_setCell w2 ⟨w.heap.size + 1, 0, none⟩ _ i (by simp; omega)).trans ((hgrow.block i (by simp; omega) (fun e => by have := own_base hrow i e.symm; omega)).trans ((below_alloc (Below.refl W.heap.size W) _).block i (by omega)))
    · have := hb2.size
      omega
  case done =>
    rintro D zs W hD rfl ⟨⟨v, bv, hrow, _⟩, hB, hk⟩ hK
    have cv := bv.cell
    gi_wp2
    refine ⟨by simp, .inl ⟨_, _, rfl, run_takeDeferred hK, ?_⟩⟩
    exact ⟨_, results_tmp rfl _ _ _, v, rfl, own_weaken (ownsRow_putObj hrow _ hK rfl) (by omega), hB.trans (belowK_b (w := w) (Nat.le_refl _) W D _ _ (by omega) hK rfl rfl)⟩
  case stop =>
    rintro D c pre W _ _ h _
    exact h.elim
end
theorem cell_All.calls (a0_0 a0_1 a0_2 a0_3 : Int) (r : List S29) (w : World) (h : cell_All.f a0_0 a0_1 a0_2 a0_3 = some r) :
    Calls Tryd.prog 18 #[.agg #[.int .i32 a0_0, .int .i32 a0_1, .int .i32 a0_2, .int .i32 a0_3]] w fun e w' => ∃ v0_ : Value, e = .returned (v0_) ∧ Kd.R k29 29 w' w.heap.size (fun _ => True) v0_ r ∧ Below w.heap.size w w' := by
  have done : ∀ {lx ly hx hy : Int} {ok : Bool} {xs : List S29}, xs.length ≤ 10000000 → cell_Span.f a0_0 a0_1 a0_2 a0_3 = some (lx, ly, hx, hy, ok) →
      (∀ (k : Nat) (W : World), k + 3 ≤ W.heap.size → IterV W k lx ly hx hy ok → CellSeq Fence.wide 5 k xs W) →
      Calls Tryd.prog 18 #[.agg #[.int .i32 a0_0, .int .i32 a0_1, .int .i32 a0_2, .int .i32 a0_3]] w fun e w' => ∃ v0_ : Value, e = .returned (v0_) ∧ Kd.R k29 29 w' w.heap.size (fun _ => True) v0_ xs ∧ Below w.heap.size w w' := fun hl hs hq => by
    refine (callsIn_wide (n := 6)).1 ((cell_All_in a0_0 a0_1 a0_2 a0_3 _ _ _ _ _ _ hl w hs hq).mono ?_)
    rintro e w' ⟨v, rfl, ho, hb⟩
    exact ⟨v, rfl, ⟨fun _ _ => trivial, flatC _, ho, k_reps _⟩, hb⟩
  unfold cell_All.f at h
  split at h
  · rename_i c
    obtain ⟨c0, c1, c2, c3⟩ := c
    have c0 := i32B_iff.mp c0
    have c1 := i32B_iff.mp c1
    have c2 := i32B_iff.mp c2
    have c3 := i32B_iff.mp c3
    have hE : box_Empty.f a0_0 a0_1 a0_2 a0_3 = some (decide (a0_0 > a0_2 ∨ a0_1 > a0_3)) := by
      unfold box_Empty.f
      by_cases h : a0_0 > a0_2
      · rw [if_pos h, decide_eq_true (Or.inl h)]
      · rw [if_neg h]; congr 1; rw [decide_eq_decide]; omega
    split at h
    · rename_i he
      obtain rfl := Option.some.inj h
      refine done (lx := 0) (ly := 0) (hx := 0) (hy := 0) (ok := false) (by simp) ?_ (fun k W hk hV => CellSeq.none _ _ trivial rfl k _ _ _ _ W hk hV)
      unfold cell_Span.f
      rw [hE, decide_eq_true he]
      rfl
    · rename_i he
      obtain rfl := Option.some.inj h
      obtain ⟨nx, hnx⟩ : ∃ n : Nat, (n : Int) = a0_2 / 4194304 + 1 - a0_0 / 4194304 := ⟨(a0_2 / 4194304 + 1 - a0_0 / 4194304).toNat, by omega⟩
      obtain ⟨ny, hny⟩ : ∃ n : Nat, (n : Int) = a0_3 / 4194304 + 1 - a0_1 / 4194304 := ⟨(a0_3 / 4194304 + 1 - a0_1 / 4194304).toNat, by omega⟩
      rw [← hnx, ← hny, Int.toNat_natCast, Int.toNat_natCast]
      refine done (lx := a0_0 / 4194304) (ly := a0_1 / 4194304) (hx := a0_0 / 4194304 + nx - 1) (hy := a0_1 / 4194304 + ny - 1) (ok := true) ?_ ?_ (fun k W hk hV => CellSeq.of _ _ trivial rfl (by decide) k _ _ nx ny (by omega) (by omega) W hk hV)
      · rw [cellsC_len]
        have := Nat.mul_le_mul (show ny ≤ 2048 by omega) (show nx ≤ 2048 by omega)
        omega
      · unfold cell_Span.f cell_Of.f
        rw [hE, decide_eq_false he]
        simp only [Option.bind_some, Bool.false_eq_true, if_false, Option.some.injEq, Prod.mk.injEq, true_and, and_true]
        omega
  · cases h

end Go.Proofs.YticjhncpglcgnaaDoor.Q
