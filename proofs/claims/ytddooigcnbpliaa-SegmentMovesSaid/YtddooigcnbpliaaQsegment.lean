-- PRINTED by print.py (a twelfth state) out of the translation. Not trusted: Lean checks it.
import Derived.Test.YtddooigcnbpliaaQ0
import Derived.Test.YtddooigcnbpliaaMkeep
import Derived.Test.YtddooigcnbpliaaQpoint
import Derived.Test.YtddooigcnbpliaaQvec
import Derived.Deep.RegionHeld3
import Derived.LoopN
import Derived.Test.YtddooigcnbpliaaMspec
import Derived.Test.YtddooigcnbpliaaMtwo
namespace Go.Proofs.Ytddooigcnbpliaa.Q
open Go.RowKit.Below renaming refl → lR
open Go.RowKit Go.Proofs.YtddooigcnbpliaaW.PrintWords Go.Proofs.YtddooigcnbpliaaW.PrintLast Go.Proofs.YtddooigcnbpliaaW.PrintMore
open Go.Proofs.YtddooigcnbpliaaW.PrintWords renaming blk_drewN → bN, blk_drew → bD, blk_alloc → bA, blk_below → bB, blk_cell → bC, blk_frozen → bF, blk_lt → bL, below_alloc → lA, pw_below_drewN → lN, below_drew1 → lD, below_set → lS, below_step → lT, below_size → lZ, Aside0.mk → aM
open Bool renaming true → T, false → F
attribute [local go_sem] max2_int min2_int max_two min_two max_three min_three max_four min_four   -- for this text's walks alone
set_option linter.unusedVariables false
set_option linter.unusedSimpArgs false

/-! ### segment_choose: function 17 (given) -/
-- IMPORT Derived.Test.YtddooigcnbpliaaMspec
-- IMPORT Derived.Deep.RegionHeld3
-- IMPORT Derived.LoopN
-- NEEDS billiard/point.Nearest
-- NEEDS billiard/vec.LengthSq
-- NEEDS billiard/vec.Diff
/-- The closure leaves all other blocks as they were. -/
def Kept3 (k : Nat) (w w' : World) : Prop := ∀ b o, b < w.heap.size → k + 3 ≤ b → w'.cell? ⟨b, o, none⟩ = w.cell? ⟨b, o, none⟩
/-- What choose keeps: the blocks below B, and the three captured results in the blocks k, k + 1, k + 2. -/
structure Seg (B k : Nat) (W0 W : World) (a0 a1 b0 b1 l : Int) : Prop where
 below : Below B W0 W
 size : k + 3 ≤ W.heap.size
 base : B ≤ k
 c0 : W.cell? ⟨k, 0, none⟩ = some (.int .i32 a0)
 c1 : W.cell? ⟨k, 1, none⟩ = some (.int .i32 a1)
 c2 : W.cell? ⟨k + 1, 0, none⟩ = some (.int .i32 b0)
 c3 : W.cell? ⟨k + 1, 1, none⟩ = some (.int .i32 b1)
 c4 : W.cell? ⟨k + 2, 0, none⟩ = some (.int .u64 l)
 f0 : W.frozen? ⟨k, 0, none⟩ = false
 f1 : W.frozen? ⟨k, 1, none⟩ = false
 f2 : W.frozen? ⟨k + 1, 0, none⟩ = false
 f3 : W.frozen? ⟨k + 1, 1, none⟩ = false
 f4 : W.frozen? ⟨k + 2, 0, none⟩ = false
theorem Seg.next {B k : Nat} {W0 W W' : World} {a0 a1 b0 b1 l : Int} (h : Seg B k W0 W a0 a1 b0 b1 l) {n : Nat} (hn : k + 3 ≤ n) (hs : n ≤ W'.heap.size) (hb : Below n W W') : Seg B k W0 W' a0 a1 b0 b1 l := by
 obtain ⟨h1, h2, h3, c0, c1, c2, c3, c4, f0, f1, f2, f3, f4⟩ := h
 have cc : ∀ b o, b < n → W'.cell? ⟨b, o, none⟩ = W.cell? ⟨b, o, none⟩ := fun b o h => hb.cell (p := ⟨b, o, none⟩) h
 have ff : ∀ b o, b < n → W'.frozen? ⟨b, o, none⟩ = W.frozen? ⟨b, o, none⟩ := fun b o h => hb.frozen (p := ⟨b, o, none⟩) h
 refine ⟨h1.trans (hb.mono (by omega)), by omega, h3, ?_, ?_, ?_, ?_, ?_, ?_, ?_, ?_, ?_, ?_⟩
 all_goals first | rw [cc _ _ (by omega)]; assumption | rw [ff _ _ (by omega)]; assumption
theorem Seg.boxed {B k : Nat} {W0 w W' : World} {a0 a1 b0 b1 l : Int} (h : Seg B k W0 w a0 a1 b0 b1 l) (x0 x1 y0 y1 : Int) (hb : Below ((w.alloc (.cells #[.int .i32 x0, .int .i32 x1] 23)).alloc (.cells #[.int .i32 y0, .int .i32 y1] 23)).heap.size ((w.alloc (.cells #[.int .i32 x0, .int .i32 x1] 23)).alloc (.cells #[.int .i32 y0, .int .i32 y1] 23)) W') :
  Seg B k W0 W' a0 a1 b0 b1 l ∧ w.heap.size + 2 ≤ W'.heap.size ∧ W'.cell? ⟨w.heap.size, 0, none⟩ = some (.int .i32 x0) ∧ W'.cell? ⟨w.heap.size, 1, none⟩ = some (.int .i32 x1) ∧ W'.cell? ⟨w.heap.size + 1, 0, none⟩ = some (.int .i32 y0) ∧ W'.cell? ⟨w.heap.size + 1, 1, none⟩ = some (.int .i32 y1) ∧ Kept3 k w W' := by
 have hs := hb.size
 have hk := h.size
 simp only [World.size_alloc] at hs
 have cc : ∀ b o, b < w.heap.size + 2 → W'.cell? ⟨b, o, none⟩ = _ := fun b o h => hb.cell (p := ⟨b, o, none⟩) (by simpa using h)
 refine ⟨h.next (n := w.heap.size) hk (by omega) ((((Below.refl _ _).alloc (Nat.le_refl _) _).alloc (by simp) _).trans (hb.mono (by simp; omega))), by omega, ?_, ?_, ?_, ?_, ?_⟩
 rotate_right 1
 ·intro b o hb hk
  rw [cc _ _ (by omega)]
  exact ((((Below.refl w.heap.size w).alloc (Nat.le_refl _) _).alloc (by simp) _).cell (p := ⟨b, o, none⟩) hb)
 all_goals (rw [cc _ _ (by omega)]; simp [go_sem])
theorem kept3_stored {k : Nat} {w0 w : World} (h : Kept3 k w0 w) {x0 x1 y0 y1 d : Value} : Kept3 k w0 (((((w.setCell ⟨k, 0, none⟩ x0).setCell ⟨k, 1, none⟩ x1).setCell ⟨k + 1, 0, none⟩ y0).setCell ⟨k + 1, 1, none⟩ y1).setCell ⟨k + 2, 0, none⟩ d).drew := by
 intro b o hb hk
 rw [← h b o hb hk]
 have e : ∀ (W : World) (j i : Nat) (v : Value), j ≠ b → (W.setCell ⟨j, i, none⟩ v).cell? ⟨b, o, none⟩ = W.cell? ⟨b, o, none⟩ := fun W j i v hj => World.cell?_setCell_far _ _ _ _ hj
 have ed : ∀ W : World, W.drew.cell? ⟨b, o, none⟩ = W.cell? ⟨b, o, none⟩ := fun _ => rfl
 rw [ed]
 rw [e _ _ _ _ (by omega), e _ _ _ _ (by omega), e _ _ _ _ (by omega), e _ _ _ _ (by omega), e _ _ _ _ (by omega)]
theorem Seg.stored {B k : Nat} {W0 w : World} {a0 a1 b0 b1 l : Int} (h : Seg B k W0 w a0 a1 b0 b1 l) (x0 x1 y0 y1 d : Int) :
  Seg B k W0 (((((w.setCell ⟨k, 0, none⟩ (.int .i32 x0)).setCell ⟨k, 1, none⟩ (.int .i32 x1)).setCell ⟨k + 1, 0, none⟩ (.int .i32 y0)).setCell ⟨k + 1, 1, none⟩ (.int .i32 y1)).setCell ⟨k + 2, 0, none⟩ (.int .u64 d)).drew x0 x1 y0 y1 d := by
 obtain ⟨e1, e2, e3, e4, e5, e6, e7, e8, e9, e10, e11, e12, e13⟩ := h
 refine ⟨(((((e1.setCell (by simpa using e3) _).setCell (by simpa using e3) _).setCell (by simp; omega) _).setCell (by simp; omega) _).setCell (by simp; omega) _).drew, by simpa using e2, e3, ?_, ?_, ?_, ?_, ?_, ?_, ?_, ?_, ?_, ?_⟩
 all_goals simp [go_sem, e4, e5, e6, e7, e8, e9, e10, e11, e12, e13]
set_option maxHeartbeats 2000000 in
theorem seg_consider.less (x0 x1 y0 y1 d a0 a1 b0 b1 l : Int) (dx dy : Int) (B k : Nat) (W0 w : World) (hd : ∀ w, Calls Try.prog 23 #[.agg #[.int .i32 x0, .int .i32 x1], .agg #[.int .i32 y0, .int .i32 y1]] w fun e w' => e = .returned (.tuple #[.int .i64 dx, .int .i64 dy]) ∧ Below w.heap.size w w')
  (hl : ∀ w, Calls Try.prog 22 #[.int .i64 dx, .int .i64 dy] w fun e w' => e = .returned (.int .u64 d) ∧ Drawn0 w w') (hs : Seg B k W0 w a0 a1 b0 b1 l) (hlt : d < l) :
  Calls Try.prog 21 #[.agg #[.int .i32 x0, .int .i32 x1], .agg #[.int .i32 y0, .int .i32 y1], .pointer (some ⟨k + 2, 0, none⟩), .pointer (some ⟨k, 0, none⟩), .pointer (some ⟨k + 1, 0, none⟩)] w fun e w' => e = .returned (.tuple #[]) ∧ Seg B k W0 w' x0 x1 y0 y1 d ∧ Kept3 k w w' := by
 have HD := Lib.hid hd
 have HL := Lib.hid hl
 have c1 : decide (d < l) = true := decide_eq_true hlt
 clear hd hl hlt
 go_enter Try.func21, Try.ntmps21
 go_wp2_with fail
 refine (HD.out _).mono ?_
 rintro e w1 ⟨rfl, hb1⟩
 go_wp2_with fail
 refine (HL.out _).mono ?_
 rintro e w2 ⟨rfl, n2, rfl⟩
 have hb2 := hb1.trans (show Below _ w1 (w1.drewN n2) from ⟨rfl, rfl, rfl, Nat.le_refl _, fun _ _ => rfl⟩)
 generalize w1.drewN n2 = w2 at *
 clear hb1 HD HL
 obtain ⟨⟨e1, e2, e3, e4, e5, e6, e7, e8, e9, e10, e11, e12, e13⟩, g1, g2, g3, g4, g5, g6⟩ := hs.boxed x0 x1 y0 y1 hb2
 have hks := hs.size
 have G6 := Lib.hid g6
 clear hs hb2 g6
 go_wp2_with fail
 go_region
 go_end0
 exact ⟨rfl, Seg.stored ⟨e1, e2, e3, e4, e5, e6, e7, e8, e9, e10, e11, e12, e13⟩ _ _ _ _ _, kept3_stored G6.out⟩
set_option maxHeartbeats 2000000 in
theorem seg_consider.not (x0 x1 y0 y1 d a0 a1 b0 b1 l : Int) (dx dy : Int) (B k : Nat) (W0 w : World) (hd : ∀ w, Calls Try.prog 23 #[.agg #[.int .i32 x0, .int .i32 x1], .agg #[.int .i32 y0, .int .i32 y1]] w fun e w' => e = .returned (.tuple #[.int .i64 dx, .int .i64 dy]) ∧ Below w.heap.size w w')
  (hl : ∀ w, Calls Try.prog 22 #[.int .i64 dx, .int .i64 dy] w fun e w' => e = .returned (.int .u64 d) ∧ Drawn0 w w') (hs : Seg B k W0 w a0 a1 b0 b1 l) (hlt : ¬ d < l) :
  Calls Try.prog 21 #[.agg #[.int .i32 x0, .int .i32 x1], .agg #[.int .i32 y0, .int .i32 y1], .pointer (some ⟨k + 2, 0, none⟩), .pointer (some ⟨k, 0, none⟩), .pointer (some ⟨k + 1, 0, none⟩)] w fun e w' => e = .returned (.tuple #[]) ∧ Seg B k W0 w' a0 a1 b0 b1 l ∧ Kept3 k w w' := by
 have HD := Lib.hid hd
 have HL := Lib.hid hl
 have c1 : decide (d < l) = false := decide_eq_false hlt
 clear hd hl hlt
 go_enter Try.func21, Try.ntmps21
 go_wp2_with fail
 refine (HD.out _).mono ?_
 rintro e w1 ⟨rfl, hb1⟩
 go_wp2_with fail
 refine (HL.out _).mono ?_
 rintro e w2 ⟨rfl, n2, rfl⟩
 have hb2 := hb1.trans (show Below _ w1 (w1.drewN n2) from ⟨rfl, rfl, rfl, Nat.le_refl _, fun _ _ => rfl⟩)
 generalize w1.drewN n2 = w2 at *
 clear hb1 HD HL
 obtain ⟨⟨e1, e2, e3, e4, e5, e6, e7, e8, e9, e10, e11, e12, e13⟩, g1, g2, g3, g4, g5, g6⟩ := hs.boxed x0 x1 y0 y1 hb2
 have hks := hs.size
 have G6 := Lib.hid g6
 clear hs hb2 g6
 go_wp2_with fail
 go_end0
 exact ⟨rfl, ⟨e1, e2, e3, e4, e5, e6, e7, e8, e9, e10, e11, e12, e13⟩, G6.out⟩
/-- One candidate: what was chosen, or a nearer pair. -/
def segStep (s : Int × Int × Int × Int × Int) (x0 x1 y0 y1 d : Int) : Int × Int × Int × Int × Int := if d < s.2.2.2.2 then (x0, x1, y0, y1, d) else s
def SegS (B k : Nat) (W0 W : World) (s : Int × Int × Int × Int × Int) : Prop := Seg B k W0 W s.1 s.2.1 s.2.2.1 s.2.2.2.1 s.2.2.2.2
theorem seg_consider.any (x0 x1 y0 y1 d : Int) (s : Int × Int × Int × Int × Int) (dx dy : Int) (B k : Nat) (W0 w : World) (hd : ∀ w, Calls Try.prog 23 #[.agg #[.int .i32 x0, .int .i32 x1], .agg #[.int .i32 y0, .int .i32 y1]] w fun e w' => e = .returned (.tuple #[.int .i64 dx, .int .i64 dy]) ∧ Below w.heap.size w w')
  (hl : ∀ w, Calls Try.prog 22 #[.int .i64 dx, .int .i64 dy] w fun e w' => e = .returned (.int .u64 d) ∧ Drawn0 w w') (hs : SegS B k W0 w s) :
  Calls Try.prog 21 #[.agg #[.int .i32 x0, .int .i32 x1], .agg #[.int .i32 y0, .int .i32 y1], .pointer (some ⟨k + 2, 0, none⟩), .pointer (some ⟨k, 0, none⟩), .pointer (some ⟨k + 1, 0, none⟩)] w fun e w' => e = .returned (.tuple #[]) ∧ SegS B k W0 w' (segStep s x0 x1 y0 y1 d) ∧ Kept3 k w w' := by
 unfold segStep
 by_cases c : d < s.2.2.2.2
 ·rw [if_pos c]
  exact seg_consider.less x0 x1 y0 y1 d _ _ _ _ _ dx dy B k W0 w hd hl hs c
 ·rw [if_neg c]
  exact seg_consider.not x0 x1 y0 y1 d _ _ _ _ _ dx dy B k W0 w hd hl hs c
/-- The closure's contract for one candidate. -/
def Cons (x0 x1 y0 y1 d : Int) : Prop := ∀ (B k : Nat) (W0 : World) (s : Int × Int × Int × Int × Int) (w : World), SegS B k W0 w s → Calls Try.prog 21 #[.agg #[.int .i32 x0, .int .i32 x1], .agg #[.int .i32 y0, .int .i32 y1], .pointer (some ⟨k + 1 + 1, 0, none⟩), .pointer (some ⟨k, 0, none⟩), .pointer (some ⟨k + 1, 0, none⟩)] w fun e w' => e = .returned (.tuple #[]) ∧ SegS B k W0 w' (segStep s x0 x1 y0 y1 d) ∧ Kept3 k w w'
def NearC (p0 p1 q0 q1 c0 c1 n0 n1 : Int) : Prop := ∀ w, Calls Try.prog 24 #[.agg #[.int .i32 p0, .int .i32 p1], .agg #[.int .i32 q0, .int .i32 q1], .agg #[.int .i32 c0, .int .i32 c1]] w fun e w' => e = .returned (.agg #[.int .i32 n0, .int .i32 n1]) ∧ Below w.heap.size w w'
def SegA (w : World) (p0 p1 q0 q1 u0 u1 v0 v1 : Int) : World := (((w.alloc (.cells #[.int .i32 p0, .int .i32 p1] 23)).alloc (.cells #[.int .i32 q0, .int .i32 q1] 23)).alloc (.cells #[.int .i32 u0, .int .i32 u1] 23)).alloc (.cells #[.int .i32 v0, .int .i32 v1] 23)
theorem SegS.start (w : World) (p0 p1 q0 q1 u0 u1 v0 v1 : Int) : SegS (w.heap.size + 1 + 1 + 1 + 1) (w.heap.size + 1 + 1 + 1 + 1) (SegA w p0 p1 q0 q1 u0 u1 v0 v1)
  ((((SegA w p0 p1 q0 q1 u0 u1 v0 v1).alloc (.cells #[.int .i32 0, .int .i32 0] 23)).alloc (.cells #[.int .i32 0, .int .i32 0] 23)).alloc (.cells #[.int .u64 18446744073709551615] 31)) (0, 0, 0, 0, 18446744073709551615) := by
 unfold SegA
 refine ⟨(((Below.refl _ _).alloc (by simp) _).alloc (by simp) _).alloc (by simp) _, by simp, by omega, ?_, ?_, ?_, ?_, ?_, ?_, ?_, ?_, ?_, ?_⟩
 all_goals simp [go_sem]
theorem SegS.args {w W : World} {p0 p1 q0 q1 u0 u1 v0 v1 : Int} {k : Nat} {s : Int × Int × Int × Int × Int} (h : SegS (w.heap.size + 1 + 1 + 1 + 1) k (SegA w p0 p1 q0 q1 u0 u1 v0 v1) W s) :
  (W.cell? ⟨w.heap.size, 0, none⟩ = some (.int .i32 p0) ∧ W.cell? ⟨w.heap.size, 1, none⟩ = some (.int .i32 p1)) ∧ (W.cell? ⟨w.heap.size + 1, 0, none⟩ = some (.int .i32 q0) ∧ W.cell? ⟨w.heap.size + 1, 1, none⟩ = some (.int .i32 q1)) ∧
  (W.cell? ⟨w.heap.size + 1 + 1, 0, none⟩ = some (.int .i32 u0) ∧ W.cell? ⟨w.heap.size + 1 + 1, 1, none⟩ = some (.int .i32 u1)) ∧ (W.cell? ⟨w.heap.size + 1 + 1 + 1, 0, none⟩ = some (.int .i32 v0) ∧ W.cell? ⟨w.heap.size + 1 + 1 + 1, 1, none⟩ = some (.int .i32 v1)) := by
 obtain ⟨hc, hf⟩ := kept_cell h.below
 refine ⟨⟨?_, ?_⟩, ⟨?_, ?_⟩, ⟨?_, ?_⟩, ⟨?_, ?_⟩⟩
 all_goals (rw [hc _ _ (by omega)]; simp [SegA, go_sem])
theorem SegS.more {B k : Nat} {W0 W W' : World} {s : Int × Int × Int × Int × Int} (h : SegS B k W0 W s) (hb : Below W.heap.size W W') : SegS B k W0 W' s := Seg.next h (n := W.heap.size) h.size hb.size hb
theorem SegS.drew {B k : Nat} {W0 W : World} {s : Int × Int × Int × Int × Int} (h : SegS B k W0 W s) : SegS B k W0 W.drew s := h.more ⟨rfl, rfl, rfl, Nat.le_refl _, fun _ _ => rfl⟩
/-- A round's own block: the end that is considered. -/
theorem SegS.fin {B k : Nat} {W0 W : World} {s : Int × Int × Int × Int × Int} (h : SegS B k W0 W s) (c0 c1 : Int) : SegS B k W0 (W.alloc (.cells #[.int .i32 c0, .int .i32 c1] 23)) s ∧ ((W.alloc (.cells #[.int .i32 c0, .int .i32 c1] 23)).cell? ⟨W.heap.size, 0, none⟩ = some (.int .i32 c0) ∧ (W.alloc (.cells #[.int .i32 c0, .int .i32 c1] 23)).cell? ⟨W.heap.size, 1, none⟩ = some (.int .i32 c1)) := ⟨h.more ((Below.refl _ _).alloc (Nat.le_refl _) _), by simp [go_sem], by simp [go_sem]⟩
theorem arr2_at0 (a b c d : Value) (w : World) : (Instr.index 47 (.agg #[a, b, c, d]) (.int .i64 0)).run Try.prog w = .ok (.agg #[a, b]) w := by
 have h : Try.prog.underlying 47 = some (.array 2 23) := by kernel_rfl
 simp [Instr.index, run_underlying h, asIntOf, go_sem]
theorem arr2_at1 (a b c d : Value) (w : World) : (Instr.index 47 (.agg #[a, b, c, d]) (.int .i64 1)).run Try.prog w = .ok (.agg #[c, d]) w := by
 have h : Try.prog.underlying 47 = some (.array 2 23) := by kernel_rfl
 simp [Instr.index, run_underlying h, asIntOf, go_sem]
set_option maxHeartbeats 2000000 in
theorem segment_choose.same (p0 p1 q0 q1 u0 u1 v0 v1 x0 x1 y0 y1 z0 z1 t0 t1 d1 d2 d3 d4 : Int) (w : World)
  (n1 : NearC u0 u1 v0 v1 p0 p1 x0 x1) (n2 : NearC u0 u1 v0 v1 q0 q1 y0 y1) (n3 : NearC p0 p1 q0 q1 u0 u1 z0 z1) (n4 : NearC p0 p1 q0 q1 v0 v1 t0 t1)
  (k1 : Cons p0 p1 x0 x1 d1) (k2 : Cons q0 q1 y0 y1 d2) (k3 : Cons z0 z1 u0 u1 d3) (k4 : Cons t0 t1 v0 v1 d4) (s1 s2 s3 s4 : Int × Int × Int × Int × Int)
  (e1 : segStep (0, 0, 0, 0, 18446744073709551615) p0 p1 x0 x1 d1 = s1) (e2 : segStep s1 q0 q1 y0 y1 d2 = s2) (e3 : segStep s2 z0 z1 u0 u1 d3 = s3) (e4 : segStep s3 t0 t1 v0 v1 d4 = s4) :
  Calls Try.prog 17 #[.agg #[.int .i32 p0, .int .i32 p1], .agg #[.int .i32 q0, .int .i32 q1], .agg #[.int .i32 u0, .int .i32 u1], .agg #[.int .i32 v0, .int .i32 v1]] w fun e w' => e = .returned (.tuple #[.agg #[.int .i32 s4.1, .int .i32 s4.2.1], .agg #[.int .i32 s4.2.2.1, .int .i32 s4.2.2.2.1], .int .u64 s4.2.2.2.2]) ∧ Below w.heap.size w w' := by
 have N1 := Lib.hid n1
 have N2 := Lib.hid n2
 have N3 := Lib.hid n3
 have N4 := Lib.hid n4
 have K1 := Lib.hid k1
 have K2 := Lib.hid k2
 have K3 := Lib.hid k3
 have K4 := Lib.hid k4
 have E1 := Lib.hid e1
 have E2 := Lib.hid e2
 have E3 := Lib.hid e3
 have E4 := Lib.hid e4
 clear n1 n2 n3 n4 k1 k2 k3 k4 e1 e2 e3 e4
 go_enter Try.func17, Try.ntmps17
 go_wp2_with fail
 have hs0 := SegS.start w p0 p1 q0 q1 u0 u1 v0 v1
 have hsz := hs0.size
 generalize hW : (((SegA w p0 p1 q0 q1 u0 u1 v0 v1).alloc (.cells #[.int .i32 0, .int .i32 0] 23)).alloc (.cells #[.int .i32 0, .int .i32 0] 23)).alloc (.cells #[.int .u64 18446744073709551615] 31) = W at hs0 hsz
 unfold SegA at hW
 rw [hW]
 clear hW
 have i0 := fun W => arr2_at0 (.int .i32 p0) (.int .i32 p1) (.int .i32 q0) (.int .i32 q1) W
 have i1 := fun W => arr2_at1 (.int .i32 p0) (.int .i32 p1) (.int .i32 q0) (.int .i32 q1) W
 have i2 := fun W => arr2_at0 (.int .i32 u0) (.int .i32 u1) (.int .i32 v0) (.int .i32 v1) W
 have i3 := fun W => arr2_at1 (.int .i32 u0) (.int .i32 u1) (.int .i32 v0) (.int .i32 v1) W
 refine wp_loop_rounds 3 ?_
 rw [rounds_succ]
 go_wp2_with fail
 obtain ⟨ha1, ca1⟩ := hs0.fin p0 p1
 have za1 : W.heap.size < (W.alloc (.cells #[.int .i32 p0, .int .i32 p1] 23)).heap.size := by simp
 generalize W.alloc (.cells #[.int .i32 p0, .int .i32 p1] 23) = V1a at ha1 ca1 za1 ⊢
 obtain ⟨ga1, ga2, ga3, ga4⟩ := ha1.args
 clear hs0
 go_region_held3 (fun V => (V.cell? ⟨W.heap.size, 0, none⟩ = some (.int .i32 p0) ∧ V.cell? ⟨W.heap.size, 1, none⟩ = some (.int .i32 p1)) ∧ (V.cell? ⟨w.heap.size + 1 + 1, 0, none⟩ = some (.int .i32 u0) ∧ V.cell? ⟨w.heap.size + 1 + 1, 1, none⟩ = some (.int .i32 u1)) ∧ (V.cell? ⟨w.heap.size + 1 + 1 + 1, 0, none⟩ = some (.int .i32 v0) ∧ V.cell? ⟨w.heap.size + 1 + 1 + 1, 1, none⟩ = some (.int .i32 v1)))
  (first | exact ⟨ca1, ga3, ga4⟩ | exact ⟨cb1, b3, b4⟩ | exact ⟨cc1, gc3, gc4⟩)
  (first
  | (go_at_call 24; refine (N1.out _).mono ?_; rintro e V1b ⟨rfl, hb⟩; have hb1 := ha1.drew.more hb; obtain ⟨b1, b2, b3, b4⟩ := hb1.args; have cb1 : (V1b.cell? ⟨W.heap.size, 0, none⟩ = some (.int .i32 p0) ∧ V1b.cell? ⟨W.heap.size, 1, none⟩ = some (.int .i32 p1)) := ⟨((kept_cell hb).1 _ _ za1).trans ca1.1, ((kept_cell hb).1 _ _ za1).trans ca1.2⟩; have zb1 := Nat.lt_of_lt_of_le za1 hb.size)
  | (go_at_call 21; refine (K1.out _ _ _ _ _ hb1).mono ?_; rintro e V1c ⟨rfl, hs1, hk⟩; obtain ⟨gc1, gc2, gc3, gc4⟩ := hs1.args; have cc1 : (V1c.cell? ⟨W.heap.size, 0, none⟩ = some (.int .i32 p0) ∧ V1c.cell? ⟨W.heap.size, 1, none⟩ = some (.int .i32 p1)) := ⟨(hk _ _ zb1 hsz).trans cb1.1, (hk _ _ zb1 hsz).trans cb1.2⟩))
 rw [E1.out] at hs1
 have hsz := hs1.size
 rename_i hHeld
 clear hHeld ca1 cb1 cc1 za1 zb1 ha1 hb1 hk hb ga1 ga2 ga3 ga4 b1 b2 b3 b4
 go_wp2_with fail
 rw [rounds_succ]
 go_wp2_with fail
 obtain ⟨ha2, ca2⟩ := hs1.fin q0 q1
 have za2 : V1c.heap.size < (V1c.alloc (.cells #[.int .i32 q0, .int .i32 q1] 23)).heap.size := by simp
 generalize V1c.alloc (.cells #[.int .i32 q0, .int .i32 q1] 23) = V2a at ha2 ca2 za2 ⊢
 obtain ⟨ga1, ga2, ga3, ga4⟩ := ha2.args
 clear hs1
 go_region_held3 (fun V => (V.cell? ⟨V1c.heap.size, 0, none⟩ = some (.int .i32 q0) ∧ V.cell? ⟨V1c.heap.size, 1, none⟩ = some (.int .i32 q1)) ∧ (V.cell? ⟨w.heap.size + 1 + 1, 0, none⟩ = some (.int .i32 u0) ∧ V.cell? ⟨w.heap.size + 1 + 1, 1, none⟩ = some (.int .i32 u1)) ∧ (V.cell? ⟨w.heap.size + 1 + 1 + 1, 0, none⟩ = some (.int .i32 v0) ∧ V.cell? ⟨w.heap.size + 1 + 1 + 1, 1, none⟩ = some (.int .i32 v1)))
  (first | exact ⟨ca2, ga3, ga4⟩ | exact ⟨cb2, b3, b4⟩ | exact ⟨cc2, gc3, gc4⟩)
  (first
  | (go_at_call 24; refine (N2.out _).mono ?_; rintro e V2b ⟨rfl, hb⟩; have hb2 := ha2.drew.more hb; obtain ⟨b1, b2, b3, b4⟩ := hb2.args; have cb2 : (V2b.cell? ⟨V1c.heap.size, 0, none⟩ = some (.int .i32 q0) ∧ V2b.cell? ⟨V1c.heap.size, 1, none⟩ = some (.int .i32 q1)) := ⟨((kept_cell hb).1 _ _ za2).trans ca2.1, ((kept_cell hb).1 _ _ za2).trans ca2.2⟩; have zb2 := Nat.lt_of_lt_of_le za2 hb.size)
  | (go_at_call 21; refine (K2.out _ _ _ _ _ hb2).mono ?_; rintro e V2c ⟨rfl, hs2, hk⟩; obtain ⟨gc1, gc2, gc3, gc4⟩ := hs2.args; have cc2 : (V2c.cell? ⟨V1c.heap.size, 0, none⟩ = some (.int .i32 q0) ∧ V2c.cell? ⟨V1c.heap.size, 1, none⟩ = some (.int .i32 q1)) := ⟨(hk _ _ zb2 hsz).trans cb2.1, (hk _ _ zb2 hsz).trans cb2.2⟩))
 rw [E2.out] at hs2
 have hsz := hs2.size
 rename_i hHeld
 clear hHeld ca2 cb2 cc2 za2 zb2 ha2 hb2 hk hb ga1 ga2 ga3 ga4 b1 b2 b3 b4
 go_wp2_with fail
 rw [rounds_succ]
 go_wp2_with fail
 refine wp_loop_rounds 3 ?_
 rw [rounds_succ]
 go_wp2_with fail
 obtain ⟨ha3, ca3⟩ := hs2.fin u0 u1
 have za3 : V2c.heap.size < (V2c.alloc (.cells #[.int .i32 u0, .int .i32 u1] 23)).heap.size := by simp
 generalize V2c.alloc (.cells #[.int .i32 u0, .int .i32 u1] 23) = V3a at ha3 ca3 za3 ⊢
 obtain ⟨ga1, ga2, ga3, ga4⟩ := ha3.args
 clear hs2
 go_region_held3 (fun V => (V.cell? ⟨V2c.heap.size, 0, none⟩ = some (.int .i32 u0) ∧ V.cell? ⟨V2c.heap.size, 1, none⟩ = some (.int .i32 u1)) ∧ (V.cell? ⟨w.heap.size, 0, none⟩ = some (.int .i32 p0) ∧ V.cell? ⟨w.heap.size, 1, none⟩ = some (.int .i32 p1)) ∧ (V.cell? ⟨w.heap.size + 1, 0, none⟩ = some (.int .i32 q0) ∧ V.cell? ⟨w.heap.size + 1, 1, none⟩ = some (.int .i32 q1)))
  (first | exact ⟨ca3, ga1, ga2⟩ | exact ⟨cb3, b1, b2⟩ | exact ⟨cc3, gc1, gc2⟩)
  (first
  | (go_at_call 24; refine (N3.out _).mono ?_; rintro e V3b ⟨rfl, hb⟩; have hb3 := ha3.drew.more hb; obtain ⟨b1, b2, b3, b4⟩ := hb3.args; have cb3 : (V3b.cell? ⟨V2c.heap.size, 0, none⟩ = some (.int .i32 u0) ∧ V3b.cell? ⟨V2c.heap.size, 1, none⟩ = some (.int .i32 u1)) := ⟨((kept_cell hb).1 _ _ za3).trans ca3.1, ((kept_cell hb).1 _ _ za3).trans ca3.2⟩; have zb3 := Nat.lt_of_lt_of_le za3 hb.size)
  | (go_at_call 21; refine (K3.out _ _ _ _ _ hb3).mono ?_; rintro e V3c ⟨rfl, hs3, hk⟩; obtain ⟨gc1, gc2, gc3, gc4⟩ := hs3.args; have cc3 : (V3c.cell? ⟨V2c.heap.size, 0, none⟩ = some (.int .i32 u0) ∧ V3c.cell? ⟨V2c.heap.size, 1, none⟩ = some (.int .i32 u1)) := ⟨(hk _ _ zb3 hsz).trans cb3.1, (hk _ _ zb3 hsz).trans cb3.2⟩))
 rw [E3.out] at hs3
 have hsz := hs3.size
 rename_i hHeld
 clear hHeld ca3 cb3 cc3 za3 zb3 ha3 hb3 hk hb ga1 ga2 ga3 ga4 b1 b2 b3 b4
 go_wp2_with fail
 rw [rounds_succ]
 go_wp2_with fail
 obtain ⟨ha4, ca4⟩ := hs3.fin v0 v1
 have za4 : V3c.heap.size < (V3c.alloc (.cells #[.int .i32 v0, .int .i32 v1] 23)).heap.size := by simp
 generalize V3c.alloc (.cells #[.int .i32 v0, .int .i32 v1] 23) = V4a at ha4 ca4 za4 ⊢
 obtain ⟨ga1, ga2, ga3, ga4⟩ := ha4.args
 clear hs3
 go_region_held3 (fun V => (V.cell? ⟨V3c.heap.size, 0, none⟩ = some (.int .i32 v0) ∧ V.cell? ⟨V3c.heap.size, 1, none⟩ = some (.int .i32 v1)) ∧ (V.cell? ⟨w.heap.size, 0, none⟩ = some (.int .i32 p0) ∧ V.cell? ⟨w.heap.size, 1, none⟩ = some (.int .i32 p1)) ∧ (V.cell? ⟨w.heap.size + 1, 0, none⟩ = some (.int .i32 q0) ∧ V.cell? ⟨w.heap.size + 1, 1, none⟩ = some (.int .i32 q1)))
  (first | exact ⟨ca4, ga1, ga2⟩ | exact ⟨cb4, b1, b2⟩ | exact ⟨cc4, gc1, gc2⟩)
  (first
  | (go_at_call 24; refine (N4.out _).mono ?_; rintro e V4b ⟨rfl, hb⟩; have hb4 := ha4.drew.more hb; obtain ⟨b1, b2, b3, b4⟩ := hb4.args; have cb4 : (V4b.cell? ⟨V3c.heap.size, 0, none⟩ = some (.int .i32 v0) ∧ V4b.cell? ⟨V3c.heap.size, 1, none⟩ = some (.int .i32 v1)) := ⟨((kept_cell hb).1 _ _ za4).trans ca4.1, ((kept_cell hb).1 _ _ za4).trans ca4.2⟩; have zb4 := Nat.lt_of_lt_of_le za4 hb.size)
  | (go_at_call 21; refine (K4.out _ _ _ _ _ hb4).mono ?_; rintro e V4c ⟨rfl, hs4, hk⟩; obtain ⟨gc1, gc2, gc3, gc4⟩ := hs4.args; have cc4 : (V4c.cell? ⟨V3c.heap.size, 0, none⟩ = some (.int .i32 v0) ∧ V4c.cell? ⟨V3c.heap.size, 1, none⟩ = some (.int .i32 v1)) := ⟨(hk _ _ zb4 hsz).trans cb4.1, (hk _ _ zb4 hsz).trans cb4.2⟩))
 rw [E4.out] at hs4
 have hsz := hs4.size
 rename_i hHeld
 clear hHeld ca4 cb4 cc4 za4 zb4 ha4 hb4 hk hb ga1 ga2 ga3 ga4 b1 b2 b3 b4
 go_wp2_with fail
 rw [rounds_succ]
 go_wp2_with fail
 obtain ⟨e1, e2, e3, e4, e5, e6, e7, e8, e9, e10, e11, e12, e13⟩ := hs4
 have hS := Seg.stored (⟨e1, e2, e3, e4, e5, e6, e7, e8, e9, e10, e11, e12, e13⟩ : Seg (w.heap.size + 1 + 1 + 1 + 1) (w.heap.size + 1 + 1 + 1 + 1) (SegA w p0 p1 q0 q1 u0 u1 v0 v1) V4c s4.1 s4.2.1 s4.2.2.1 s4.2.2.2.1 s4.2.2.2.2) s4.1 s4.2.1 s4.2.2.1 s4.2.2.2.1 s4.2.2.2.2
 go_region
 generalize (((((V4c.setCell _ _).setCell _ _).setCell _ _).setCell _ _).setCell _ _).drew = V5 at hS ⊢
 clear e1 e2 e3 e4 e5 e6 e7 e8 e9 e10 e11 e12 e13
 go_wp2_with fail
 obtain ⟨e1, e2, e3, e4, e5, e6, e7, e8, e9, e10, e11, e12, e13⟩ := hS
 exact bodyPost_ret (v := .tuple #[.agg #[.int .i32 s4.1, .int .i32 s4.2.1], .agg #[.int .i32 s4.2.2.1, .int .i32 s4.2.2.2.1], .int .u64 s4.2.2.2.2]) (by simp [results, Try.results17, go_sem, e4, e5, e6, e7, e8]) rfl ⟨rfl, (lA (lA (lA (lA (Below.refl _ _) _) _) _) _).trans (e1.mono (by omega))⟩
/-- One candidate of choose, as it is reckoned. -/
def segNext (s : Int × Int × Int × Int × Int) (x0 x1 y0 y1 : Int) : Option (Int × Int × Int × Int × Int) :=
 (vec_Diff.f x0 x1 y0 y1).bind fun dd => (vec_LengthSq.f dd.1 dd.2).bind fun d => some (segStep s x0 x1 y0 y1 d)
def segment_choose.f (p0 p1 q0 q1 u0 u1 v0 v1 : Int) : Option (Int × Int × Int × Int × Int) :=
 (point_Nearest.f u0 u1 v0 v1 p0 p1).bind fun n1 => (segNext (0, 0, 0, 0, 18446744073709551615) p0 p1 n1.1 n1.2).bind fun s1 =>
 (point_Nearest.f u0 u1 v0 v1 q0 q1).bind fun n2 => (segNext s1 q0 q1 n2.1 n2.2).bind fun s2 =>
 (point_Nearest.f p0 p1 q0 q1 u0 u1).bind fun n3 => (segNext s2 n3.1 n3.2 u0 u1).bind fun s3 =>
 (point_Nearest.f p0 p1 q0 q1 v0 v1).bind fun n4 => (segNext s3 n4.1 n4.2 v0 v1)
theorem segNext.cons {s t : Int × Int × Int × Int × Int} {x0 x1 y0 y1 : Int} (h : segNext s x0 x1 y0 y1 = some t) : ∃ d, Cons x0 x1 y0 y1 d ∧ segStep s x0 x1 y0 y1 d = t := by
 unfold segNext at h
 obtain ⟨⟨dx, dy⟩, h1, h⟩ := Option.bind_eq_some_iff.mp h
 obtain ⟨d, h2, h⟩ := Option.bind_eq_some_iff.mp h
 refine ⟨d, fun B k W0 s w hs => seg_consider.any x0 x1 y0 y1 d s dx dy B k W0 w (fun w => vec_Diff.calls x0 x1 y0 y1 dx dy w h1) (fun w => vec_LengthSq.calls dx dy d w h2) hs, Option.some.inj h⟩
theorem segment_choose.calls (a0_0 a0_1 a1_0 a1_1 a2_0 a2_1 a3_0 a3_1 r1 r2 r3 r4 r5 : Int) (w : World) (h : segment_choose.f a0_0 a0_1 a1_0 a1_1 a2_0 a2_1 a3_0 a3_1 = some (r1, r2, r3, r4, r5)) :
  Calls Try.prog 17 #[.agg #[.int .i32 a0_0, .int .i32 a0_1], .agg #[.int .i32 a1_0, .int .i32 a1_1], .agg #[.int .i32 a2_0, .int .i32 a2_1], .agg #[.int .i32 a3_0, .int .i32 a3_1]] w fun e w' => e = .returned (.tuple #[.agg #[.int .i32 r1, .int .i32 r2], .agg #[.int .i32 r3, .int .i32 r4], .int .u64 r5]) ∧ Below w.heap.size w w' := by
 unfold segment_choose.f at h
 obtain ⟨⟨x0, x1⟩, n1, h⟩ := Option.bind_eq_some_iff.mp h
 obtain ⟨s1, g1, h⟩ := Option.bind_eq_some_iff.mp h
 obtain ⟨⟨y0, y1⟩, n2, h⟩ := Option.bind_eq_some_iff.mp h
 obtain ⟨s2, g2, h⟩ := Option.bind_eq_some_iff.mp h
 obtain ⟨⟨z0, z1⟩, n3, h⟩ := Option.bind_eq_some_iff.mp h
 obtain ⟨s3, g3, h⟩ := Option.bind_eq_some_iff.mp h
 obtain ⟨⟨t0, t1⟩, n4, g4⟩ := Option.bind_eq_some_iff.mp h
 obtain ⟨d1, k1, e1⟩ := segNext.cons g1
 obtain ⟨d2, k2, e2⟩ := segNext.cons g2
 obtain ⟨d3, k3, e3⟩ := segNext.cons g3
 obtain ⟨d4, k4, e4⟩ := segNext.cons g4
 exact segment_choose.same _ _ _ _ _ _ _ _ x0 x1 y0 y1 z0 z1 t0 t1 d1 d2 d3 d4 w (fun w => point_Nearest.calls _ _ _ _ _ _ _ _ w n1) (fun w => point_Nearest.calls _ _ _ _ _ _ _ _ w n2) (fun w => point_Nearest.calls _ _ _ _ _ _ _ _ w n3) (fun w => point_Nearest.calls _ _ _ _ _ _ _ _ w n4) k1 k2 k3 k4 s1 s2 s3 (r1, r2, r3, r4, r5) e1 e2 e3 e4

/-! ### segment_Chosen: function 10 (given) -/
-- IMPORT Derived.Test.YtddooigcnbpliaaMspec
-- IMPORT Derived.Test.YtddooigcnbpliaaMtwo
-- NEEDS billiard/segment.choose
def segment_Chosen.f (p0 p1 q0 q1 u0 u1 v0 v1 : Int) : Option (Int × Int × Int × Int) := (segment_choose.f p0 p1 q0 q1 u0 u1 v0 v1).bind fun s => some (s.1, s.2.1, s.2.2.1, s.2.2.2.1)
theorem segment_Chosen.calls (a0_0 a0_1 a1_0 a1_1 a2_0 a2_1 a3_0 a3_1 r1 r2 r3 r4 : Int) (w : World) (h : segment_Chosen.f a0_0 a0_1 a1_0 a1_1 a2_0 a2_1 a3_0 a3_1 = some (r1, r2, r3, r4)) :
  Calls Try.prog 10 #[.agg #[.int .i32 a0_0, .int .i32 a0_1], .agg #[.int .i32 a1_0, .int .i32 a1_1], .agg #[.int .i32 a2_0, .int .i32 a2_1], .agg #[.int .i32 a3_0, .int .i32 a3_1]] w fun e w' => e = .returned (.tuple #[.agg #[.int .i32 r1, .int .i32 r2], .agg #[.int .i32 r3, .int .i32 r4]]) ∧ Below w.heap.size w w' := by
 unfold segment_Chosen.f at h
 obtain ⟨⟨s1, s2, s3, s4, s5⟩, h1, h⟩ := Option.bind_eq_some_iff.mp h
 simp only [Option.some.injEq, Prod.mk.injEq] at h
 obtain ⟨rfl, rfl, rfl, rfl⟩ := h
 have HC := Lib.hid (fun w => segment_choose.calls a0_0 a0_1 a1_0 a1_1 a2_0 a2_1 a3_0 a3_1 s1 s2 s3 s4 s5 w h1)
 clear h1
 go_enter Try.func10, Try.ntmps10
 go_wp2_with fail
 refine (HC.out _).mono ?_
 rintro e V ⟨rfl, hb⟩
 have hsz := hb.size
 simp only [World.size_alloc] at hsz
 obtain ⟨cc, ff⟩ := kept_cell hb
 have e4 : V.cell? ⟨w.heap.size + 1 + 1 + 1 + 1, 0, none⟩ = some (.int .i32 0) := by rw [cc _ _ (by simp)]; simp [go_sem]
 have e5 : V.cell? ⟨w.heap.size + 1 + 1 + 1 + 1, 1, none⟩ = some (.int .i32 0) := by rw [cc _ _ (by simp)]; simp [go_sem]
 have e6 : V.cell? ⟨w.heap.size + 1 + 1 + 1 + 1 + 1, 0, none⟩ = some (.int .i32 0) := by rw [cc _ _ (by simp)]; simp [go_sem]
 have e7 : V.cell? ⟨w.heap.size + 1 + 1 + 1 + 1 + 1, 1, none⟩ = some (.int .i32 0) := by rw [cc _ _ (by simp)]; simp [go_sem]
 have e9 : V.frozen? ⟨w.heap.size + 1 + 1 + 1 + 1, 0, none⟩ = false := by rw [ff _ _ (by simp)]; simp [go_sem]
 have e10 : V.frozen? ⟨w.heap.size + 1 + 1 + 1 + 1, 1, none⟩ = false := by rw [ff _ _ (by simp)]; simp [go_sem]
 have e11 : V.frozen? ⟨w.heap.size + 1 + 1 + 1 + 1 + 1, 0, none⟩ = false := by rw [ff _ _ (by simp)]; simp [go_sem]
 have e12 : V.frozen? ⟨w.heap.size + 1 + 1 + 1 + 1 + 1, 1, none⟩ = false := by rw [ff _ _ (by simp)]; simp [go_sem]
 have h0 : Below w.heap.size w V := (lA (lA (lA (lA (lA (lA (Below.refl _ _) _) _) _) _) _) _).trans (hb.mono (by simp; omega))
 have h1 := Lib.hid h0
 clear hb cc ff h0 HC
 go_wp2_with fail
 go_region
 have hT := ((TwoV.stored (⟨h1.out, by omega, e4, e5, e6, e7, e9, e10, e11, e12⟩ : TwoV w V (w.heap.size + 1 + 1 + 1 + 1) 0 0 0 0) s1 s2 s3 s4).stored s1 s2 s3 s4).drew
 clear e4 e5 e6 e7 e9 e10 e11 e12 h1 hsz
 generalize ((((((((V.setCell _ _).setCell _ _).setCell _ _).setCell _ _).setCell _ _).setCell _ _).setCell _ _).setCell _ _).drew = V1 at hT ⊢
 go_wp2_with fail
 obtain ⟨e0, e1, e4, e5, e6, e7, e9, e10, e11, e12⟩ := hT
 exact bodyPost_ret (v := .tuple #[.agg #[.int .i32 s1, .int .i32 s2], .agg #[.int .i32 s3, .int .i32 s4]]) (by simp [results, Try.results10, go_sem, e4, e5, e6, e7]) rfl ⟨rfl, e0⟩

/-! ### segment_DistSq: function 12 -/
def segment_DistSq.f (a0_0 : Int) (a0_1 : Int) (a1_0 : Int) (a1_1 : Int) (a2_0 : Int) (a2_1 : Int) (a3_0 : Int) (a3_1 : Int) : Option (Int) := (segment_choose.f a0_0 a0_1 a1_0 a1_1 a2_0 a2_1 a3_0 a3_1).bind fun bt118 => (some bt118.2.2.2.2)
set_option maxHeartbeats 8000000 in
set_option maxRecDepth 100000 in
theorem segment_DistSq.calls (a0_0 : Int) (a0_1 : Int) (a1_0 : Int) (a1_1 : Int) (a2_0 : Int) (a2_1 : Int) (a3_0 : Int) (a3_1 : Int) (r : Int) (w : World) (h : segment_DistSq.f a0_0 a0_1 a1_0 a1_1 a2_0 a2_1 a3_0 a3_1 = some r) :
  Calls Try.prog 12 #[.agg #[.int .i32 a0_0, .int .i32 a0_1], .agg #[.int .i32 a1_0, .int .i32 a1_1], .agg #[.int .i32 a2_0, .int .i32 a2_1], .agg #[.int .i32 a3_0, .int .i32 a3_1]] w fun e w' => e = .returned (.int .u64 r) ∧ Below w.heap.size w w' := by
 have hu23 := Try.underlying23
 have HB := aM (Below.refl w.heap.size w)
 have H : ((segment_choose.f a0_0 a0_1 a1_0 a1_1 a2_0 a2_1 a3_0 a3_1).bind fun bt118 => (some bt118.2.2.2.2)) = some r := h
 clear h
 replace H := Option.bind_eq_some_iff.mp H
 obtain ⟨⟨t118, t119, t120, t121, t122⟩, A50, H⟩ := H
 try dsimp only at H
 have A5 := aM A50
 clear A50
 obtain rfl := Option.some.inj H
 go_enter Try.func12, Try.ntmps12
 go_wp2_with (first | ((with_reducible refine gate_dst (N := 4) rfl ?_); refine box_event ?hg (N := 4) ?hd (cs := #[.int .i32 a0_0, .int .i32 a0_1]) (t := 23) ?hr ?_; (case hd => rfl); (case hg => rfl); (case hr => first | (go_simp; done) | (go_simp; rfl)); intro b114 hg w6 hbox hb; have n0_ := aM (lT (by repeat (first | (with_reducible first | exact HB.out | apply lA | apply lN | apply lD) | exact HB.out)) hb); have n1_ := aM (hbox); have n2_ := aM ((by rw [hg]; exact (lZ (by repeat (first | (with_reducible first | exact HB.out | apply lA | apply lN | apply lD) | exact HB.out))) : w.heap.size ≤ b114)); have n3_ := aM ((by rw [hg]; exact (lZ (by repeat (first | (with_reducible first | exact HB.out | apply lA | apply lN | apply lD) | exact HB.out))) : w.heap.size ≤ b114)); clear HB; have HB := n0_; have BK114 := n1_; have GW114 := n2_; have GE114 := n3_; clear n0_ n1_ n2_ n3_; clear hb hbox hg) | ((with_reducible refine gate_dst (N := 5) rfl ?_); refine box_event ?hg (N := 5) ?hd (cs := #[.int .i32 a1_0, .int .i32 a1_1]) (t := 23) ?hr ?_; (case hd => rfl); (case hg => rfl); (case hr => first | (go_simp; done) | (go_simp; rfl)); intro b115 hg w7 hbox hb; have n0_ := aM (bB (by (with_reducible repeat first | apply bN | apply bD | apply bA); exact BK114.out) hb); have n1_ := aM (lT (by repeat (first | (with_reducible first | exact HB.out | apply lA | apply lN | apply lD | refine lS ?_ GE114.out) | exact HB.out)) hb); have n2_ := aM (hbox); have n3_ := aM ((by rw [hg]; exact (lZ (by repeat (first | (with_reducible first | exact HB.out | apply lA | apply lN | apply lD | refine lS ?_ GE114.out) | exact HB.out))) : w.heap.size ≤ b115)); have n4_ := aM ((by rw [hg]; exact (lZ (by repeat (first | (with_reducible first | exact HB.out | apply lA | apply lN | apply lD | refine lS ?_ GE114.out) | exact HB.out))) : w.heap.size ≤ b115)); have n5_ := aM ((by rw [hg]; exact Nat.ne_of_lt (bL (g := b114) (by (with_reducible repeat first | apply bN | apply bD | apply bA); exact BK114.out)) : b114 ≠ b115)); have n6_ := aM ((by rw [hg]; exact Nat.ne_of_gt (bL (g := b114) (by (with_reducible repeat first | apply bN | apply bD | apply bA); exact BK114.out)) : b115 ≠ b114)); clear BK114; clear HB; have BK114 := n0_; have HB := n1_; have BK115 := n2_; have GW115 := n3_; have GE115 := n4_; have N0_ := n5_; have N1_ := n6_; clear n0_ n1_ n2_ n3_ n4_ n5_ n6_; clear hb hbox hg) | ((with_reducible refine gate_dst (N := 6) rfl ?_); refine box_event ?hg (N := 6) ?hd (cs := #[.int .i32 a2_0, .int .i32 a2_1]) (t := 23) ?hr ?_; (case hd => rfl); (case hg => rfl); (case hr => first | (go_simp; done) | (go_simp; rfl)); intro b116 hg w8 hbox hb; have n0_ := aM (bB (by (with_reducible repeat first | apply bN | apply bD | apply bA); exact BK114.out) hb); have n1_ := aM (bB (by (with_reducible repeat first | apply bN | apply bD | apply bA); exact BK115.out) hb); have n2_ := aM (lT (by repeat (first | (with_reducible first | exact HB.out | apply lA | apply lN | apply lD | refine lS ?_ GE114.out | refine lS ?_ GE115.out) | exact HB.out)) hb); have n3_ := aM (hbox); have n4_ := aM ((by rw [hg]; exact (lZ (by repeat (first | (with_reducible first | exact HB.out | apply lA | apply lN | apply lD | refine lS ?_ GE114.out | refine lS ?_ GE115.out) | exact HB.out))) : w.heap.size ≤ b116)); have n5_ := aM ((by rw [hg]; exact (lZ (by repeat (first | (with_reducible first | exact HB.out | apply lA | apply lN | apply lD | refine lS ?_ GE114.out | refine lS ?_ GE115.out) | exact HB.out))) : w.heap.size ≤ b116)); have n6_ := aM ((by rw [hg]; exact Nat.ne_of_lt (bL (g := b114) (by (with_reducible repeat first | apply bN | apply bD | apply bA); exact BK114.out)) : b114 ≠ b116)); have n7_ := aM ((by rw [hg]; exact Nat.ne_of_gt (bL (g := b114) (by (with_reducible repeat first | apply bN | apply bD | apply bA); exact BK114.out)) : b116 ≠ b114)); have n8_ := aM ((by rw [hg]; exact Nat.ne_of_lt (bL (g := b115) (by (with_reducible repeat first | apply bN | apply bD | apply bA); exact BK115.out)) : b115 ≠ b116)); have n9_ := aM ((by rw [hg]; exact Nat.ne_of_gt (bL (g := b115) (by (with_reducible repeat first | apply bN | apply bD | apply bA); exact BK115.out)) : b116 ≠ b115)); clear BK114; clear BK115; clear HB; have BK114 := n0_; have BK115 := n1_; have HB := n2_; have BK116 := n3_; have GW116 := n4_; have GE116 := n5_; have N2_ := n6_; have N3_ := n7_; have N4_ := n8_; have N5_ := n9_; clear n0_ n1_ n2_ n3_ n4_ n5_ n6_ n7_ n8_ n9_; clear hb hbox hg) | ((with_reducible refine gate_dst (N := 7) rfl ?_); refine box_event ?hg (N := 7) ?hd (cs := #[.int .i32 a3_0, .int .i32 a3_1]) (t := 23) ?hr ?_; (case hd => rfl); (case hg => rfl); (case hr => first | (go_simp; done) | (go_simp; rfl)); intro b117 hg w9 hbox hb; have n0_ := aM (bB (by (with_reducible repeat first | apply bN | apply bD | apply bA); exact BK114.out) hb); have n1_ := aM (bB (by (with_reducible repeat first | apply bN | apply bD | apply bA); exact BK115.out) hb); have n2_ := aM (bB (by (with_reducible repeat first | apply bN | apply bD | apply bA); exact BK116.out) hb); have n3_ := aM (lT (by repeat (first | (with_reducible first | exact HB.out | apply lA | apply lN | apply lD | refine lS ?_ GE114.out | refine lS ?_ GE115.out | refine lS ?_ GE116.out) | exact HB.out)) hb); have n4_ := aM (hbox); have n5_ := aM ((by rw [hg]; exact (lZ (by repeat (first | (with_reducible first | exact HB.out | apply lA | apply lN | apply lD | refine lS ?_ GE114.out | refine lS ?_ GE115.out | refine lS ?_ GE116.out) | exact HB.out))) : w.heap.size ≤ b117)); have n6_ := aM ((by rw [hg]; exact (lZ (by repeat (first | (with_reducible first | exact HB.out | apply lA | apply lN | apply lD | refine lS ?_ GE114.out | refine lS ?_ GE115.out | refine lS ?_ GE116.out) | exact HB.out))) : w.heap.size ≤ b117)); have n7_ := aM ((by rw [hg]; exact Nat.ne_of_lt (bL (g := b114) (by (with_reducible repeat first | apply bN | apply bD | apply bA); exact BK114.out)) : b114 ≠ b117)); have n8_ := aM ((by rw [hg]; exact Nat.ne_of_gt (bL (g := b114) (by (with_reducible repeat first | apply bN | apply bD | apply bA); exact BK114.out)) : b117 ≠ b114)); have n9_ := aM ((by rw [hg]; exact Nat.ne_of_lt (bL (g := b115) (by (with_reducible repeat first | apply bN | apply bD | apply bA); exact BK115.out)) : b115 ≠ b117)); have n10_ := aM ((by rw [hg]; exact Nat.ne_of_gt (bL (g := b115) (by (with_reducible repeat first | apply bN | apply bD | apply bA); exact BK115.out)) : b117 ≠ b115)); have n11_ := aM ((by rw [hg]; exact Nat.ne_of_lt (bL (g := b116) (by (with_reducible repeat first | apply bN | apply bD | apply bA); exact BK116.out)) : b116 ≠ b117)); have n12_ := aM ((by rw [hg]; exact Nat.ne_of_gt (bL (g := b116) (by (with_reducible repeat first | apply bN | apply bD | apply bA); exact BK116.out)) : b117 ≠ b116)); clear BK114; clear BK115; clear BK116; clear HB; have BK114 := n0_; have BK115 := n1_; have BK116 := n2_; have HB := n3_; have BK117 := n4_; have GW117 := n5_; have GE117 := n6_; have N6_ := n7_; have N7_ := n8_; have N8_ := n9_; have N9_ := n10_; have N10_ := n11_; have N11_ := n12_; clear n0_ n1_ n2_ n3_ n4_ n5_ n6_ n7_ n8_ n9_ n10_ n11_ n12_; clear hb hbox hg; have hnb10 := N0_.out; have hnc10 := N1_.out; have hnb11 := N2_.out; have hnc11 := N3_.out; have hnb12 := N6_.out; have hnc12 := N7_.out; have hcz13_0 : w9.cell? ⟨b114, 0, none⟩ = some (.int .i32 a0_0) := (bC BK114.out 0).trans rfl; have hcz13_1 : w9.cell? ⟨b114, 1, none⟩ = some (.int .i32 a0_1) := (bC BK114.out 1).trans rfl; have hfz13_0 := bF BK114.out 0; have hfz13_1 := bF BK114.out 1; have hnb14 := N4_.out; have hnc14 := N5_.out; have hnb15 := N8_.out; have hnc15 := N9_.out; have hcz16_0 : w9.cell? ⟨b115, 0, none⟩ = some (.int .i32 a1_0) := (bC BK115.out 0).trans rfl; have hcz16_1 : w9.cell? ⟨b115, 1, none⟩ = some (.int .i32 a1_1) := (bC BK115.out 1).trans rfl; have hfz16_0 := bF BK115.out 0; have hfz16_1 := bF BK115.out 1; have hnb17 := N10_.out; have hnc17 := N11_.out; have hcz18_0 : w9.cell? ⟨b116, 0, none⟩ = some (.int .i32 a2_0) := (bC BK116.out 0).trans rfl; have hcz18_1 : w9.cell? ⟨b116, 1, none⟩ = some (.int .i32 a2_1) := (bC BK116.out 1).trans rfl; have hfz18_0 := bF BK116.out 0; have hfz18_1 := bF BK116.out 1; have hcz19_0 : w9.cell? ⟨b117, 0, none⟩ = some (.int .i32 a3_0) := (bC BK117.out 0).trans rfl; have hcz19_1 : w9.cell? ⟨b117, 1, none⟩ = some (.int .i32 a3_1) := (bC BK117.out 1).trans rfl; have hfz19_0 := bF BK117.out 0; have hfz19_1 := bF BK117.out 1) | ((with_reducible refine gate_callee (f := 17) rfl ?_); refine goesL_ (some 17) rfl rfl Try.func17 (by kernel_rfl) rfl #[.agg #[.int .i32 a0_0, .int .i32 a0_1], .agg #[.int .i32 a1_0, .int .i32 a1_1], .agg #[.int .i32 a2_0, .int .i32 a2_1], .agg #[.int .i32 a3_0, .int .i32 a3_1]] rfl (by (try simp only [List.map_toArray, List.map_cons, List.map_nil]); first | done | rfl | (simp only [List.length_drop, List.length_take]; rfl)) ?_; (with_reducible refine (segment_choose.calls a0_0 a0_1 a1_0 a1_1 a2_0 a2_1 a3_0 a3_1 t118 t119 t120 t121 t122 _ A5.out).mono ?_); rintro e w20 ⟨rfl, hb⟩; refine ⟨_, rfl, ?_⟩; have n_ := kB4 BK114 BK115 BK116 BK117 HB (by repeat first | exact lR _ _ | apply lN | apply lD | apply lA) hb; clear BK114 BK115 BK116 BK117 HB; obtain ⟨BK114, BK115, BK116, BK117, HB⟩ := n_; (try clear hb); (try clear hb2); (try clear hk); (try clear hi)) | ((with_reducible refine gate_dst (N := 9) rfl ?_); refine box_event ?hg (N := 9) ?hd (cs := #[.int .i32 0, .int .i32 0]) (t := 23) ?hr ?_; (case hd => rfl); (case hg => rfl); (case hr => first | (go_simp; done) | (go_simp; rfl)); intro b123 hg w21 hbox hb; have n0_ := aM (bB (by (with_reducible repeat first | apply bN | apply bD | apply bA); exact BK114.out) hb); have n1_ := aM (bB (by (with_reducible repeat first | apply bN | apply bD | apply bA); exact BK115.out) hb); have n2_ := aM (bB (by (with_reducible repeat first | apply bN | apply bD | apply bA); exact BK116.out) hb); have n3_ := aM (bB (by (with_reducible repeat first | apply bN | apply bD | apply bA); exact BK117.out) hb); have n4_ := aM (lT (by repeat (first | (with_reducible first | exact HB.out | apply lA | apply lN | apply lD | refine lS ?_ GE114.out | refine lS ?_ GE115.out | refine lS ?_ GE116.out | refine lS ?_ GE117.out) | exact HB.out)) hb); have n5_ := aM (hbox); have n6_ := aM ((by rw [hg]; exact (lZ (by repeat (first | (with_reducible first | exact HB.out | apply lA | apply lN | apply lD | refine lS ?_ GE114.out | refine lS ?_ GE115.out | refine lS ?_ GE116.out | refine lS ?_ GE117.out) | exact HB.out))) : w.heap.size ≤ b123)); have n7_ := aM ((by rw [hg]; exact (lZ (by repeat (first | (with_reducible first | exact HB.out | apply lA | apply lN | apply lD | refine lS ?_ GE114.out | refine lS ?_ GE115.out | refine lS ?_ GE116.out | refine lS ?_ GE117.out) | exact HB.out))) : w.heap.size ≤ b123)); have n8_ := aM ((by rw [hg]; exact Nat.ne_of_lt (bL (g := b114) (by (with_reducible repeat first | apply bN | apply bD | apply bA); exact BK114.out)) : b114 ≠ b123)); have n9_ := aM ((by rw [hg]; exact Nat.ne_of_gt (bL (g := b114) (by (with_reducible repeat first | apply bN | apply bD | apply bA); exact BK114.out)) : b123 ≠ b114)); have n10_ := aM ((by rw [hg]; exact Nat.ne_of_lt (bL (g := b115) (by (with_reducible repeat first | apply bN | apply bD | apply bA); exact BK115.out)) : b115 ≠ b123)); have n11_ := aM ((by rw [hg]; exact Nat.ne_of_gt (bL (g := b115) (by (with_reducible repeat first | apply bN | apply bD | apply bA); exact BK115.out)) : b123 ≠ b115)); have n12_ := aM ((by rw [hg]; exact Nat.ne_of_lt (bL (g := b116) (by (with_reducible repeat first | apply bN | apply bD | apply bA); exact BK116.out)) : b116 ≠ b123)); have n13_ := aM ((by rw [hg]; exact Nat.ne_of_gt (bL (g := b116) (by (with_reducible repeat first | apply bN | apply bD | apply bA); exact BK116.out)) : b123 ≠ b116)); have n14_ := aM ((by rw [hg]; exact Nat.ne_of_lt (bL (g := b117) (by (with_reducible repeat first | apply bN | apply bD | apply bA); exact BK117.out)) : b117 ≠ b123)); have n15_ := aM ((by rw [hg]; exact Nat.ne_of_gt (bL (g := b117) (by (with_reducible repeat first | apply bN | apply bD | apply bA); exact BK117.out)) : b123 ≠ b117)); clear BK114; clear BK115; clear BK116; clear BK117; clear HB; have BK114 := n0_; have BK115 := n1_; have BK116 := n2_; have BK117 := n3_; have HB := n4_; have BK123 := n5_; have GW123 := n6_; have GE123 := n7_; have N12_ := n8_; have N13_ := n9_; have N14_ := n10_; have N15_ := n11_; have N16_ := n12_; have N17_ := n13_; have N18_ := n14_; have N19_ := n15_; clear n0_ n1_ n2_ n3_ n4_ n5_ n6_ n7_ n8_ n9_ n10_ n11_ n12_ n13_ n14_ n15_; clear hb hbox hg) | ((with_reducible refine gate_dst (N := 10) rfl ?_); refine box_event ?hg (N := 10) ?hd (cs := #[.int .i32 0, .int .i32 0]) (t := 23) ?hr ?_; (case hd => rfl); (case hg => rfl); (case hr => first | (go_simp; done) | (go_simp; rfl)); intro b124 hg w22 hbox hb; have n0_ := aM (bB (by (with_reducible repeat first | apply bN | apply bD | apply bA); exact BK114.out) hb); have n1_ := aM (bB (by (with_reducible repeat first | apply bN | apply bD | apply bA); exact BK115.out) hb); have n2_ := aM (bB (by (with_reducible repeat first | apply bN | apply bD | apply bA); exact BK116.out) hb); have n3_ := aM (bB (by (with_reducible repeat first | apply bN | apply bD | apply bA); exact BK117.out) hb); have n4_ := aM (bB (by (with_reducible repeat first | apply bN | apply bD | apply bA); exact BK123.out) hb); have n5_ := aM (lT (by repeat (first | (with_reducible first | exact HB.out | apply lA | apply lN | apply lD | refine lS ?_ GE114.out | refine lS ?_ GE115.out | refine lS ?_ GE116.out | refine lS ?_ GE117.out | refine lS ?_ GE123.out) | exact HB.out)) hb); have n6_ := aM (hbox); have n7_ := aM ((by rw [hg]; exact (lZ (by repeat (first | (with_reducible first | exact HB.out | apply lA | apply lN | apply lD | refine lS ?_ GE114.out | refine lS ?_ GE115.out | refine lS ?_ GE116.out | refine lS ?_ GE117.out | refine lS ?_ GE123.out) | exact HB.out))) : w.heap.size ≤ b124)); have n8_ := aM ((by rw [hg]; exact (lZ (by repeat (first | (with_reducible first | exact HB.out | apply lA | apply lN | apply lD | refine lS ?_ GE114.out | refine lS ?_ GE115.out | refine lS ?_ GE116.out | refine lS ?_ GE117.out | refine lS ?_ GE123.out) | exact HB.out))) : w.heap.size ≤ b124)); have n9_ := aM ((by rw [hg]; exact Nat.ne_of_lt (bL (g := b114) (by (with_reducible repeat first | apply bN | apply bD | apply bA); exact BK114.out)) : b114 ≠ b124)); have n10_ := aM ((by rw [hg]; exact Nat.ne_of_gt (bL (g := b114) (by (with_reducible repeat first | apply bN | apply bD | apply bA); exact BK114.out)) : b124 ≠ b114)); have n11_ := aM ((by rw [hg]; exact Nat.ne_of_lt (bL (g := b115) (by (with_reducible repeat first | apply bN | apply bD | apply bA); exact BK115.out)) : b115 ≠ b124)); have n12_ := aM ((by rw [hg]; exact Nat.ne_of_gt (bL (g := b115) (by (with_reducible repeat first | apply bN | apply bD | apply bA); exact BK115.out)) : b124 ≠ b115)); have n13_ := aM ((by rw [hg]; exact Nat.ne_of_lt (bL (g := b116) (by (with_reducible repeat first | apply bN | apply bD | apply bA); exact BK116.out)) : b116 ≠ b124)); have n14_ := aM ((by rw [hg]; exact Nat.ne_of_gt (bL (g := b116) (by (with_reducible repeat first | apply bN | apply bD | apply bA); exact BK116.out)) : b124 ≠ b116)); have n15_ := aM ((by rw [hg]; exact Nat.ne_of_lt (bL (g := b117) (by (with_reducible repeat first | apply bN | apply bD | apply bA); exact BK117.out)) : b117 ≠ b124)); have n16_ := aM ((by rw [hg]; exact Nat.ne_of_gt (bL (g := b117) (by (with_reducible repeat first | apply bN | apply bD | apply bA); exact BK117.out)) : b124 ≠ b117)); have n17_ := aM ((by rw [hg]; exact Nat.ne_of_lt (bL (g := b123) (by (with_reducible repeat first | apply bN | apply bD | apply bA); exact BK123.out)) : b123 ≠ b124)); have n18_ := aM ((by rw [hg]; exact Nat.ne_of_gt (bL (g := b123) (by (with_reducible repeat first | apply bN | apply bD | apply bA); exact BK123.out)) : b124 ≠ b123)); clear BK114; clear BK115; clear BK116; clear BK117; clear BK123; clear HB; have BK114 := n0_; have BK115 := n1_; have BK116 := n2_; have BK117 := n3_; have BK123 := n4_; have HB := n5_; have BK124 := n6_; have GW124 := n7_; have GE124 := n8_; have N20_ := n9_; have N21_ := n10_; have N22_ := n11_; have N23_ := n12_; have N24_ := n13_; have N25_ := n14_; have N26_ := n15_; have N27_ := n16_; have N28_ := n17_; have N29_ := n18_; clear n0_ n1_ n2_ n3_ n4_ n5_ n6_ n7_ n8_ n9_ n10_ n11_ n12_ n13_ n14_ n15_ n16_ n17_ n18_; clear hb hbox hg; have hnb23 := N13_.out; have hnc23 := N12_.out; have hnb24 := N15_.out; have hnc24 := N14_.out; have hnb25 := N17_.out; have hnc25 := N16_.out; have hnb26 := N19_.out; have hnc26 := N18_.out; have hnb27 := N28_.out; have hnc27 := N29_.out; have hcz28_0 : w22.cell? ⟨b123, 0, none⟩ = some (.int .i32 0) := (bC BK123.out 0).trans rfl; have hcz28_1 : w22.cell? ⟨b123, 1, none⟩ = some (.int .i32 0) := (bC BK123.out 1).trans rfl; have hfz28_0 := bF BK123.out 0; have hfz28_1 := bF BK123.out 1; have hnb29 := N21_.out; have hnc29 := N20_.out; have hnb30 := N23_.out; have hnc30 := N22_.out; have hnb31 := N25_.out; have hnc31 := N24_.out; have hnb32 := N27_.out; have hnc32 := N26_.out; have hcz33_0 : w22.cell? ⟨b124, 0, none⟩ = some (.int .i32 0) := (bC BK124.out 0).trans rfl; have hcz33_1 : w22.cell? ⟨b124, 1, none⟩ = some (.int .i32 0) := (bC BK124.out 1).trans rfl; have hfz33_0 := bF BK124.out 0; have hfz33_1 := bF BK124.out 1))
 go_ret
 exact ⟨by first | rfl | (simp [errW_none, errW_some] <;> rfl) | (simp [*, errW_none, errW_some] <;> rfl), by repeat (first | (with_reducible first | exact HB.out | apply lA | apply lN | apply lD | refine lS ?_ GE114.out | refine lS ?_ GE115.out | refine lS ?_ GE116.out | refine lS ?_ GE117.out | refine lS ?_ GE123.out | refine lS ?_ GE124.out) | exact HB.out)⟩

end Go.Proofs.Ytddooigcnbpliaa.Q
