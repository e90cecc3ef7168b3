-- PRINTED by print.py: the row of the law billiardlaw13_SegmentMoves, out of its Pure (the session's) and the printed walk. Not trusted: Lean checks it.
import Derived.Test.YtddooigcnbpliaaRows
import Derived.Test.YtddooigcnbpliaaQSegmentMoves
import Derived.Test.YtddooigcnbpliaaPureSegmentMoves
import Derived.WalkKit
import Derived.ProofKit
import Derived.OpenShut
import Derived.ShutString
import Derived.ChangeOld
import Derived.Below
import Derived.SizedLaws
import Derived.Test.YtddooigcnbpliaaMflat
namespace Go.Proofs.Ytddooigcnbpliaa.segmentMoves
open Go.ChangeShapes Go.WideShapes Go.ChangeAt Go.RowKit
open Go.ChangeMaps (open_string shut_string)
set_option linter.unusedVariables false
theorem own : ownKnob Try.prog.godebug = none := by kernel_rfl
theorem laidOut : laidOutB Try.prog = true := by kernel_rfl
set_option maxRecDepth 100000 in
theorem lifted (os : Os) (started : os.Started) (H : Type) (enc : TypeId × Value → H) :
    ReturnsInHanded {} Try.checked os 6 .any (Rows.segmentMovesSpec.pre6 enc Try.prog Try.f6 Rows.segmentMovesRow.domain false) (Rows.segmentMovesSpec.post enc Try.prog Try.f6 false true false false) := by
  refine returnsInHanded_of_change_sized (C := Try.checked) own started (by kernel_rfl) Try.func6
    (ChangeSpec.witness6 (enc := enc) (C := Try.checked) false ⟨#[], #[.agg #[.int .i32 0, .int .i32 0], .agg #[.int .i32 0, .int .i32 0], .agg #[.int .i32 0, .int .i32 0], .agg #[.int .i32 0, .int .i32 0], .agg #[.int .i32 0, .int .i32 0]], []⟩ 8 (by kernel_rfl) (by kernel_rfl) (by kernel_rfl) (by kernel_rfl)) ?_
  intro W base args ds gs before hval0 hW hcnd hsz0 _
  have hsz : (DataW.weightsEach Try.prog (Try.f6.params.toList ++ Rows.segmentMovesSpec.plain.varTypes Try.prog) (ds ++ gs)).all (· ≤ reachBytes) = true := hsz0
  have hval : ∀ (j : Nat) t v, Try.f6.params[j]? = some t → args[j]? = some v → Value.okWide Try.prog W .any base t v := hval0
  have hW' := hW
  obtain ⟨p, q, hA0, hV, rfl, hfz, hnd⟩ := hW
  have hA : DataW.TrodAll enc Try.prog W 0 (fun _ => true) true Try.f6.params.toList args.toList ds p := hA0
  rw [Try.params6] at hA hval hsz
  obtain ⟨v0, vs0, d0, ds0, p0, q0, hargs, rfl, rfl, h0, r0⟩ := trodAll_cons hA
  obtain ⟨v1, vs1, d1, ds1, p1, q1, rfl, rfl, rfl, h1, r1⟩ := trodAll_cons r0
  obtain ⟨v2, vs2, d2, ds2, p2, q2, rfl, rfl, rfl, h2, r2⟩ := trodAll_cons r1
  obtain ⟨v3, vs3, d3, ds3, p3, q3, rfl, rfl, rfl, h3, r3⟩ := trodAll_cons r2
  obtain ⟨v4, vs4, d4, ds4, p4, q4, rfl, rfl, rfl, h4, r4⟩ := trodAll_cons r3
  obtain ⟨rfl, rfl, rfl⟩ := trodAll_nil r4
  obtain rfl : args = #[v0, v1, v2, v3, v4] := by cases args; simp_all
  obtain ⟨rfl, rfl⟩ := trodVars_none hV
  obtain ⟨e0, ns0, al0, ev0⟩ := Flat.open_flat (ks := [.i32, .i32]) 4 Try.underlying23 (by kernel_rfl) (hval 0 23 v0 rfl rfl) h0
  obtain ⟨a0_0, ms0, rfl, w0_0, al0⟩ := Flat.allIn_cons al0
  obtain ⟨a0_1, ms0, rfl, w0_1, al0⟩ := Flat.allIn_cons al0
  obtain rfl := Flat.allIn_nil al0
  have ev0 : v0 = .agg #[.int .i32 a0_0, .int .i32 a0_1] := ev0
  subst ev0
  obtain ⟨e1, ns1, al1, ev1⟩ := Flat.open_flat (ks := [.i32, .i32]) 4 Try.underlying23 (by kernel_rfl) (hval 1 23 v1 rfl rfl) h1
  obtain ⟨a1_0, ms1, rfl, w1_0, al1⟩ := Flat.allIn_cons al1
  obtain ⟨a1_1, ms1, rfl, w1_1, al1⟩ := Flat.allIn_cons al1
  obtain rfl := Flat.allIn_nil al1
  have ev1 : v1 = .agg #[.int .i32 a1_0, .int .i32 a1_1] := ev1
  subst ev1
  obtain ⟨e2, ns2, al2, ev2⟩ := Flat.open_flat (ks := [.i32, .i32]) 4 Try.underlying23 (by kernel_rfl) (hval 2 23 v2 rfl rfl) h2
  obtain ⟨a2_0, ms2, rfl, w2_0, al2⟩ := Flat.allIn_cons al2
  obtain ⟨a2_1, ms2, rfl, w2_1, al2⟩ := Flat.allIn_cons al2
  obtain rfl := Flat.allIn_nil al2
  have ev2 : v2 = .agg #[.int .i32 a2_0, .int .i32 a2_1] := ev2
  subst ev2
  obtain ⟨e3, ns3, al3, ev3⟩ := Flat.open_flat (ks := [.i32, .i32]) 4 Try.underlying23 (by kernel_rfl) (hval 3 23 v3 rfl rfl) h3
  obtain ⟨a3_0, ms3, rfl, w3_0, al3⟩ := Flat.allIn_cons al3
  obtain ⟨a3_1, ms3, rfl, w3_1, al3⟩ := Flat.allIn_cons al3
  obtain rfl := Flat.allIn_nil al3
  have ev3 : v3 = .agg #[.int .i32 a3_0, .int .i32 a3_1] := ev3
  subst ev3
  obtain ⟨e4, ns4, al4, ev4⟩ := Flat.open_flat (ks := [.i32, .i32]) 4 Try.underlying23 (by kernel_rfl) (hval 4 23 v4 rfl rfl) h4
  obtain ⟨a4_0, ms4, rfl, w4_0, al4⟩ := Flat.allIn_cons al4
  obtain ⟨a4_1, ms4, rfl, w4_1, al4⟩ := Flat.allIn_cons al4
  obtain rfl := Flat.allIn_nil al4
  have ev4 : v4 = .agg #[.int .i32 a4_0, .int .i32 a4_1] := ev4
  subst ev4
  clear hA0 hval0 hsz0 hsz
  refine (Q.billiardlaw13_SegmentMoves.walk Pure.SegmentMoves a0_0 a0_1 a1_0 a1_1 a2_0 a2_1 a3_0 a3_1 a4_0 a4_1 W w0_0 w0_1 w1_0 w1_1 w2_0 w2_1 w3_0 w3_1 w4_0 w4_1).mono fun e W' ⟨he, bel⟩ => ?_
  subst he
  exact ⟨_, rfl, _, _, _, [], _, [], hW', trodAll_mk1 (shut_bool Try.underlying4 _), (trodAll_cons_mk (Below.trod laidOut (by kernel_rfl) (of_decide_eq_true (by kernel_rfl)) h0 bel (Flat.lt_nil e0)) (trodAll_cons_mk (Below.trod laidOut (by kernel_rfl) (of_decide_eq_true (by kernel_rfl)) h1 bel (Flat.lt_nil e1)) (trodAll_cons_mk (Below.trod laidOut (by kernel_rfl) (of_decide_eq_true (by kernel_rfl)) h2 bel (Flat.lt_nil e2)) (trodAll_cons_mk (Below.trod laidOut (by kernel_rfl) (of_decide_eq_true (by kernel_rfl)) h3 bel (Flat.lt_nil e3)) (trodAll_cons_mk (Below.trod laidOut (by kernel_rfl) (of_decide_eq_true (by kernel_rfl)) h4 bel (Flat.lt_nil e4)) trodAll_mk0))))), rfl, bel.frame _, fun h => by cases h⟩
theorem over : Rows.segmentMovesRow.holds Try.pinned (OpenSpec.ofChange Rows.segmentMovesSpec) :=
  OpenClaim.holds_of_wide 6 Try.f6 rfl rfl rfl rfl rfl rfl rfl ⟨rfl, rfl, rfl, rfl, rfl⟩ rfl rfl rfl rfl rfl (by kernel_rfl) Try.func6 (by kernel_rfl)
    (of_decide_eq_true (by kernel_rfl)) (by unfold Func.isWrapper; first | (rw [if_pos (by decide +kernel)]; kernel_rfl) | (rw [if_neg (by decide +kernel)]; exact ⟨rfl, rfl⟩))
    (fun os started H enc _ => lifted os started H enc)
theorem proved : Rows.SegmentMovesSaid := over
#print axioms proved
end Go.Proofs.Ytddooigcnbpliaa.segmentMoves
namespace Go.Proofs.Ytddooigcnbpliaa
/-- The row, under a short name, for the claim. -/
theorem segmentMoves_holds : Rows.SegmentMovesSaid := segmentMoves.proved
end Go.Proofs.Ytddooigcnbpliaa
