-- PRINTED by print.py: the row of the law billiardlaw16_ImpulseFrames, out of its Pure (the session's) and the printed walk. Not trusted: Lean checks it.
import Derived.Test.YtihgddcaljaojaaRows
import Derived.Test.YtihgddcaljaojaaQImpulseFrames
import Derived.Test.YtihgddcaljaojaaPureImpulseFrames
import Derived.WalkKit
import Derived.ProofKit
import Derived.OpenShut
import Derived.ShutString
import Derived.ChangeOld
import Derived.Below
import Derived.SizedLaws
import Derived.Test.YtihgddcaljaojaaMflat
namespace Go.Proofs.Ytihgddcaljaojaa.impulseFrames
open Go.ChangeShapes Go.WideShapes Go.ChangeAt Go.RowKit
open Go.ChangeMaps (open_string shut_string)
set_option linter.unusedVariables false
theorem own : ownKnob Try.prog.godebug = none := by kernel_rfl
theorem laidOut : laidOutB Try.prog = true := by kernel_rfl
set_option maxRecDepth 100000 in
theorem lifted (os : Os) (started : os.Started) (H : Type) (enc : TypeId × Value → H) :
    ReturnsInHanded {} Try.checked os 6 .any (Rows.impulseFramesSpec.pre6 enc Try.prog Try.f6 Rows.impulseFramesRow.domain false) (Rows.impulseFramesSpec.post enc Try.prog Try.f6 false true false false) := by
  refine returnsInHanded_of_change_sized (C := Try.checked) own started (by kernel_rfl) Try.func6
    (ChangeSpec.witness6 (enc := enc) (C := Try.checked) false ⟨#[], #[.agg #[.int .u32 0, .int .u32 0, .int .i32 0, .int .i32 0, .int .i32 0], .agg #[.int .u32 0, .int .i32 0, .int .i32 0, .int .i32 0, .int .i32 0, .int .i32 0, .int .i32 0, .int .i32 0, .int .i32 0, .int .i32 0], .agg #[.int .u32 0, .int .i32 0, .int .i32 0, .int .i32 0, .int .i32 0, .int .i32 0, .int .i32 0, .int .i32 0, .int .i32 0, .int .i32 0], .agg #[.int .i32 0, .int .i32 0]], []⟩ 8 (by kernel_rfl) (by kernel_rfl) (by kernel_rfl) (by kernel_rfl)) ?_
  intro W base args ds gs before hval0 hW hcnd hsz0 _
  have hsz : (DataW.weightsEach Try.prog (Try.f6.params.toList ++ Rows.impulseFramesSpec.plain.varTypes Try.prog) (ds ++ gs)).all (· ≤ reachBytes) = true := hsz0
  have hval : ∀ (j : Nat) t v, Try.f6.params[j]? = some t → args[j]? = some v → Value.okWide Try.prog W .any base t v := hval0
  have hW' := hW
  obtain ⟨p, q, hA0, hV, rfl, hfz, hnd⟩ := hW
  have hA : DataW.TrodAll enc Try.prog W 0 (fun _ => true) true Try.f6.params.toList args.toList ds p := hA0
  rw [Try.params6] at hA hval hsz
  obtain ⟨v0, vs0, d0, ds0, p0, q0, hargs, rfl, rfl, h0, r0⟩ := trodAll_cons hA
  obtain ⟨v1, vs1, d1, ds1, p1, q1, rfl, rfl, rfl, h1, r1⟩ := trodAll_cons r0
  obtain ⟨v2, vs2, d2, ds2, p2, q2, rfl, rfl, rfl, h2, r2⟩ := trodAll_cons r1
  obtain ⟨v3, vs3, d3, ds3, p3, q3, rfl, rfl, rfl, h3, r3⟩ := trodAll_cons r2
  obtain ⟨rfl, rfl, rfl⟩ := trodAll_nil r3
  obtain rfl : args = #[v0, v1, v2, v3] := by cases args; simp_all
  obtain ⟨rfl, rfl⟩ := trodVars_none hV
  obtain ⟨e0, ns0, al0, ev0⟩ := Flat.open_flat (ks := [.u32, .u32, .i32, .i32, .i32]) 4 Try.underlying28 (by kernel_rfl) (hval 0 28 v0 rfl rfl) h0
  obtain ⟨a0_0, ms0, rfl, w0_0, al0⟩ := Flat.allIn_cons al0
  obtain ⟨a0_1, ms0, rfl, w0_1, al0⟩ := Flat.allIn_cons al0
  obtain ⟨a0_2, ms0, rfl, w0_2, al0⟩ := Flat.allIn_cons al0
  obtain ⟨a0_3, ms0, rfl, w0_3, al0⟩ := Flat.allIn_cons al0
  obtain ⟨a0_4, ms0, rfl, w0_4, al0⟩ := Flat.allIn_cons al0
  obtain rfl := Flat.allIn_nil al0
  have ev0 : v0 = .agg #[.int .u32 a0_0, .int .u32 a0_1, .int .i32 a0_2, .int .i32 a0_3, .int .i32 a0_4] := ev0
  subst ev0
  obtain ⟨e1, ns1, al1, ev1⟩ := Flat.open_flat (ks := [.u32, .i32, .i32, .i32, .i32, .i32, .i32, .i32, .i32, .i32]) 4 Try.underlying30 (by kernel_rfl) (hval 1 30 v1 rfl rfl) h1
  obtain ⟨a1_0, ms1, rfl, w1_0, al1⟩ := Flat.allIn_cons al1
  obtain ⟨a1_1, ms1, rfl, w1_1, al1⟩ := Flat.allIn_cons al1
  obtain ⟨a1_2, ms1, rfl, w1_2, al1⟩ := Flat.allIn_cons al1
  obtain ⟨a1_3, ms1, rfl, w1_3, al1⟩ := Flat.allIn_cons al1
  obtain ⟨a1_4, ms1, rfl, w1_4, al1⟩ := Flat.allIn_cons al1
  obtain ⟨a1_5, ms1, rfl, w1_5, al1⟩ := Flat.allIn_cons al1
  obtain ⟨a1_6, ms1, rfl, w1_6, al1⟩ := Flat.allIn_cons al1
  obtain ⟨a1_7, ms1, rfl, w1_7, al1⟩ := Flat.allIn_cons al1
  obtain ⟨a1_8, ms1, rfl, w1_8, al1⟩ := Flat.allIn_cons al1
  obtain ⟨a1_9, ms1, rfl, w1_9, al1⟩ := Flat.allIn_cons al1
  obtain rfl := Flat.allIn_nil al1
  have ev1 : v1 = .agg #[.int .u32 a1_0, .int .i32 a1_1, .int .i32 a1_2, .int .i32 a1_3, .int .i32 a1_4, .int .i32 a1_5, .int .i32 a1_6, .int .i32 a1_7, .int .i32 a1_8, .int .i32 a1_9] := ev1
  subst ev1
  obtain ⟨e2, ns2, al2, ev2⟩ := Flat.open_flat (ks := [.u32, .i32, .i32, .i32, .i32, .i32, .i32, .i32, .i32, .i32]) 4 Try.underlying30 (by kernel_rfl) (hval 2 30 v2 rfl rfl) h2
  obtain ⟨a2_0, ms2, rfl, w2_0, al2⟩ := Flat.allIn_cons al2
  obtain ⟨a2_1, ms2, rfl, w2_1, al2⟩ := Flat.allIn_cons al2
  obtain ⟨a2_2, ms2, rfl, w2_2, al2⟩ := Flat.allIn_cons al2
  obtain ⟨a2_3, ms2, rfl, w2_3, al2⟩ := Flat.allIn_cons al2
  obtain ⟨a2_4, ms2, rfl, w2_4, al2⟩ := Flat.allIn_cons al2
  obtain ⟨a2_5, ms2, rfl, w2_5, al2⟩ := Flat.allIn_cons al2
  obtain ⟨a2_6, ms2, rfl, w2_6, al2⟩ := Flat.allIn_cons al2
  obtain ⟨a2_7, ms2, rfl, w2_7, al2⟩ := Flat.allIn_cons al2
  obtain ⟨a2_8, ms2, rfl, w2_8, al2⟩ := Flat.allIn_cons al2
  obtain ⟨a2_9, ms2, rfl, w2_9, al2⟩ := Flat.allIn_cons al2
  obtain rfl := Flat.allIn_nil al2
  have ev2 : v2 = .agg #[.int .u32 a2_0, .int .i32 a2_1, .int .i32 a2_2, .int .i32 a2_3, .int .i32 a2_4, .int .i32 a2_5, .int .i32 a2_6, .int .i32 a2_7, .int .i32 a2_8, .int .i32 a2_9] := ev2
  subst ev2
  obtain ⟨e3, ns3, al3, ev3⟩ := Flat.open_flat (ks := [.i32, .i32]) 4 Try.underlying26 (by kernel_rfl) (hval 3 26 v3 rfl rfl) h3
  obtain ⟨a3_0, ms3, rfl, w3_0, al3⟩ := Flat.allIn_cons al3
  obtain ⟨a3_1, ms3, rfl, w3_1, al3⟩ := Flat.allIn_cons al3
  obtain rfl := Flat.allIn_nil al3
  have ev3 : v3 = .agg #[.int .i32 a3_0, .int .i32 a3_1] := ev3
  subst ev3
  clear hA0 hval0 hsz0 hsz
  refine (Q.billiardlaw16_ImpulseFrames.walk Pure.ImpulseFrames a0_0 a0_1 a0_2 a0_3 a0_4 a1_0 a1_1 a1_2 a1_3 a1_4 a1_5 a1_6 a1_7 a1_8 a1_9 a2_0 a2_1 a2_2 a2_3 a2_4 a2_5 a2_6 a2_7 a2_8 a2_9 a3_0 a3_1 W w0_0 w0_1 w0_2 w0_3 w0_4 w1_0 w1_1 w1_2 w1_3 w1_4 w1_5 w1_6 w1_7 w1_8 w1_9 w2_0 w2_1 w2_2 w2_3 w2_4 w2_5 w2_6 w2_7 w2_8 w2_9 w3_0 w3_1).mono fun e W' ⟨he, bel⟩ => ?_
  subst he
  exact ⟨_, rfl, _, _, _, [], _, [], hW', trodAll_mk1 (shut_bool Try.underlying4 _), (trodAll_cons_mk (Below.trod laidOut (by kernel_rfl) (of_decide_eq_true (by kernel_rfl)) h0 bel (Flat.lt_nil e0)) (trodAll_cons_mk (Below.trod laidOut (by kernel_rfl) (of_decide_eq_true (by kernel_rfl)) h1 bel (Flat.lt_nil e1)) (trodAll_cons_mk (Below.trod laidOut (by kernel_rfl) (of_decide_eq_true (by kernel_rfl)) h2 bel (Flat.lt_nil e2)) (trodAll_cons_mk (Below.trod laidOut (by kernel_rfl) (of_decide_eq_true (by kernel_rfl)) h3 bel (Flat.lt_nil e3)) trodAll_mk0)))), rfl, bel.frame _, fun h => by cases h⟩
theorem over : Rows.impulseFramesRow.holds Try.pinned (OpenSpec.ofChange Rows.impulseFramesSpec) :=
  OpenClaim.holds_of_wide 6 Try.f6 rfl rfl rfl rfl rfl rfl rfl ⟨rfl, rfl, rfl, rfl, rfl⟩ rfl rfl rfl rfl rfl (by kernel_rfl) Try.func6 (by kernel_rfl)
    (of_decide_eq_true (by kernel_rfl)) (by unfold Func.isWrapper; first | (rw [if_pos (by decide +kernel)]; kernel_rfl) | (rw [if_neg (by decide +kernel)]; exact ⟨rfl, rfl⟩))
    (fun os started H enc _ => lifted os started H enc)
theorem proved : Rows.ImpulseFramesSaid := over
#print axioms proved
end Go.Proofs.Ytihgddcaljaojaa.impulseFrames
namespace Go.Proofs.Ytihgddcaljaojaa
/-- The row, under a short name, for the claim. -/
theorem impulseFrames_holds : Rows.ImpulseFramesSaid := impulseFrames.proved
end Go.Proofs.Ytihgddcaljaojaa
