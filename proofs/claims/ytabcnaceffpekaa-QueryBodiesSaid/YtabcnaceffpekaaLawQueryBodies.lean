-- PRINTED by print.py: the row of the law billiardlaw24_QueryBodies, out of its Pure (the session's) and the printed walk. Not trusted: Lean checks it.
import Derived.Test.YtabcnaceffpekaaRows
import Derived.Test.YtabcnaceffpekaaQQueryBodies
import Derived.Test.YtabcnaceffpekaaPureQueryBodies
import Derived.WalkKit
import Derived.ProofKit
import Derived.OpenShut
import Derived.ShutString
import Derived.ChangeOld
import Derived.Below
import Derived.SizedLaws
import Derived.Test.YtabcnaceffpekaaMslice
namespace Go.Proofs.Ytabcnaceffpekaa.queryBodies
open Go.ChangeShapes Go.WideShapes Go.ChangeAt Go.RowKit
open Go.ChangeMaps (open_string shut_string)
set_option linter.unusedVariables false
theorem own : ownKnob Try.prog.godebug = none := by kernel_rfl
theorem laidOut : laidOutB Try.prog = true := by kernel_rfl
set_option maxRecDepth 100000 in
theorem lifted (os : Os) (started : os.Started) (H : Type) (enc : TypeId × Value → H) :
    ReturnsInHanded {} Try.checked os 5 .any (Rows.queryBodiesSpec.pre6 enc Try.prog Try.f5 Rows.queryBodiesRow.domain false) (Rows.queryBodiesSpec.post enc Try.prog Try.f5 false true false false) := by
  refine returnsInHanded_of_change_sized (C := Try.checked) own started (by kernel_rfl) Try.func5
    (ChangeSpec.witness6 (enc := enc) (C := Try.checked) false ⟨#[], #[.agg #[.int .u32 0, .int .i32 0, .int .i32 0, .int .i32 0, .int .i32 0, .int .i32 0, .int .i32 0, .int .i32 0, .int .i32 0, .int .i32 0], .agg #[.int .i32 0, .int .i32 0]], []⟩ 8 (by kernel_rfl) (by kernel_rfl) (by kernel_rfl) (by kernel_rfl)) ?_
  intro W base args ds gs before hval0 hW hcnd hsz0 _
  have hsz : (DataW.weightsEach Try.prog (Try.f5.params.toList ++ Rows.queryBodiesSpec.plain.varTypes Try.prog) (ds ++ gs)).all (· ≤ reachBytes) = true := hsz0
  have hval : ∀ (j : Nat) t v, Try.f5.params[j]? = some t → args[j]? = some v → Value.okWide Try.prog W .any base t v := hval0
  have hW' := hW
  obtain ⟨p, q, hA0, hV, rfl, hfz, hnd⟩ := hW
  have hA : DataW.TrodAll enc Try.prog W 0 (fun _ => true) true Try.f5.params.toList args.toList ds p := hA0
  rw [Try.params5] at hA hval hsz
  obtain ⟨v0, vs0, d0, ds0, p0, q0, hargs, rfl, rfl, h0, r0⟩ := trodAll_cons hA
  obtain ⟨v1, vs1, d1, ds1, p1, q1, rfl, rfl, rfl, h1, r1⟩ := trodAll_cons r0
  obtain ⟨rfl, rfl, rfl⟩ := trodAll_nil r1
  obtain rfl : args = #[v0, v1] := by cases args; simp_all
  obtain ⟨rfl, rfl⟩ := trodVars_none hV
  obtain ⟨e0, ns0, al0, ev0⟩ := Flat.open_flat (ks := [.u32, .i32, .i32, .i32, .i32, .i32, .i32, .i32, .i32, .i32]) 4 Try.underlying32 (by kernel_rfl) (hval 0 32 v0 rfl rfl) h0
  obtain ⟨a0_0, ms0, rfl, w0_0, al0⟩ := Flat.allIn_cons al0
  obtain ⟨a0_1, ms0, rfl, w0_1, al0⟩ := Flat.allIn_cons al0
  obtain ⟨a0_2, ms0, rfl, w0_2, al0⟩ := Flat.allIn_cons al0
  obtain ⟨a0_3, ms0, rfl, w0_3, al0⟩ := Flat.allIn_cons al0
  obtain ⟨a0_4, ms0, rfl, w0_4, al0⟩ := Flat.allIn_cons al0
  obtain ⟨a0_5, ms0, rfl, w0_5, al0⟩ := Flat.allIn_cons al0
  obtain ⟨a0_6, ms0, rfl, w0_6, al0⟩ := Flat.allIn_cons al0
  obtain ⟨a0_7, ms0, rfl, w0_7, al0⟩ := Flat.allIn_cons al0
  obtain ⟨a0_8, ms0, rfl, w0_8, al0⟩ := Flat.allIn_cons al0
  obtain ⟨a0_9, ms0, rfl, w0_9, al0⟩ := Flat.allIn_cons al0
  obtain rfl := Flat.allIn_nil al0
  have ev0 : v0 = .agg #[.int .u32 a0_0, .int .i32 a0_1, .int .i32 a0_2, .int .i32 a0_3, .int .i32 a0_4, .int .i32 a0_5, .int .i32 a0_6, .int .i32 a0_7, .int .i32 a0_8, .int .i32 a0_9] := ev0
  subst ev0
  obtain ⟨e1, ns1, al1, ev1⟩ := Flat.open_flat (ks := [.i32, .i32]) 4 Try.underlying24 (by kernel_rfl) (hval 1 24 v1 rfl rfl) h1
  obtain ⟨a1_0, ms1, rfl, w1_0, al1⟩ := Flat.allIn_cons al1
  obtain ⟨a1_1, ms1, rfl, w1_1, al1⟩ := Flat.allIn_cons al1
  obtain rfl := Flat.allIn_nil al1
  have ev1 : v1 = .agg #[.int .i32 a1_0, .int .i32 a1_1] := ev1
  subst ev1
  clear hA0 hval0 hsz0 hsz
  refine (Q.billiardlaw24_QueryBodies.walk Pure.QueryBodies a0_0 a0_1 a0_2 a0_3 a0_4 a0_5 a0_6 a0_7 a0_8 a0_9 a1_0 a1_1 W w0_0 w0_1 w0_2 w0_3 w0_4 w0_5 w0_6 w0_7 w0_8 w0_9 w1_0 w1_1).mono fun e W' ⟨he, bel⟩ => ?_
  subst he
  exact ⟨_, rfl, _, _, _, [], _, [], hW', trodAll_mk1 (shut_bool Try.underlying4 _), (trodAll_cons_mk (Below.trod laidOut (by kernel_rfl) (of_decide_eq_true (by kernel_rfl)) h0 bel (Flat.lt_nil e0)) (trodAll_cons_mk (Below.trod laidOut (by kernel_rfl) (of_decide_eq_true (by kernel_rfl)) h1 bel (Flat.lt_nil e1)) trodAll_mk0)), rfl, bel.frame _, fun h => by cases h⟩
theorem over : Rows.queryBodiesRow.holds Try.pinned (OpenSpec.ofChange Rows.queryBodiesSpec) :=
  OpenClaim.holds_of_wide 5 Try.f5 rfl rfl rfl rfl rfl rfl rfl ⟨rfl, rfl, rfl, rfl, rfl⟩ rfl rfl rfl rfl rfl (by kernel_rfl) Try.func5 (by kernel_rfl)
    (of_decide_eq_true (by kernel_rfl)) (by unfold Func.isWrapper; first | (rw [if_pos (by decide +kernel)]; kernel_rfl) | (rw [if_neg (by decide +kernel)]; exact ⟨rfl, rfl⟩))
    (fun os started H enc _ => lifted os started H enc)
theorem proved : Rows.QueryBodiesSaid := over
#print axioms proved
end Go.Proofs.Ytabcnaceffpekaa.queryBodies
namespace Go.Proofs.Ytabcnaceffpekaa
/-- The row, under a short name, for the claim. -/
theorem queryBodies_holds : Rows.QueryBodiesSaid := queryBodies.proved
end Go.Proofs.Ytabcnaceffpekaa
