-- PRINTED by print.py: the row of the law billiardlaw08_BoxGrows, out of its Pure (the session's) and the printed walk. Not trusted: Lean checks it.
import Derived.Test.YtniiffbcdjoelaaDoorMlaid
import Derived.Test.YtniiffbcdjoelaaDoorCards
import Derived.Test.YtniiffbcdjoelaaDoorTie
import Derived.SevenTiedAt
import Derived.LaidMore
import Derived.LaidHandle
import Derived.LaidLaws
import Derived.Stop.Joined
import Derived.Test.YtniiffbcdjoelaaDoorRows
import Derived.Test.YtniiffbcdjoelaaDoorQBoxGrows
import Derived.Test.YtniiffbcdjoelaaDoorPureBoxGrows
import Derived.WalkKit
import Derived.ProofKit
import Derived.OpenShut
import Derived.ShutString
import Derived.ChangeOld
import Derived.Below
import Derived.SizedLaws
import Derived.Test.YtniiffbcdjoelaaDoorMflat
namespace Go.Proofs.YtniiffbcdjoelaaDoor.boxGrows
open Go.ChangeShapes Go.WideShapes Go.ChangeAt Go.RowKit
open Go.ChangeMaps (open_string shut_string)
set_option linter.unusedVariables false
theorem own : ownKnob Tryd.prog.godebug = none := by kernel_rfl
theorem laidOut : laidOutB Tryd.prog = true := by kernel_rfl
set_option maxRecDepth 100000 in
theorem lifted (os : Os) (started : os.Started) (H : Type) (enc : TypeId × Value → H) :
    ReturnsInHanded {} Tryd.checked os 6 .any (fun w args => (Rows.boxGrowsSpec.pre enc Tryd.prog Tryd.f6 [] false w args ∧ laidMetH Tryd.prog [("billiard/box.none", Rows.laid_billiard_box_none)] w) ∧ sizedMet enc Tryd.prog Tryd.f6 (OpenSpec.ofChange Rows.boxGrowsSpec) false w args) (Rows.boxGrowsSpec.post enc Tryd.prog Tryd.f6 false true false false) := by
  refine returnsInHanded_of_change_and (C := Tryd.checked) (X := fun w _ => laidMetH Tryd.prog [("billiard/box.none", Rows.laid_billiard_box_none)] w) (fun _ _ _ hh h => h.of_heap hh) own started (by kernel_rfl) Tryd.func6
    (ChangeSpec.witness_shaped (enc := enc) (C := Tryd.checked) (os := os) (X := fun w _ => laidMetH Tryd.prog [("billiard/box.none", Rows.laid_billiard_box_none)] w) false (World.doorLaid Tryd.prog 14 os) #[.agg #[.int .u32 0, .int .i32 0, .int .i32 0, .int .i32 0, .int .i32 0, .int .i32 0, .int .i32 0, .int .i32 0, .int .i32 0, .int .i32 0], .int .i32 0] 8 rfl (World.shaped_of_RefB (by kernel_rfl) (by kernel_rfl)) (by kernel_rfl) (by kernel_rfl) (by kernel_rfl) (laidMetH_of_parts3 (fuel := 8) (laidMet_of_run' 8 (by kernel_rfl) (by kernel_rfl)) (by kernel_rfl) (by kernel_rfl))) ?_
  intro W base args ds gs before hval0 hW hcnd hsz0 hL _
  have hsz : (DataW.weightsEach Tryd.prog (Tryd.f6.params.toList ++ Rows.boxGrowsSpec.plain.varTypes Tryd.prog) (ds ++ gs)).all (· ≤ reachBytes) = true := hsz0
  have hval : ∀ (j : Nat) t v, Tryd.f6.params[j]? = some t → args[j]? = some v → Value.okWide Tryd.prog W .any base t v := hval0
  have hW' := hW
  obtain ⟨p, q, hA0, hV, rfl, hfz, hnd⟩ := hW
  have hA : DataW.TrodAll enc Tryd.prog W 0 (fun _ => true) true Tryd.f6.params.toList args.toList ds p := hA0
  rw [Tryd.params6] at hA hval hsz
  obtain ⟨v0, vs0, d0, ds0, p0, q0, hargs, rfl, rfl, h0, r0⟩ := trodAll_cons hA
  obtain ⟨v1, vs1, d1, ds1, p1, q1, rfl, rfl, rfl, h1, r1⟩ := trodAll_cons r0
  obtain ⟨rfl, rfl, rfl⟩ := trodAll_nil r1
  obtain rfl : args = #[v0, v1] := by cases args; simp_all
  obtain ⟨rfl, rfl⟩ := trodVars_none hV
  obtain ⟨e0, ns0, al0, ev0⟩ := Flat.open_flat (ks := [.u32, .i32, .i32, .i32, .i32, .i32, .i32, .i32, .i32, .i32]) 4 Tryd.underlying26 (by kernel_rfl) (hval 0 26 v0 rfl rfl) h0
  obtain ⟨a0_0, ms0, rfl, w0_0, al0⟩ := Flat.allIn_cons al0
  obtain ⟨a0_1, ms0, rfl, w0_1, al0⟩ := Flat.allIn_cons al0
  obtain ⟨a0_2, ms0, rfl, w0_2, al0⟩ := Flat.allIn_cons al0
  obtain ⟨a0_3, ms0, rfl, w0_3, al0⟩ := Flat.allIn_cons al0
  obtain ⟨a0_4, ms0, rfl, w0_4, al0⟩ := Flat.allIn_cons al0
  obtain ⟨a0_5, ms0, rfl, w0_5, al0⟩ := Flat.allIn_cons al0
  obtain ⟨a0_6, ms0, rfl, w0_6, al0⟩ := Flat.allIn_cons al0
  obtain ⟨a0_7, ms0, rfl, w0_7, al0⟩ := Flat.allIn_cons al0
  obtain ⟨a0_8, ms0, rfl, w0_8, al0⟩ := Flat.allIn_cons al0
  obtain ⟨a0_9, ms0, rfl, w0_9, al0⟩ := Flat.allIn_cons al0
  obtain rfl := Flat.allIn_nil al0
  have ev0 : v0 = .agg #[.int .u32 a0_0, .int .i32 a0_1, .int .i32 a0_2, .int .i32 a0_3, .int .i32 a0_4, .int .i32 a0_5, .int .i32 a0_6, .int .i32 a0_7, .int .i32 a0_8, .int .i32 a0_9] := ev0
  subst ev0
  obtain ⟨a1, rfl, rfl, rfl, w1⟩ := open_int Tryd.underlying21 (hval 1 21 v1 rfl rfl) h1
  clear hA0 hval0 hsz0 hsz
  refine (Q.billiardlaw08_BoxGrows.walk Pure.BoxGrows a0_0 a0_1 a0_2 a0_3 a0_4 a0_5 a0_6 a0_7 a0_8 a0_9 a1 W w0_0 w0_1 w0_2 w0_3 w0_4 w0_5 w0_6 w0_7 w0_8 w0_9 w1 (Laid.globN (by rfl) (by simp) hL)).mono fun e W' ⟨he, bel⟩ => ?_
  subst he
  exact ⟨_, rfl, _, _, _, [], _, [], hW', trodAll_mk1 (shut_bool Tryd.underlying4 _), (trodAll_cons_mk (Below.trod laidOut (by kernel_rfl) (of_decide_eq_true (by kernel_rfl)) h0 bel (Flat.lt_nil e0)) (trodAll_cons_mk (shut_int Tryd.underlying21 w1) trodAll_mk0)), rfl, bel.frame _, fun h => by cases h⟩
theorem over : Rows.boxGrowsRow.holds Tryd.pinned (OpenSpec.ofChange Rows.boxGrowsSpec) :=
  OpenClaim.holds_of_wide 6 Tryd.f6 rfl rfl rfl rfl rfl rfl rfl ⟨rfl, rfl, rfl, rfl, rfl⟩ rfl rfl rfl rfl rfl (by kernel_rfl) Tryd.func6 (by kernel_rfl)
    (of_decide_eq_true (by kernel_rfl)) (by unfold Func.isWrapper; first | (rw [if_pos (by decide +kernel)]; kernel_rfl) | (rw [if_neg (by decide +kernel)]; exact ⟨rfl, rfl⟩))
    (fun os started H enc _ => lifted os started H enc)
set_option maxRecDepth 100000 in
theorem carded : Rows.BoxGrowsCardSaid :=
  Claim7.holds_tied_plain_at .later [] [.data] true (true, "ce01809768814ccbe52c5227425e1c108a839b93189a4181d1eb56c5a3eaa608") false
    over (fun _ h => by cases h) (by kernel_rfl) (fun _ h => by cases h) boxGrows_row_tie rfl ⟨rfl, rfl⟩ (by kernel_rfl) rfl
    (fun f fn hf hfn => by
      obtain rfl : f = 6 := Option.some.inj ((show Tryd.prog.funcNamed "billiard/billiardlaw08.BoxGrows" = some 6 by kernel_rfl).symm.trans hf) |>.symm
      obtain rfl : fn = Tryd.f6 := (Option.some.inj (Tryd.func6.symm.trans hfn)).symm
      exact ⟨by kernel_rfl, fun j t ht => by
        rw [Tryd.params6] at ht
        have hm : t ∈ [26, 21] := by simpa using Array.mem_of_getElem? ht
        have hall : ([26, 21].all fun u => !Tryd.prog.wantsStandIn u) = true := by kernel_rfl
        exact (show Tryd.prog.wantsStandIn t = false by simpa using List.all_eq_true.1 hall t hm)⟩)
    (by kernel_rfl)
#print axioms carded
end Go.Proofs.YtniiffbcdjoelaaDoor.boxGrows
namespace Go.Proofs.YtniiffbcdjoelaaDoor
/-- The row, under a short name, for the claim. -/
theorem boxGrows_holds : Rows.BoxGrowsCardSaid := boxGrows.carded
end Go.Proofs.YtniiffbcdjoelaaDoor
