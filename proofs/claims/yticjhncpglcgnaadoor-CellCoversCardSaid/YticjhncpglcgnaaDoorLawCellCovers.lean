-- PRINTED by print.py: the row of the law billiardlaw09_CellCovers, out of its Pure (the session's) and the printed walk. Not trusted: Lean checks it.
import Derived.Test.YticjhncpglcgnaaDoorMlaid
import Derived.Test.YticjhncpglcgnaaDoorCards
import Derived.Test.YticjhncpglcgnaaDoorTie
import Derived.SevenTiedAt
import Derived.LaidMore
import Derived.LaidHandle
import Derived.LaidLaws
import Derived.Stop.Joined
import Derived.Test.YticjhncpglcgnaaDoorRows
import Derived.Test.YticjhncpglcgnaaDoorQCellCovers
import Derived.Test.YticjhncpglcgnaaDoorPureCellCovers
import Derived.WalkKit
import Derived.ProofKit
import Derived.OpenShut
import Derived.ShutString
import Derived.ChangeOld
import Derived.Below
import Derived.SizedLaws
import Derived.Test.YticjhncpglcgnaaDoorMflat
namespace Go.Proofs.YticjhncpglcgnaaDoor.cellCovers
open Go.ChangeShapes Go.WideShapes Go.ChangeAt Go.RowKit
open Go.ChangeMaps (open_string shut_string)
set_option linter.unusedVariables false
theorem own : ownKnob Tryd.prog.godebug = none := by kernel_rfl
theorem laidOut : laidOutB Tryd.prog = true := by kernel_rfl
set_option maxRecDepth 100000 in
theorem lifted (os : Os) (started : os.Started) (H : Type) (enc : TypeId × Value → H) :
    ReturnsInHanded {} Tryd.checked os 7 .any (fun w args => (Rows.cellCoversSpec.pre enc Tryd.prog Tryd.f7 [] false w args ∧ laidMetH Tryd.prog [("billiard/box.none", Rows.laid_billiard_box_none), ("billiard/cell.factors", Rows.laid_billiard_cell_factors)] w) ∧ sizedMet enc Tryd.prog Tryd.f7 (OpenSpec.ofChange Rows.cellCoversSpec) false w args) (Rows.cellCoversSpec.post enc Tryd.prog Tryd.f7 false true false false) := by
  refine returnsInHanded_of_change_and (C := Tryd.checked) (X := fun w _ => laidMetH Tryd.prog [("billiard/box.none", Rows.laid_billiard_box_none), ("billiard/cell.factors", Rows.laid_billiard_cell_factors)] w) (fun _ _ _ hh h => h.of_heap hh) own started (by kernel_rfl) Tryd.func7
    (ChangeSpec.witness_shaped (enc := enc) (C := Tryd.checked) (os := os) (X := fun w _ => laidMetH Tryd.prog [("billiard/box.none", Rows.laid_billiard_box_none), ("billiard/cell.factors", Rows.laid_billiard_cell_factors)] w) false (World.doorLaid Tryd.prog 19 os) #[.agg #[.int .i32 0, .int .i32 0, .int .i32 0, .int .i32 0], .agg #[.int .i32 0, .int .i32 0]] 8 rfl (World.shaped_of_RefB (by kernel_rfl) (by kernel_rfl)) (by kernel_rfl) (by kernel_rfl) (by kernel_rfl) (laidMetH_of_parts3 (fuel := 8) (laidMet_of_run' 8 (by kernel_rfl) (by kernel_rfl)) (by kernel_rfl) (by kernel_rfl))) ?_
  intro W base args ds gs before hval0 hW hcnd hsz0 hL _
  have hsz : (DataW.weightsEach Tryd.prog (Tryd.f7.params.toList ++ Rows.cellCoversSpec.plain.varTypes Tryd.prog) (ds ++ gs)).all (· ≤ reachBytes) = true := hsz0
  have hval : ∀ (j : Nat) t v, Tryd.f7.params[j]? = some t → args[j]? = some v → Value.okWide Tryd.prog W .any base t v := hval0
  have hW' := hW
  obtain ⟨p, q, hA0, hV, rfl, hfz, hnd⟩ := hW
  have hA : DataW.TrodAll enc Tryd.prog W 0 (fun _ => true) true Tryd.f7.params.toList args.toList ds p := hA0
  rw [Tryd.params7] at hA hval hsz
  obtain ⟨v0, vs0, d0, ds0, p0, q0, hargs, rfl, rfl, h0, r0⟩ := trodAll_cons hA
  obtain ⟨v1, vs1, d1, ds1, p1, q1, rfl, rfl, rfl, h1, r1⟩ := trodAll_cons r0
  obtain ⟨rfl, rfl, rfl⟩ := trodAll_nil r1
  obtain rfl : args = #[v0, v1] := by cases args; simp_all
  obtain ⟨rfl, rfl⟩ := trodVars_none hV
  obtain ⟨e0, ns0, al0, ev0⟩ := Flat.open_flat (ks := [.i32, .i32, .i32, .i32]) 4 Tryd.underlying25 (by kernel_rfl) (hval 0 25 v0 rfl rfl) h0
  obtain ⟨a0_0, ms0, rfl, w0_0, al0⟩ := Flat.allIn_cons al0
  obtain ⟨a0_1, ms0, rfl, w0_1, al0⟩ := Flat.allIn_cons al0
  obtain ⟨a0_2, ms0, rfl, w0_2, al0⟩ := Flat.allIn_cons al0
  obtain ⟨a0_3, ms0, rfl, w0_3, al0⟩ := Flat.allIn_cons al0
  obtain rfl := Flat.allIn_nil al0
  have ev0 : v0 = .agg #[.int .i32 a0_0, .int .i32 a0_1, .int .i32 a0_2, .int .i32 a0_3] := ev0
  subst ev0
  obtain ⟨e1, ns1, al1, ev1⟩ := Flat.open_flat (ks := [.i32, .i32]) 4 Tryd.underlying23 (by kernel_rfl) (hval 1 23 v1 rfl rfl) h1
  obtain ⟨a1_0, ms1, rfl, w1_0, al1⟩ := Flat.allIn_cons al1
  obtain ⟨a1_1, ms1, rfl, w1_1, al1⟩ := Flat.allIn_cons al1
  obtain rfl := Flat.allIn_nil al1
  have ev1 : v1 = .agg #[.int .i32 a1_0, .int .i32 a1_1] := ev1
  subst ev1
  clear hA0 hval0 hsz0 hsz
  refine (Q.billiardlaw09_CellCovers.walk Pure.CellCovers a0_0 a0_1 a0_2 a0_3 a1_0 a1_1 W w0_0 w0_1 w0_2 w0_3 w1_0 w1_1 (Laid.globF (by rfl) (by simp) hL) (Laid.globN (by rfl) (by simp) hL)).mono fun e W' ⟨he, bel⟩ => ?_
  subst he
  exact ⟨_, rfl, _, _, _, [], _, [], hW', trodAll_mk1 (shut_bool Tryd.underlying4 _), (trodAll_cons_mk (Below.trod laidOut (by kernel_rfl) (of_decide_eq_true (by kernel_rfl)) h0 bel (Flat.lt_nil e0)) (trodAll_cons_mk (Below.trod laidOut (by kernel_rfl) (of_decide_eq_true (by kernel_rfl)) h1 bel (Flat.lt_nil e1)) trodAll_mk0)), rfl, bel.frame _, fun h => by cases h⟩
theorem over : Rows.cellCoversRow.holds Tryd.pinned (OpenSpec.ofChange Rows.cellCoversSpec) :=
  OpenClaim.holds_of_wide 7 Tryd.f7 rfl rfl rfl rfl rfl rfl rfl ⟨rfl, rfl, rfl, rfl, rfl⟩ rfl rfl rfl rfl rfl (by kernel_rfl) Tryd.func7 (by kernel_rfl)
    (of_decide_eq_true (by kernel_rfl)) (by unfold Func.isWrapper; first | (rw [if_pos (by decide +kernel)]; kernel_rfl) | (rw [if_neg (by decide +kernel)]; exact ⟨rfl, rfl⟩))
    (fun os started H enc _ => lifted os started H enc)
set_option maxRecDepth 100000 in
theorem carded : Rows.CellCoversCardSaid :=
  Claim7.holds_tied_plain_at .later [] [.data, .data] true (true, "9462c2c6bcf3c47ede2d0fc9f249c4b7f1d8f1c957d58c2624d65b3d85393c62") false
    over (fun _ h => by cases h) (by kernel_rfl) (fun _ h => by cases h) cellCovers_row_tie rfl ⟨rfl, rfl⟩ (by kernel_rfl) rfl
    (fun f fn hf hfn => by
      obtain rfl : f = 7 := Option.some.inj ((show Tryd.prog.funcNamed "billiard/billiardlaw09.CellCovers" = some 7 by kernel_rfl).symm.trans hf) |>.symm
      obtain rfl : fn = Tryd.f7 := (Option.some.inj (Tryd.func7.symm.trans hfn)).symm
      exact ⟨by kernel_rfl, fun j t ht => by
        rw [Tryd.params7] at ht
        have hm : t ∈ [25, 23] := by simpa using Array.mem_of_getElem? ht
        have hall : ([25, 23].all fun u => !Tryd.prog.wantsStandIn u) = true := by kernel_rfl
        exact (show Tryd.prog.wantsStandIn t = false by simpa using List.all_eq_true.1 hall t hm)⟩)
    (by kernel_rfl)
#print axioms carded
end Go.Proofs.YticjhncpglcgnaaDoor.cellCovers
namespace Go.Proofs.YticjhncpglcgnaaDoor
/-- The row, under a short name, for the claim. -/
theorem cellCovers_holds : Rows.CellCoversCardSaid := cellCovers.carded
end Go.Proofs.YticjhncpglcgnaaDoor
