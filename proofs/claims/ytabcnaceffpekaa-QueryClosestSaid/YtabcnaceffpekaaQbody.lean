-- PRINTED by print.py (a twelfth state) out of the translation. Not trusted: Lean checks it.
import Derived.Test.YtabcnaceffpekaaQ0
import Derived.Test.YtabcnaceffpekaaMspec
import Derived.Test.YtabcnaceffpekaaQE0
namespace Go.Proofs.Ytabcnaceffpekaa.Q
open Go.RowKit.Below renaming refl → lR
open Go.RowKit Go.Proofs.YtabcnaceffpekaaW.PrintWords Go.Proofs.YtabcnaceffpekaaW.PrintLast Go.Proofs.YtabcnaceffpekaaW.PrintMore
open Go.Proofs.YtabcnaceffpekaaW.PrintWords renaming blk_drewN → bN, blk_drew → bD, blk_alloc → bA, blk_below → bB, blk_cell → bC, blk_frozen → bF, below_alloc → lA, pw_below_drewN → lN, below_drew1 → lD, below_set → lS, below_step → lT, below_size → lZ, Aside0.mk → aM
open List renaming setIfInBounds_toArray → sA, set_cons_zero → sB, set_cons_succ → sC
open Bool renaming true → T, false → F
attribute [local go_sem] max2_int min2_int max_two min_two max_three min_three max_four min_four   -- for this text's walks alone
set_option linter.unusedVariables false
set_option linter.unusedSimpArgs false

attribute [local go_sem high] eqA24
/-! ### body_IsCircle: function 56 -/
def body_IsCircle.f (a0_0 : Int) (a0_1 : Int) (a0_2 : Int) (a0_3 : Int) (a0_4 : Int) (a0_5 : Int) (a0_6 : Int) (a0_7 : Int) (a0_8 : Int) (a0_9 : Int) : Option (Bool) := some (a0_2 == 0 && (a0_3 == 0))
set_option maxHeartbeats 8000000 in
set_option maxRecDepth 100000 in
theorem body_IsCircle.calls (a0_0 : Int) (a0_1 : Int) (a0_2 : Int) (a0_3 : Int) (a0_4 : Int) (a0_5 : Int) (a0_6 : Int) (a0_7 : Int) (a0_8 : Int) (a0_9 : Int) (r : Bool) (w : World) (h : body_IsCircle.f a0_0 a0_1 a0_2 a0_3 a0_4 a0_5 a0_6 a0_7 a0_8 a0_9 = some r) :
  Calls Try.prog 56 #[.agg #[.int .u32 a0_0, .int .i32 a0_1, .int .i32 a0_2, .int .i32 a0_3, .int .i32 a0_4, .int .i32 a0_5, .int .i32 a0_6, .int .i32 a0_7, .int .i32 a0_8, .int .i32 a0_9]] w fun e w' => e = .returned (.bool r) ∧ Below w.heap.size w w' := by
 have hu32 := Try.underlying32
 have hu24 := Try.underlying24
 have HB := aM (Below.refl w.heap.size w)
 have H : (some (a0_2 == 0 && (a0_3 == 0))) = some r := h
 clear h
 obtain rfl := Option.some.inj H
 go_enter Try.func56, Try.ntmps56
 go_wp2_with (first | ((with_reducible refine gate_dst (N := 1) rfl ?_); refine box_event ?hg (N := 1) ?hd (cs := #[.int .u32 a0_0, .int .i32 a0_1, .int .i32 a0_2, .int .i32 a0_3, .int .i32 a0_4, .int .i32 a0_5, .int .i32 a0_6, .int .i32 a0_7, .int .i32 a0_8, .int .i32 a0_9]) (t := 32) ?hr ?_; (case hd => rfl); (case hg => rfl); (case hr => first | (go_simp; done) | (go_simp; rfl)); intro b150 hg w2 hbox hb; have n0_ := aM (lT (by repeat (first | (with_reducible first | exact HB.out | apply lA | apply lN | apply lD) | exact HB.out)) hb); have n1_ := aM (hbox); have n2_ := aM ((by rw [hg]; exact (lZ (by repeat (first | (with_reducible first | exact HB.out | apply lA | apply lN | apply lD) | exact HB.out))) : w.heap.size ≤ b150)); have n3_ := aM ((by rw [hg]; exact (lZ (by repeat (first | (with_reducible first | exact HB.out | apply lA | apply lN | apply lD) | exact HB.out))) : w.heap.size ≤ b150)); clear HB; have HB := n0_; have BK150 := n1_; have GW150 := n2_; have GE150 := n3_; clear n0_ n1_ n2_ n3_; clear hb hbox hg; have hcz3_0 : w2.cell? ⟨b150, 0, none⟩ = some (.int .u32 a0_0) := (bC BK150.out 0).trans rfl; have hcz3_1 : w2.cell? ⟨b150, 1, none⟩ = some (.int .i32 a0_1) := (bC BK150.out 1).trans rfl; have hcz3_2 : w2.cell? ⟨b150, 2, none⟩ = some (.int .i32 a0_2) := (bC BK150.out 2).trans rfl; have hcz3_3 : w2.cell? ⟨b150, 3, none⟩ = some (.int .i32 a0_3) := (bC BK150.out 3).trans rfl; have hcz3_4 : w2.cell? ⟨b150, 4, none⟩ = some (.int .i32 a0_4) := (bC BK150.out 4).trans rfl; have hcz3_5 : w2.cell? ⟨b150, 5, none⟩ = some (.int .i32 a0_5) := (bC BK150.out 5).trans rfl; have hcz3_6 : w2.cell? ⟨b150, 6, none⟩ = some (.int .i32 a0_6) := (bC BK150.out 6).trans rfl; have hcz3_7 : w2.cell? ⟨b150, 7, none⟩ = some (.int .i32 a0_7) := (bC BK150.out 7).trans rfl; have hcz3_8 : w2.cell? ⟨b150, 8, none⟩ = some (.int .i32 a0_8) := (bC BK150.out 8).trans rfl; have hcz3_9 : w2.cell? ⟨b150, 9, none⟩ = some (.int .i32 a0_9) := (bC BK150.out 9).trans rfl; have hfz3_0 := bF BK150.out 0; have hfz3_1 := bF BK150.out 1; have hfz3_2 := bF BK150.out 2; have hfz3_3 := bF BK150.out 3; have hfz3_4 := bF BK150.out 4; have hfz3_5 := bF BK150.out 5; have hfz3_6 := bF BK150.out 6; have hfz3_7 := bF BK150.out 7; have hfz3_8 := bF BK150.out 8; have hfz3_9 := bF BK150.out 9))
 go_ret
 exact ⟨by first | rfl | (simp [errW_none, errW_some] <;> rfl) | (simp [*, errW_none, errW_some] <;> rfl), by repeat (first | (with_reducible first | exact HB.out | apply lA | apply lN | apply lD | refine lS ?_ GE150.out) | exact HB.out)⟩

/-! ### body_Ends: function 57 (given) -/
-- IMPORT Derived.Test.YtabcnaceffpekaaMspec
-- IMPORT Derived.Test.YtabcnaceffpekaaMtwo
def body_Ends.f (a0_0 a0_1 a0_2 a0_3 a0_4 a0_5 a0_6 a0_7 a0_8 a0_9 : Int) : Option (Int × Int × Int × Int) := some (wrap32 (a0_6 - a0_2), wrap32 (a0_7 - a0_3), wrap32 (a0_6 + a0_2), wrap32 (a0_7 + a0_3))
theorem body_Ends.calls (a0_0 a0_1 a0_2 a0_3 a0_4 a0_5 a0_6 a0_7 a0_8 a0_9 r1 r2 r3 r4 : Int) (w : World) (h : body_Ends.f a0_0 a0_1 a0_2 a0_3 a0_4 a0_5 a0_6 a0_7 a0_8 a0_9 = some (r1, r2, r3, r4)) :
  Calls Try.prog 57 #[.agg #[.int .u32 a0_0, .int .i32 a0_1, .int .i32 a0_2, .int .i32 a0_3, .int .i32 a0_4, .int .i32 a0_5, .int .i32 a0_6, .int .i32 a0_7, .int .i32 a0_8, .int .i32 a0_9]] w fun e w' => e = .returned (.tuple #[.agg #[.int .i32 r1, .int .i32 r2], .agg #[.int .i32 r3, .int .i32 r4]]) ∧ Below w.heap.size w w' := by
 unfold body_Ends.f at h
 simp only [Option.some.injEq, Prod.mk.injEq] at h
 obtain ⟨h1, h2, h3, h4⟩ := h
 have H1 := Lib.hid h1
 have H2 := Lib.hid h2
 have H3 := Lib.hid h3
 have H4 := Lib.hid h4
 clear h1 h2 h3 h4
 go_enter Try.func57, Try.ntmps57
 go_wp2_with fail
 rw [H1.out, H2.out, H3.out, H4.out]
 have hT := TwoV.fresh2 w (w.alloc (.cells #[.int .u32 a0_0, .int .i32 a0_1, .int .i32 a0_2, .int .i32 a0_3, .int .i32 a0_4, .int .i32 a0_5, .int .i32 a0_6, .int .i32 a0_7, .int .i32 a0_8, .int .i32 a0_9] 32)) 24 (lA (Below.refl _ _) _) r1 r2 r3 r4
 simp only [World.size_alloc] at hT
 generalize (((w.alloc _).alloc _).alloc _) = V at hT ⊢
 obtain ⟨e0, e1, e4, e5, e6, e7, e9, e10, e11, e12⟩ := hT
 go_region
 have hS := (TwoV.stored (⟨e0, e1, e4, e5, e6, e7, e9, e10, e11, e12⟩ : TwoV w V (w.heap.size + 1) r1 r2 r3 r4) r1 r2 r3 r4).drew
 clear e0 e1 e4 e5 e6 e7 e9 e10 e11 e12
 generalize ((((V.setCell _ _).setCell _ _).setCell _ _).setCell _ _).drew = V1 at hS ⊢
 go_wp2_with fail
 obtain ⟨e0, e1, e4, e5, e6, e7, e9, e10, e11, e12⟩ := hS
 exact bodyPost_ret (v := .tuple #[.agg #[.int .i32 r1, .int .i32 r2], .agg #[.int .i32 r3, .int .i32 r4]]) (by simp [results, Try.results57, go_sem, e4, e5, e6, e7]) rfl ⟨rfl, e0⟩

/-! ### body_abs: function 62 -/
def body_abs.f (a0 : Int) : Option (Int) := some (mx a0 (wrap32 (-a0)))
set_option maxHeartbeats 8000000 in
set_option maxRecDepth 100000 in
theorem body_abs.calls (a0 : Int) (r : Int) (w : World) (h : body_abs.f a0 = some r) :
  Calls Try.prog 62 #[.int .i32 a0] w fun e w' => e = .returned (.int .i32 r) ∧ Below w.heap.size w w' := by
 have HB := aM (Below.refl w.heap.size w)
 have H : (some (mx a0 (wrap32 (-a0)))) = some r := h
 clear h
 obtain ⟨ji2, hji2⟩ : ∃ j_ : Int, (mx a0 (wrap32 (-a0))) = j_ := ⟨_, rfl⟩
 replace H : (some ji2) = some r := by first | (rw [hji2] at H; exact H) | (simp only [hji2] at H ⊢; exact H)
 have hji2_ : (if a0 < (wrap32 (-a0)) then (wrap32 (-a0)) else a0) = ji2 := hji2
 obtain rfl := Option.some.inj H
 go_enter Try.func62, Try.ntmps62
 go_wp2
 go_ret
 exact ⟨by first | rfl | (simp [errW_none, errW_some] <;> rfl) | (simp only [← hji2]; first | rfl | (simp [errW_none, errW_some] <;> rfl)) | (simp [*, errW_none, errW_some] <;> rfl), by repeat (first | (with_reducible first | exact HB.out | apply lA | apply lN | apply lD) | exact HB.out)⟩

/-! ### body_Extent: function 53 -/
def body_Extent.f (a0_0 : Int) (a0_1 : Int) (a0_2 : Int) (a0_3 : Int) (a0_4 : Int) (a0_5 : Int) (a0_6 : Int) (a0_7 : Int) (a0_8 : Int) (a0_9 : Int) : Option (Int × Int) := (body_abs.f a0_2).bind fun t174 => ((body_abs.f a0_3).bind fun t175 => (some (wrap32 (t174 + a0_1), wrap32 (t175 + a0_1))))
def body_Extent.T1 : Bool × List (List Nat × List Nat) := (true, [([], []), ([0], [0]), ([1], [1]), ([2], [2]), ([], []), ([4], [4]), ([3, 5], [3, 5]), ([], []), ([7], [7]), ([8], [8]), ([9, 3], [9]), ([], []), ([11], [11]), ([10, 12], [10, 12]), ([6, 10, 0, 1, 2, 3, 4, 5, 6], [6]), ([13, 14, 0, 1, 2, 3, 4, 5, 6, 7, 8, 9, 10, 11, 12, 13, 14], [13])])
def body_Extent.B1 : List Nat := [0, 1, 3, 7, 0, 16, 63, 0, 128, 384, 911, 0, 2048, 8079, 2047, 32767]
theorem body_Extent.tab1 : rtab .any (opsOf Try.f53 1) = body_Extent.T1 := by kernel_rfl
theorem body_Extent.bits1 : waitsOk body_Extent.T1.2 body_Extent.B1 = true := by kernel_rfl
set_option maxHeartbeats 8000000 in
set_option maxRecDepth 100000 in
theorem body_Extent.calls (a0_0 : Int) (a0_1 : Int) (a0_2 : Int) (a0_3 : Int) (a0_4 : Int) (a0_5 : Int) (a0_6 : Int) (a0_7 : Int) (a0_8 : Int) (a0_9 : Int) (r1 : Int) (r2 : Int) (w : World) (h : body_Extent.f a0_0 a0_1 a0_2 a0_3 a0_4 a0_5 a0_6 a0_7 a0_8 a0_9 = some (r1, r2)) :
  Calls Try.prog 53 #[.agg #[.int .u32 a0_0, .int .i32 a0_1, .int .i32 a0_2, .int .i32 a0_3, .int .i32 a0_4, .int .i32 a0_5, .int .i32 a0_6, .int .i32 a0_7, .int .i32 a0_8, .int .i32 a0_9]] w fun e w' => e = .returned (.tuple #[.int .i32 r1, .int .i32 r2]) ∧ Below w.heap.size w w' := by
 have hu32 := Try.underlying32
 have HB := aM (Below.refl w.heap.size w)
 have H : ((body_abs.f a0_2).bind fun t174 => ((body_abs.f a0_3).bind fun t175 => (some (wrap32 (t174 + a0_1), wrap32 (t175 + a0_1))))) = some (r1, r2) := h
 clear h
 replace H := Option.bind_eq_some_iff.mp H
 obtain ⟨t174, A20, H⟩ := H
 try dsimp only at H
 have A2 := aM A20
 clear A20
 replace H := Option.bind_eq_some_iff.mp H
 obtain ⟨t175, A30, H⟩ := H
 try dsimp only at H
 have A3 := aM A30
 clear A30
 simp only [Option.some.injEq, Prod.mk.injEq] at H
 obtain ⟨rfl, rfl⟩ := H
 go_enter Try.func53, Try.ntmps53
 try go_wp2_with (first | ((with_reducible refine gate_dst (N := 1) rfl ?_); refine box_event ?hg (N := 1) ?hd (cs := #[.int .u32 a0_0, .int .i32 a0_1, .int .i32 a0_2, .int .i32 a0_3, .int .i32 a0_4, .int .i32 a0_5, .int .i32 a0_6, .int .i32 a0_7, .int .i32 a0_8, .int .i32 a0_9]) (t := 32) ?hr ?_; (case hd => rfl); (case hg => rfl); (case hr => first | (go_simp; done) | (go_simp; rfl)); intro b173 hg w4 hbox hb; have n0_ := aM (lT (by repeat (first | (with_reducible first | exact HB.out | apply lA | apply lN | apply lD) | exact HB.out)) hb); have n1_ := aM (hbox); have n2_ := aM ((by rw [hg]; exact (lZ (by repeat (first | (with_reducible first | exact HB.out | apply lA | apply lN | apply lD) | exact HB.out))) : w.heap.size ≤ b173)); have n3_ := aM ((by rw [hg]; exact (lZ (by repeat (first | (with_reducible first | exact HB.out | apply lA | apply lN | apply lD) | exact HB.out))) : w.heap.size ≤ b173)); clear HB; have HB := n0_; have BK173 := n1_; have GW173 := n2_; have GE173 := n3_; clear n0_ n1_ n2_ n3_; clear hb hbox hg))
 have n_ := kA1 BK173 HB (lD (lR _ _))
 clear BK173 HB
 obtain ⟨BK173, HB⟩ := n_
 refine start_ (n := 16) (S := fun w' => w'.cell? ⟨b173, 0, none⟩ = some (.int .u32 a0_0) ∧ w'.cell? ⟨b173, 1, none⟩ = some (.int .i32 a0_1) ∧ w'.cell? ⟨b173, 2, none⟩ = some (.int .i32 a0_2) ∧ w'.cell? ⟨b173, 3, none⟩ = some (.int .i32 a0_3) ∧ w'.cell? ⟨b173, 4, none⟩ = some (.int .i32 a0_4) ∧ w'.cell? ⟨b173, 5, none⟩ = some (.int .i32 a0_5) ∧ w'.cell? ⟨b173, 6, none⟩ = some (.int .i32 a0_6) ∧ w'.cell? ⟨b173, 7, none⟩ = some (.int .i32 a0_7) ∧ w'.cell? ⟨b173, 8, none⟩ = some (.int .i32 a0_8) ∧ w'.cell? ⟨b173, 9, none⟩ = some (.int .i32 a0_9)) (ds := []) #[F,F,F,F,F,F,F,F,F,F,F,F,F,F,F,F] (by kernel_rfl) rfl rfl ⟨(bC BK173.out 0).trans rfl, (bC BK173.out 1).trans rfl, (bC BK173.out 2).trans rfl, (bC BK173.out 3).trans rfl, (bC BK173.out 4).trans rfl, (bC BK173.out 5).trans rfl, (bC BK173.out 6).trans rfl, (bC BK173.out 7).trans rfl, (bC BK173.out 8).trans rfl, (bC BK173.out 9).trans rfl⟩ (fun hHeld => ?_); refine with_tabW body_Extent.tab1 body_Extent.bits1 (fun HT_ HW_ => ?_)
 generalize w4.drew = w5 at BK173 HB hHeld ⊢
 refine pure_ (i := 0) (N := some 4) (v := ?_) (a' := ?_) #[T,F,F,F,F,F,F,F,F,F,F,F,F,F,F,F] rfl rfl (any_of HT_.out (by kernel_rfl)) (fun _ _ _ h => h) (Or.inl ⟨by rfl, ?_⟩) ?_ ?_
 rotate_left
 ·intro w'
  go_simp
  with_reducible rfl
 rotate_left
 ·simp only [Act.put, sA, sB, sC, i64_w, i32_w]
  rfl
 refine pure_ (i := 1) (N := some 5) (v := ?_) (a' := ?_) #[T,T,F,F,F,F,F,F,F,F,F,F,F,F,F,F] rfl rfl (any_of HT_.out (by kernel_rfl)) (fun _ _ _ h => h) (Or.inl ⟨by rfl, ?_⟩) ?_ ?_
 rotate_left
 ·intro w'
  go_simp
  with_reducible rfl
 rotate_left
 ·simp only [Act.put, sA, sB, sC, i64_w, i32_w]
  rfl
 refine pure_ (i := 4) (N := some 8) (v := ?_) (a' := ?_) #[T,T,F,F,T,F,F,F,F,F,F,F,F,F,F,F] rfl rfl (any_of HT_.out (by kernel_rfl)) (fun _ _ _ h => h) (Or.inl ⟨by rfl, ?_⟩) ?_ ?_
 rotate_left
 ·intro w'
  go_simp
  with_reducible rfl
 rotate_left
 ·simp only [Act.put, sA, sB, sC, i64_w, i32_w]
  rfl
 refine pure_ (i := 7) (N := some 11) (v := ?_) (a' := ?_) #[T,T,F,F,T,F,F,T,F,F,F,F,F,F,F,F] rfl rfl (any_of HT_.out (by kernel_rfl)) (fun _ _ _ h => h) (Or.inl ⟨by rfl, ?_⟩) ?_ ?_
 rotate_left
 ·intro w'
  go_simp
  with_reducible rfl
 rotate_left
 ·simp only [Act.put, sA, sB, sC, i64_w, i32_w]
  rfl
 refine pure_ (i := 8) (N := some 12) (v := ?_) (a' := ?_) #[T,T,F,F,T,F,F,T,T,F,F,F,F,F,F,F] rfl rfl (any_of HT_.out (by kernel_rfl)) (fun _ _ _ h => h) (Or.inl ⟨by rfl, ?_⟩) ?_ ?_
 rotate_left
 ·intro w'
  go_simp
  with_reducible rfl
 rotate_left
 ·simp only [Act.put, sA, sB, sC, i64_w, i32_w]
  rfl
 refine pure_ (i := 11) (N := some 15) (v := ?_) (a' := ?_) #[T,T,F,F,T,F,F,T,T,F,F,T,F,F,F,F] rfl rfl (any_of HT_.out (by kernel_rfl)) (fun _ _ _ h => h) (Or.inl ⟨by rfl, ?_⟩) ?_ ?_
 rotate_left
 ·intro w'
  go_simp
  with_reducible rfl
 rotate_left
 ·simp only [Act.put, sA, sB, sC, i64_w, i32_w]
  rfl
 refine take_ (i := 2) (N := some 6) (v := ?_) (a' := ?_) #[T,T,T,F,T,F,F,T,T,F,F,T,F,F,F,F] rfl rfl (take_ofW HT_.out HW_.out (by kernel_rfl)) (fun _ _ _ h => h) (Or.inl ⟨by rfl, ?_⟩) hHeld ?_ ?_
 rotate_left
 ·rintro w' ⟨s0, s1, s2, s3, s4, s5, s6, s7, s8, s9⟩
  go_simp
  with_reducible rfl
 rotate_left
 ·simp only [Act.put, sA, sB, sC, i64_w, i32_w]
  rfl
 refine take_ (i := 5) (N := some 9) (v := ?_) (a' := ?_) #[T,T,T,F,T,T,F,T,T,F,F,T,F,F,F,F] rfl rfl (take_ofW HT_.out HW_.out (by kernel_rfl)) (fun _ _ _ h => h) (Or.inl ⟨by rfl, ?_⟩) hHeld ?_ ?_
 rotate_left
 ·rintro w' ⟨s0, s1, s2, s3, s4, s5, s6, s7, s8, s9⟩
  go_simp
  with_reducible rfl
 rotate_left
 ·simp only [Act.put, sA, sB, sC, i64_w, i32_w]
  rfl
 refine take_ (i := 9) (N := some 13) (v := ?_) (a' := ?_) #[T,T,T,F,T,T,F,T,T,T,F,T,F,F,F,F] rfl rfl (take_ofW HT_.out HW_.out (by kernel_rfl)) (fun _ _ _ h => h) (Or.inl ⟨by rfl, ?_⟩) hHeld ?_ ?_
 rotate_left
 ·rintro w' ⟨s0, s1, s2, s3, s4, s5, s6, s7, s8, s9⟩
  go_simp
  with_reducible rfl
 rotate_left
 ·simp only [Act.put, sA, sB, sC, i64_w, i32_w]
  rfl
 refine take_ (i := 12) (N := some 16) (v := ?_) (a' := ?_) #[T,T,T,F,T,T,F,T,T,T,F,T,T,F,F,F] rfl rfl (take_ofW HT_.out HW_.out (by kernel_rfl)) (fun _ _ _ h => h) (Or.inl ⟨by rfl, ?_⟩) hHeld ?_ ?_
 rotate_left
 ·rintro w' ⟨s0, s1, s2, s3, s4, s5, s6, s7, s8, s9⟩
  go_simp
  with_reducible rfl
 rotate_left
 ·simp only [Act.put, sA, sB, sC, i64_w, i32_w]
  rfl
 refine one_ (i := 3) (N := some 7) #[T,T,T,T,T,T,F,T,T,T,F,T,T,F,F,F] rfl rfl (one_of HT_.out (by kernel_rfl)) (by decide) (fun K hK => ?_)
 refine goes_ Try.func62 (by kernel_rfl) rfl #[.int .i32 a0_2] (by rfl) rfl rfl (by (try simp only [List.map_toArray, List.map_cons, List.map_nil]); first | done | rfl | (simp only [List.length_drop, List.length_take]; rfl)) ?_
 with_reducible refine (body_abs.calls a0_2 t174 _ A2.out).mono ?_
 rintro e w6 ⟨rfl, hb⟩
 refine ⟨_, rfl, ?_⟩
 have n_ := kB1 BK173 HB (by repeat first | exact lR _ _ | apply lN | apply lD | apply lA) hb
 clear BK173 HB
 obtain ⟨BK173, HB⟩ := n_
 (try clear hb)
 (try clear hb2)
 (try clear hk)
 (try clear hi)
 refine hK.out _ _ ⟨(bC BK173.out 0).trans rfl, (bC BK173.out 1).trans rfl, (bC BK173.out 2).trans rfl, (bC BK173.out 3).trans rfl, (bC BK173.out 4).trans rfl, (bC BK173.out 5).trans rfl, (bC BK173.out 6).trans rfl, (bC BK173.out 7).trans rfl, (bC BK173.out 8).trans rfl, (bC BK173.out 9).trans rfl⟩ (fun hHeld => ?_)
 clear hK K
 refine norm_ (a' := ?_) ?_ ?_
 rotate_left
 ·show Act.put _ (some 7) _ = _
  simp only [Act.put, sA, sB, sC, i64_w, i32_w]
  rfl
 refine pure_ (i := 6) (N := some 10) (v := ?_) (a' := ?_) #[T,T,T,T,T,T,T,T,T,T,F,T,T,F,F,F] rfl rfl (any_of HT_.out (by kernel_rfl)) (fun _ _ _ h => h) (Or.inl ⟨by rfl, ?_⟩) ?_ ?_
 rotate_left
 ·intro w'
  go_simp
  with_reducible rfl
 rotate_left
 ·simp only [Act.put, sA, sB, sC, i64_w, i32_w]
  rfl
 refine one_ (i := 10) (N := some 14) #[T,T,T,T,T,T,T,T,T,T,T,T,T,F,F,F] rfl rfl (one_of HT_.out (by kernel_rfl)) (by decide) (fun K hK => ?_)
 refine goes_ Try.func62 (by kernel_rfl) rfl #[.int .i32 a0_3] (by rfl) rfl rfl (by (try simp only [List.map_toArray, List.map_cons, List.map_nil]); first | done | rfl | (simp only [List.length_drop, List.length_take]; rfl)) ?_
 with_reducible refine (body_abs.calls a0_3 t175 _ A3.out).mono ?_
 rintro e w7 ⟨rfl, hb⟩
 refine ⟨_, rfl, ?_⟩
 have n_ := kB1 BK173 HB (by repeat first | exact lR _ _ | apply lN | apply lD | apply lA) hb
 clear BK173 HB
 obtain ⟨BK173, HB⟩ := n_
 (try clear hb)
 (try clear hb2)
 (try clear hk)
 (try clear hi)
 refine hK.out _ _ ⟨(bC BK173.out 0).trans rfl, (bC BK173.out 1).trans rfl, (bC BK173.out 2).trans rfl, (bC BK173.out 3).trans rfl, (bC BK173.out 4).trans rfl, (bC BK173.out 5).trans rfl, (bC BK173.out 6).trans rfl, (bC BK173.out 7).trans rfl, (bC BK173.out 8).trans rfl, (bC BK173.out 9).trans rfl⟩ (fun hHeld => ?_)
 clear hK K
 refine norm_ (a' := ?_) ?_ ?_
 rotate_left
 ·show Act.put _ (some 14) _ = _
  simp only [Act.put, sA, sB, sC, i64_w, i32_w]
  rfl
 refine pure_ (i := 13) (N := some 17) (v := ?_) (a' := ?_) #[T,T,T,T,T,T,T,T,T,T,T,T,T,T,F,F] rfl rfl (any_of HT_.out (by kernel_rfl)) (fun _ _ _ h => h) (Or.inl ⟨by rfl, ?_⟩) ?_ ?_
 rotate_left
 ·intro w'
  go_simp
  with_reducible rfl
 rotate_left
 ·simp only [Act.put, sA, sB, sC, i64_w, i32_w]
  rfl
 refine pure_ (i := 14) (N := some 2) (v := ?_) (a' := ?_) #[T,T,T,T,T,T,T,T,T,T,T,T,T,T,T,F] rfl rfl (any_of HT_.out (by kernel_rfl)) (fun _ _ _ h => h) (Or.inl ⟨by rfl, ?_⟩) ?_ ?_
 rotate_left
 ·intro w'
  go_simp
  with_reducible rfl
 rotate_left
 ·simp only [Act.put, sA, sB, sC, i64_w, i32_w]
  rfl
 refine pure_ (i := 15) (N := some 3) (v := ?_) (a' := ?_) #[T,T,T,T,T,T,T,T,T,T,T,T,T,T,T,T] rfl rfl (any_of HT_.out (by kernel_rfl)) (fun _ _ _ h => h) (Or.inl ⟨by rfl, ?_⟩) ?_ ?_
 rotate_left
 ·intro w'
  go_simp
  with_reducible rfl
 rotate_left
 ·simp only [Act.put, sA, sB, sC, i64_w, i32_w]
  rfl
 refine done_ (done_of HT_.out (by kernel_rfl)) ?_
 try go_wp2
 go_ret2
 exact ⟨by first | rfl | (simp [errW_none, errW_some] <;> rfl) | (simp [*, errW_none, errW_some] <;> rfl), by repeat (first | (with_reducible first | exact HB.out | apply lA | apply lN | apply lD | refine lS ?_ GE173.out) | exact HB.out)⟩

end Go.Proofs.Ytabcnaceffpekaa.Q
