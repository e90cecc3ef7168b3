-- PRINTED by print.py (a twelfth state) out of the translation. Not trusted: Lean checks it.
import Derived.Test.YtabcnaceffpekaaQ0
import Derived.Test.YtabcnaceffpekaaMspec
import Derived.Test.YtabcnaceffpekaaQbilliardref04
import Derived.Test.YtabcnaceffpekaaQbilliardref05
import Derived.Test.YtabcnaceffpekaaQbilliardref12
namespace Go.Proofs.Ytabcnaceffpekaa.Q
open Go.RowKit.Below renaming refl → lR
open Go.RowKit Go.Proofs.YtabcnaceffpekaaW.PrintWords Go.Proofs.YtabcnaceffpekaaW.PrintLast Go.Proofs.YtabcnaceffpekaaW.PrintMore
open Go.Proofs.YtabcnaceffpekaaW.PrintWords renaming blk_drewN → bN, blk_drew → bD, blk_alloc → bA, blk_below → bB, blk_cell → bC, blk_frozen → bF, blk_far → bR, blk_lt → bL, blk_put → bP, cell_far → cF, below_alloc → lA, pw_below_drewN → lN, below_drew1 → lD, below_set → lS, below_step → lT, below_size → lZ, Aside0.mk → aM
open List renaming setIfInBounds_toArray → sA, set_cons_zero → sB, set_cons_succ → sC
open Bool renaming true → T, false → F
attribute [local go_sem] max2_int min2_int max_two min_two max_three min_three max_four min_four   -- for this text's walks alone
set_option linter.unusedVariables false
set_option linter.unusedSimpArgs false

/-! ### billiardref24_Distance: function 11 -/
def billiardref24_Distance.f (k : Nat) (a0_0 : Int) (a0_1 : Int) (a0_2 : Int) (a0_3 : Int) (a0_4 : Int) (a0_5 : Int) (a0_6 : Int) (a0_7 : Int) (a0_8 : Int) (a0_9 : Int) (a1_0 : Int) (a1_1 : Int) : Option (Int) := (billiardref05_First.f a0_0 a0_1 a0_2 a0_3 a0_4 a0_5 a0_6 a0_7 a0_8 a0_9).bind fun bt246 => ((billiardref05_Second.f a0_0 a0_1 a0_2 a0_3 a0_4 a0_5 a0_6 a0_7 a0_8 a0_9).bind fun bt248 => ((billiardref12_Nearest.f bt246.1 bt246.2 bt248.1 bt248.2 a1_0 a1_1).bind fun bt250 => ((billiardref04_Length.f k (wrap64 ((wrap64 (bt250.1)) - (wrap64 (a1_0)))) (wrap64 ((wrap64 (bt250.2)) - (wrap64 (a1_1))))).bind fun t253 => (some (wrap64 (t253 - (wrap64 (a0_1))))))))
theorem billiardref24_Distance.mono : ∀ a0 a1 a2 a3 a4 a5 a6 a7 a8 a9 a10 a11 k, LeO (billiardref24_Distance.f k a0 a1 a2 a3 a4 a5 a6 a7 a8 a9 a10 a11) (billiardref24_Distance.f (k + 1) a0 a1 a2 a3 a4 a5 a6 a7 a8 a9 a10 a11) := by
 intro a0 a1 a2 a3 a4 a5 a6 a7 a8 a9 a10 a11 k
 unfold billiardref24_Distance.f
 repeat' first
   | (with_reducible exact billiardref04_Length.mono _ _ _)
   | (with_reducible exact LeO.refl _)
   | (with_reducible exact LeO.none _)
   | (with_reducible refine LeO.ite ?_ ?_)
   | (with_reducible refine LeO.bind ?_ (fun _ => ?_))
   | exact billiardref04_Length.mono _ _ _
   | exact LeO.none _
   | refine LeO.ite ?_ ?_
   | refine LeO.bind ?_ (fun _ => ?_)
def billiardref24_Distance.T1 : Bool × List (List Nat × List Nat) := (true, [([], []), ([0], [0]), ([], []), ([2, 1], [2]), ([], []), ([1, 3, 4, 3], [1, 3, 4]), ([], []), ([6, 5, 5, 0, 1, 2, 3, 4, 5, 6], [5, 6])])
def billiardref24_Distance.B1 : List Nat := [0, 1, 0, 7, 0, 31, 0, 127]
theorem billiardref24_Distance.tab1 : rtab .any (opsOf Try.f11 1) = billiardref24_Distance.T1 := by kernel_rfl
theorem billiardref24_Distance.bits1 : waitsOk billiardref24_Distance.T1.2 billiardref24_Distance.B1 = true := by kernel_rfl
def billiardref24_Distance.T2 : Bool × List (List Nat × List Nat) := (true, [([], []), ([0], [0]), ([1], [1]), ([], []), ([3], [3]), ([4], [4]), ([2, 5], [2, 5]), ([], []), ([7], [7]), ([8], [8]), ([], []), ([10], [10]), ([11], [11]), ([9, 12], [9, 12]), ([6, 13], [6, 13]), ([], []), ([15], [15]), ([16], [16]), ([14, 17], [14, 17]), ([18, 14, 0, 1, 2, 3, 4, 5, 6, 7, 8, 9, 10, 11, 12, 13, 14, 15, 16, 17, 18], [18])])
def billiardref24_Distance.B2 : List Nat := [0, 1, 3, 0, 8, 24, 63, 0, 128, 384, 0, 1024, 3072, 8064, 16383, 0, 32768, 98304, 262143, 524287]
theorem billiardref24_Distance.tab2 : rtab .any (opsOf Try.f11 2) = billiardref24_Distance.T2 := by kernel_rfl
theorem billiardref24_Distance.bits2 : waitsOk billiardref24_Distance.T2.2 billiardref24_Distance.B2 = true := by kernel_rfl
set_option maxHeartbeats 8000000 in
set_option maxRecDepth 100000 in
theorem billiardref24_Distance.calls (k : Nat) (a0_0 : Int) (a0_1 : Int) (a0_2 : Int) (a0_3 : Int) (a0_4 : Int) (a0_5 : Int) (a0_6 : Int) (a0_7 : Int) (a0_8 : Int) (a0_9 : Int) (a1_0 : Int) (a1_1 : Int) (r : Int) (w : World) (h : billiardref24_Distance.f k a0_0 a0_1 a0_2 a0_3 a0_4 a0_5 a0_6 a0_7 a0_8 a0_9 a1_0 a1_1 = some r) :
  Calls Try.prog 11 #[.agg #[.int .u32 a0_0, .int .i32 a0_1, .int .i32 a0_2, .int .i32 a0_3, .int .i32 a0_4, .int .i32 a0_5, .int .i32 a0_6, .int .i32 a0_7, .int .i32 a0_8, .int .i32 a0_9], .agg #[.int .i32 a1_0, .int .i32 a1_1]] w fun e w' => e = .returned (.int .i64 r) ∧ Below w.heap.size w w' := by
 have hu32 := Try.underlying32
 have hu24 := Try.underlying24
 have HB := aM (Below.refl w.heap.size w)
 have H : ((billiardref05_First.f a0_0 a0_1 a0_2 a0_3 a0_4 a0_5 a0_6 a0_7 a0_8 a0_9).bind fun bt246 => ((billiardref05_Second.f a0_0 a0_1 a0_2 a0_3 a0_4 a0_5 a0_6 a0_7 a0_8 a0_9).bind fun bt248 => ((billiardref12_Nearest.f bt246.1 bt246.2 bt248.1 bt248.2 a1_0 a1_1).bind fun bt250 => ((billiardref04_Length.f k (wrap64 ((wrap64 (bt250.1)) - (wrap64 (a1_0)))) (wrap64 ((wrap64 (bt250.2)) - (wrap64 (a1_1))))).bind fun t253 => (some (wrap64 (t253 - (wrap64 (a0_1))))))))) = some r := h
 clear h
 replace H := Option.bind_eq_some_iff.mp H
 obtain ⟨⟨t246, t247⟩, A30, H⟩ := H
 try dsimp only at H
 have A3 := aM A30
 clear A30
 replace H := Option.bind_eq_some_iff.mp H
 obtain ⟨⟨t248, t249⟩, A40, H⟩ := H
 try dsimp only at H
 have A4 := aM A40
 clear A40
 replace H := Option.bind_eq_some_iff.mp H
 obtain ⟨⟨t250, t251⟩, A50, H⟩ := H
 try dsimp only at H
 have A5 := aM A50
 clear A50
 replace H := Option.bind_eq_some_iff.mp H
 obtain ⟨t253, A60, H⟩ := H
 try dsimp only at H
 have A6 := aM A60
 clear A60
 obtain rfl := Option.some.inj H
 go_enter Try.func11, Try.ntmps11
 try go_wp2_with (first | ((with_reducible refine gate_dst (N := 2) rfl ?_); refine box_event ?hg (N := 2) ?hd (cs := #[.int .u32 a0_0, .int .i32 a0_1, .int .i32 a0_2, .int .i32 a0_3, .int .i32 a0_4, .int .i32 a0_5, .int .i32 a0_6, .int .i32 a0_7, .int .i32 a0_8, .int .i32 a0_9]) (t := 32) ?hr ?_; (case hd => rfl); (case hg => rfl); (case hr => first | (go_simp; done) | (go_simp; rfl)); intro b244 hg w7 hbox hb; have n0_ := aM (lT (by repeat (first | (with_reducible first | exact HB.out | apply lA | apply lN | apply lD) | exact HB.out)) hb); have n1_ := aM (hbox); have n2_ := aM ((by rw [hg]; exact (lZ (by repeat (first | (with_reducible first | exact HB.out | apply lA | apply lN | apply lD) | exact HB.out))) : w.heap.size ≤ b244)); have n3_ := aM ((by rw [hg]; exact (lZ (by repeat (first | (with_reducible first | exact HB.out | apply lA | apply lN | apply lD) | exact HB.out))) : w.heap.size ≤ b244)); clear HB; have HB := n0_; have BK244 := n1_; have GW244 := n2_; have GE244 := n3_; clear n0_ n1_ n2_ n3_; clear hb hbox hg) | ((with_reducible refine gate_dst (N := 3) rfl ?_); refine box_event ?hg (N := 3) ?hd (cs := #[.int .i32 a1_0, .int .i32 a1_1]) (t := 24) ?hr ?_; (case hd => rfl); (case hg => rfl); (case hr => first | (go_simp; done) | (go_simp; rfl)); intro b245 hg w8 hbox hb; have n0_ := aM (bB (by (with_reducible repeat first | apply bN | apply bD | apply bA); exact BK244.out) hb); have n1_ := aM (lT (by repeat (first | (with_reducible first | exact HB.out | apply lA | apply lN | apply lD | refine lS ?_ GE244.out) | exact HB.out)) hb); have n2_ := aM (hbox); have n3_ := aM ((by rw [hg]; exact (lZ (by repeat (first | (with_reducible first | exact HB.out | apply lA | apply lN | apply lD | refine lS ?_ GE244.out) | exact HB.out))) : w.heap.size ≤ b245)); have n4_ := aM ((by rw [hg]; exact (lZ (by repeat (first | (with_reducible first | exact HB.out | apply lA | apply lN | apply lD | refine lS ?_ GE244.out) | exact HB.out))) : w.heap.size ≤ b245)); have n5_ := aM ((by rw [hg]; exact Nat.ne_of_lt (bL (g := b244) (by (with_reducible repeat first | apply bN | apply bD | apply bA); exact BK244.out)) : b244 ≠ b245)); have n6_ := aM ((by rw [hg]; exact Nat.ne_of_gt (bL (g := b244) (by (with_reducible repeat first | apply bN | apply bD | apply bA); exact BK244.out)) : b245 ≠ b244)); clear BK244; clear HB; have BK244 := n0_; have HB := n1_; have BK245 := n2_; have GW245 := n3_; have GE245 := n4_; have N0_ := n5_; have N1_ := n6_; clear n0_ n1_ n2_ n3_ n4_ n5_ n6_; clear hb hbox hg))
 have n_ := kA2 BK244 BK245 HB (lD (lR _ _))
 clear BK244 BK245 HB
 obtain ⟨BK244, BK245, HB⟩ := n_
 refine start_ (n := 8) (S := fun w' => w'.cell? ⟨b244, 0, none⟩ = some (.int .u32 a0_0) ∧ w'.cell? ⟨b244, 1, none⟩ = some (.int .i32 a0_1) ∧ w'.cell? ⟨b244, 2, none⟩ = some (.int .i32 a0_2) ∧ w'.cell? ⟨b244, 3, none⟩ = some (.int .i32 a0_3) ∧ w'.cell? ⟨b244, 4, none⟩ = some (.int .i32 a0_4) ∧ w'.cell? ⟨b244, 5, none⟩ = some (.int .i32 a0_5) ∧ w'.cell? ⟨b244, 6, none⟩ = some (.int .i32 a0_6) ∧ w'.cell? ⟨b244, 7, none⟩ = some (.int .i32 a0_7) ∧ w'.cell? ⟨b244, 8, none⟩ = some (.int .i32 a0_8) ∧ w'.cell? ⟨b244, 9, none⟩ = some (.int .i32 a0_9) ∧ w'.cell? ⟨b245, 0, none⟩ = some (.int .i32 a1_0) ∧ w'.cell? ⟨b245, 1, none⟩ = some (.int .i32 a1_1)) (ds := []) #[F,F,F,F,F,F,F,F] (by kernel_rfl) rfl rfl ⟨(bC BK244.out 0).trans rfl, (bC BK244.out 1).trans rfl, (bC BK244.out 2).trans rfl, (bC BK244.out 3).trans rfl, (bC BK244.out 4).trans rfl, (bC BK244.out 5).trans rfl, (bC BK244.out 6).trans rfl, (bC BK244.out 7).trans rfl, (bC BK244.out 8).trans rfl, (bC BK244.out 9).trans rfl, (bC BK245.out 0).trans rfl, (bC BK245.out 1).trans rfl⟩ (fun hHeld => ?_); refine with_tabW billiardref24_Distance.tab1 billiardref24_Distance.bits1 (fun HT_ HW_ => ?_)
 generalize w8.drew = w9 at BK244 BK245 HB hHeld ⊢
 refine take_ (i := 0) (N := some 6) (v := ?_) (a' := ?_) #[T,F,F,F,F,F,F,F] rfl rfl (take_ofW HT_.out HW_.out (by kernel_rfl)) (fun _ _ _ h => h) (Or.inl ⟨by rfl, ?_⟩) hHeld ?_ ?_
 rotate_left
 ·rintro w' ⟨s0, s1, s2, s3, s4, s5, s6, s7, s8, s9, s10, s11⟩
  go_simp
  with_reducible rfl
 rotate_left
 ·simp only [Act.put, sA, sB, sC, i64_w, i32_w]
  rfl
 refine take_ (i := 2) (N := some 8) (v := ?_) (a' := ?_) #[T,F,T,F,F,F,F,F] rfl rfl (take_ofW HT_.out HW_.out (by kernel_rfl)) (fun _ _ _ h => h) (Or.inl ⟨by rfl, ?_⟩) hHeld ?_ ?_
 rotate_left
 ·rintro w' ⟨s0, s1, s2, s3, s4, s5, s6, s7, s8, s9, s10, s11⟩
  go_simp
  with_reducible rfl
 rotate_left
 ·simp only [Act.put, sA, sB, sC, i64_w, i32_w]
  rfl
 refine take_ (i := 4) (N := some 10) (v := ?_) (a' := ?_) #[T,F,T,F,T,F,F,F] rfl rfl (take_ofW HT_.out HW_.out (by kernel_rfl)) (fun _ _ _ h => h) (Or.inl ⟨by rfl, ?_⟩) hHeld ?_ ?_
 rotate_left
 ·rintro w' ⟨s0, s1, s2, s3, s4, s5, s6, s7, s8, s9, s10, s11⟩
  go_simp
  with_reducible rfl
 rotate_left
 ·simp only [Act.put, sA, sB, sC, i64_w, i32_w]
  rfl
 refine join_ (σ := Nat) 1 #[T,T,T,T,T,T,T,F] (fun s_ => [(7, .agg #[.int .i32 t246, .int .i32 t247]), (9, .agg #[.int .i32 t248, .int .i32 t249]), (11, .agg #[.int .i32 t250, .int .i32 t251]), (5, .pointer (some ⟨s_, 0, none⟩))]) (fun s_ w' => (w'.cell? ⟨b244, 0, none⟩ = some (.int .u32 a0_0) ∧ w'.cell? ⟨b244, 1, none⟩ = some (.int .i32 a0_1) ∧ w'.cell? ⟨b244, 2, none⟩ = some (.int .i32 a0_2) ∧ w'.cell? ⟨b244, 3, none⟩ = some (.int .i32 a0_3) ∧ w'.cell? ⟨b244, 4, none⟩ = some (.int .i32 a0_4) ∧ w'.cell? ⟨b244, 5, none⟩ = some (.int .i32 a0_5) ∧ w'.cell? ⟨b244, 6, none⟩ = some (.int .i32 a0_6) ∧ w'.cell? ⟨b244, 7, none⟩ = some (.int .i32 a0_7) ∧ w'.cell? ⟨b244, 8, none⟩ = some (.int .i32 a0_8) ∧ w'.cell? ⟨b244, 9, none⟩ = some (.int .i32 a0_9) ∧ w'.cell? ⟨b245, 0, none⟩ = some (.int .i32 a1_0) ∧ w'.cell? ⟨b245, 1, none⟩ = some (.int .i32 a1_1)) ∧ (w'.heap[b244]? = some (.cells #[.int .u32 a0_0, .int .i32 a0_1, .int .i32 a0_2, .int .i32 a0_3, .int .i32 a0_4, .int .i32 a0_5, .int .i32 a0_6, .int .i32 a0_7, .int .i32 a0_8, .int .i32 a0_9] 32 (0, 0))) ∧ (w'.heap[b245]? = some (.cells #[.int .i32 a1_0, .int .i32 a1_1] 24 (0, 0))) ∧ (w'.heap[s_]? = some (.cells #[.int .i32 0, .int .i32 0] 24 (0, 0))) ∧ (w.heap.size ≤ s_) ∧ (w.heap.size ≤ s_) ∧ (b244 ≠ s_) ∧ (s_ ≠ b244) ∧ (b245 ≠ s_) ∧ (s_ ≠ b245) ∧ (Below w.heap.size w w')) ?_ ?_
 rotate_left
 ·intro hCont
  refine two_ (i := 1) (j := 6) (Ni := some 7) (Nj := some 5) #[T,T,T,F,T,F,F,F] #[T,F,T,F,T,F,T,F] rfl rfl rfl rfl (two_of HT_.out (by kernel_rfl)) (by decide) (by decide) (fun K hK => ?_) (fun K hK => ?_)
  ·skip
   refine goes_ Try.func24 (by kernel_rfl) rfl #[.agg #[.int .u32 a0_0, .int .i32 a0_1, .int .i32 a0_2, .int .i32 a0_3, .int .i32 a0_4, .int .i32 a0_5, .int .i32 a0_6, .int .i32 a0_7, .int .i32 a0_8, .int .i32 a0_9]] (by rfl) rfl rfl (by (try simp only [List.map_toArray, List.map_cons, List.map_nil]); first | done | rfl | (simp only [List.length_drop, List.length_take]; rfl)) ?_
   with_reducible refine (billiardref05_First.calls a0_0 a0_1 a0_2 a0_3 a0_4 a0_5 a0_6 a0_7 a0_8 a0_9 t246 t247 _ A3.out).mono ?_
   rintro e w10 ⟨rfl, hb⟩
   refine ⟨_, rfl, ?_⟩
   have n_ := kB2 BK244 BK245 HB (by repeat first | exact lR _ _ | apply lN | apply lD | apply lA) hb
   clear BK244 BK245 HB
   obtain ⟨BK244, BK245, HB⟩ := n_
   (try clear hb)
   (try clear hb2)
   (try clear hk)
   (try clear hi)
   refine hK.out _ _ ⟨(bC BK244.out 0).trans rfl, (bC BK244.out 1).trans rfl, (bC BK244.out 2).trans rfl, (bC BK244.out 3).trans rfl, (bC BK244.out 4).trans rfl, (bC BK244.out 5).trans rfl, (bC BK244.out 6).trans rfl, (bC BK244.out 7).trans rfl, (bC BK244.out 8).trans rfl, (bC BK244.out 9).trans rfl, (bC BK245.out 0).trans rfl, (bC BK245.out 1).trans rfl⟩ (fun hHeld => ?_)
   clear hK K
   refine norm_ (a' := ?_) ?_ ?_
   rotate_left
   ·show Act.put _ (some 7) _ = _
    simp only [Act.put, sA, sB, sC, i64_w, i32_w]
    rfl
   refine two_ (i := 3) (j := 6) (Ni := some 9) (Nj := some 5) #[T,T,T,T,T,F,F,F] #[T,T,T,F,T,F,T,F] rfl rfl rfl rfl (two_of HT_.out (by kernel_rfl)) (by decide) (by decide) (fun K hK => ?_) (fun K hK => ?_)
   ·skip
    refine goes_ Try.func25 (by kernel_rfl) rfl #[.agg #[.int .u32 a0_0, .int .i32 a0_1, .int .i32 a0_2, .int .i32 a0_3, .int .i32 a0_4, .int .i32 a0_5, .int .i32 a0_6, .int .i32 a0_7, .int .i32 a0_8, .int .i32 a0_9]] (by rfl) rfl rfl (by (try simp only [List.map_toArray, List.map_cons, List.map_nil]); first | done | rfl | (simp only [List.length_drop, List.length_take]; rfl)) ?_
    with_reducible refine (billiardref05_Second.calls a0_0 a0_1 a0_2 a0_3 a0_4 a0_5 a0_6 a0_7 a0_8 a0_9 t248 t249 _ A4.out).mono ?_
    rintro e w11 ⟨rfl, hb⟩
    refine ⟨_, rfl, ?_⟩
    have n_ := kB2 BK244 BK245 HB (by repeat first | exact lR _ _ | apply lN | apply lD | apply lA) hb
    clear BK244 BK245 HB
    obtain ⟨BK244, BK245, HB⟩ := n_
    (try clear hb)
    (try clear hb2)
    (try clear hk)
    (try clear hi)
    refine hK.out _ _ ⟨(bC BK244.out 0).trans rfl, (bC BK244.out 1).trans rfl, (bC BK244.out 2).trans rfl, (bC BK244.out 3).trans rfl, (bC BK244.out 4).trans rfl, (bC BK244.out 5).trans rfl, (bC BK244.out 6).trans rfl, (bC BK244.out 7).trans rfl, (bC BK244.out 8).trans rfl, (bC BK244.out 9).trans rfl, (bC BK245.out 0).trans rfl, (bC BK245.out 1).trans rfl⟩ (fun hHeld => ?_)
    clear hK K
    refine norm_ (a' := ?_) ?_ ?_
    rotate_left
    ·show Act.put _ (some 9) _ = _
     simp only [Act.put, sA, sB, sC, i64_w, i32_w]
     rfl
    refine two_ (i := 5) (j := 6) (Ni := some 11) (Nj := some 5) #[T,T,T,T,T,T,F,F] #[T,T,T,T,T,F,T,F] rfl rfl rfl rfl (two_of HT_.out (by kernel_rfl)) (by decide) (by decide) (fun K hK => ?_) (fun K hK => ?_)
    ·skip
     refine goes_ Try.func30 (by kernel_rfl) rfl #[.agg #[.int .i32 t246, .int .i32 t247], .agg #[.int .i32 t248, .int .i32 t249], .agg #[.int .i32 a1_0, .int .i32 a1_1]] (by rfl) rfl rfl (by (try simp only [List.map_toArray, List.map_cons, List.map_nil]); first | done | rfl | (simp only [List.length_drop, List.length_take]; rfl)) ?_
     with_reducible refine (billiardref12_Nearest.calls t246 t247 t248 t249 a1_0 a1_1 t250 t251 _ A5.out).mono ?_
     rintro e w12 ⟨rfl, hb⟩
     refine ⟨_, rfl, ?_⟩
     have n_ := kB2 BK244 BK245 HB (by repeat first | exact lR _ _ | apply lN | apply lD | apply lA) hb
     clear BK244 BK245 HB
     obtain ⟨BK244, BK245, HB⟩ := n_
     (try clear hb)
     (try clear hb2)
     (try clear hk)
     (try clear hi)
     refine hK.out _ _ ⟨(bC BK244.out 0).trans rfl, (bC BK244.out 1).trans rfl, (bC BK244.out 2).trans rfl, (bC BK244.out 3).trans rfl, (bC BK244.out 4).trans rfl, (bC BK244.out 5).trans rfl, (bC BK244.out 6).trans rfl, (bC BK244.out 7).trans rfl, (bC BK244.out 8).trans rfl, (bC BK244.out 9).trans rfl, (bC BK245.out 0).trans rfl, (bC BK245.out 1).trans rfl⟩ (fun hHeld => ?_)
     clear hK K
     refine norm_ (a' := ?_) ?_ ?_
     rotate_left
     ·show Act.put _ (some 11) _ = _
      simp only [Act.put, sA, sB, sC, i64_w, i32_w]
      rfl
     refine one_ (i := 6) (N := some 5) #[T,T,T,T,T,T,T,F] rfl rfl (one_of HT_.out (by kernel_rfl)) (by decide) (fun K hK => ?_)
     refine box_step ?hg (N := 5) ?hd (cs := #[.int .i32 0, .int .i32 0]) (t := 24) ?hr ?_; (case hd => rfl); (case hg => rfl); (case hr => first | (go_simp; done) | (go_simp; rfl))
     intro b252 hg w13 hbox hb
     have n0_ := aM (bB (by (with_reducible repeat first | apply bN | apply bD | apply bA); exact BK244.out) hb)
     have n1_ := aM (bB (by (with_reducible repeat first | apply bN | apply bD | apply bA); exact BK245.out) hb)
     have n2_ := aM (lT (by repeat (first | (with_reducible first | exact HB.out | apply lA | apply lN | apply lD | refine lS ?_ GE244.out | refine lS ?_ GE245.out) | exact HB.out)) hb)
     have n3_ := aM (hbox)
     have n4_ := aM ((by rw [hg]; exact (lZ (by repeat (first | (with_reducible first | exact HB.out | apply lA | apply lN | apply lD | refine lS ?_ GE244.out | refine lS ?_ GE245.out) | exact HB.out))) : w.heap.size ≤ b252))
     have n5_ := aM ((by rw [hg]; exact (lZ (by repeat (first | (with_reducible first | exact HB.out | apply lA | apply lN | apply lD | refine lS ?_ GE244.out | refine lS ?_ GE245.out) | exact HB.out))) : w.heap.size ≤ b252))
     have n6_ := aM ((by rw [hg]; exact Nat.ne_of_lt (bL (g := b244) (by (with_reducible repeat first | apply bN | apply bD | apply bA); exact BK244.out)) : b244 ≠ b252))
     have n7_ := aM ((by rw [hg]; exact Nat.ne_of_gt (bL (g := b244) (by (with_reducible repeat first | apply bN | apply bD | apply bA); exact BK244.out)) : b252 ≠ b244))
     have n8_ := aM ((by rw [hg]; exact Nat.ne_of_lt (bL (g := b245) (by (with_reducible repeat first | apply bN | apply bD | apply bA); exact BK245.out)) : b245 ≠ b252))
     have n9_ := aM ((by rw [hg]; exact Nat.ne_of_gt (bL (g := b245) (by (with_reducible repeat first | apply bN | apply bD | apply bA); exact BK245.out)) : b252 ≠ b245))
     clear BK244
     clear BK245
     clear HB
     have BK244 := n0_
     have BK245 := n1_
     have HB := n2_
     have BK252 := n3_
     have GW252 := n4_
     have GE252 := n5_
     have N2_ := n6_
     have N3_ := n7_
     have N4_ := n8_
     have N5_ := n9_
     clear n0_ n1_ n2_ n3_ n4_ n5_ n6_ n7_ n8_ n9_
     clear hb hbox hg
     refine hK.out _ _ ⟨(bC BK244.out 0).trans rfl, (bC BK244.out 1).trans rfl, (bC BK244.out 2).trans rfl, (bC BK244.out 3).trans rfl, (bC BK244.out 4).trans rfl, (bC BK244.out 5).trans rfl, (bC BK244.out 6).trans rfl, (bC BK244.out 7).trans rfl, (bC BK244.out 8).trans rfl, (bC BK244.out 9).trans rfl, (bC BK245.out 0).trans rfl, (bC BK245.out 1).trans rfl⟩ (fun hHeld => ?_)
     clear hK K
     refine norm_ (a' := ?_) ?_ ?_
     rotate_left
     ·show Act.put _ (some 5) _ = _
      simp only [Act.put, sA, sB, sC, i64_w, i32_w]
      rfl
     exact norm_ (by simp only [putAll, Act.put, sA, sB, sC]) (hCont (b252) _ ⟨hHeld, (by (with_reducible repeat first | apply bN | apply bD | apply bA); exact BK244.out), (by (with_reducible repeat first | apply bN | apply bD | apply bA); exact BK245.out), (by (with_reducible repeat first | apply bN | apply bD | apply bA); exact BK252.out), GW252.out, GE252.out, N2_.out, N3_.out, N4_.out, N5_.out, (by repeat (first | (with_reducible first | exact HB.out | apply lA | apply lN | apply lD | refine lS ?_ GE244.out | refine lS ?_ GE245.out | refine lS ?_ GE252.out) | exact HB.out))⟩)
    ·skip
     refine box_step ?hg (N := 5) ?hd (cs := #[.int .i32 0, .int .i32 0]) (t := 24) ?hr ?_; (case hd => rfl); (case hg => rfl); (case hr => first | (go_simp; done) | (go_simp; rfl))
     intro b252 hg w12 hbox hb
     have n0_ := aM (bB (by (with_reducible repeat first | apply bN | apply bD | apply bA); exact BK244.out) hb)
     have n1_ := aM (bB (by (with_reducible repeat first | apply bN | apply bD | apply bA); exact BK245.out) hb)
     have n2_ := aM (lT (by repeat (first | (with_reducible first | exact HB.out | apply lA | apply lN | apply lD | refine lS ?_ GE244.out | refine lS ?_ GE245.out) | exact HB.out)) hb)
     have n3_ := aM (hbox)
     have n4_ := aM ((by rw [hg]; exact (lZ (by repeat (first | (with_reducible first | exact HB.out | apply lA | apply lN | apply lD | refine lS ?_ GE244.out | refine lS ?_ GE245.out) | exact HB.out))) : w.heap.size ≤ b252))
     have n5_ := aM ((by rw [hg]; exact (lZ (by repeat (first | (with_reducible first | exact HB.out | apply lA | apply lN | apply lD | refine lS ?_ GE244.out | refine lS ?_ GE245.out) | exact HB.out))) : w.heap.size ≤ b252))
     have n6_ := aM ((by rw [hg]; exact Nat.ne_of_lt (bL (g := b244) (by (with_reducible repeat first | apply bN | apply bD | apply bA); exact BK244.out)) : b244 ≠ b252))
     have n7_ := aM ((by rw [hg]; exact Nat.ne_of_gt (bL (g := b244) (by (with_reducible repeat first | apply bN | apply bD | apply bA); exact BK244.out)) : b252 ≠ b244))
     have n8_ := aM ((by rw [hg]; exact Nat.ne_of_lt (bL (g := b245) (by (with_reducible repeat first | apply bN | apply bD | apply bA); exact BK245.out)) : b245 ≠ b252))
     have n9_ := aM ((by rw [hg]; exact Nat.ne_of_gt (bL (g := b245) (by (with_reducible repeat first | apply bN | apply bD | apply bA); exact BK245.out)) : b252 ≠ b245))
     clear BK244
     clear BK245
     clear HB
     have BK244 := n0_
     have BK245 := n1_
     have HB := n2_
     have BK252 := n3_
     have GW252 := n4_
     have GE252 := n5_
     have N2_ := n6_
     have N3_ := n7_
     have N4_ := n8_
     have N5_ := n9_
     clear n0_ n1_ n2_ n3_ n4_ n5_ n6_ n7_ n8_ n9_
     clear hb hbox hg
     refine hK.out _ _ ⟨(bC BK244.out 0).trans rfl, (bC BK244.out 1).trans rfl, (bC BK244.out 2).trans rfl, (bC BK244.out 3).trans rfl, (bC BK244.out 4).trans rfl, (bC BK244.out 5).trans rfl, (bC BK244.out 6).trans rfl, (bC BK244.out 7).trans rfl, (bC BK244.out 8).trans rfl, (bC BK244.out 9).trans rfl, (bC BK245.out 0).trans rfl, (bC BK245.out 1).trans rfl⟩ (fun hHeld => ?_)
     clear hK K
     refine norm_ (a' := ?_) ?_ ?_
     rotate_left
     ·show Act.put _ (some 5) _ = _
      simp only [Act.put, sA, sB, sC, i64_w, i32_w]
      rfl
     refine one_ (i := 5) (N := some 11) #[T,T,T,T,T,T,T,F] rfl rfl (one_of HT_.out (by kernel_rfl)) (by decide) (fun K hK => ?_)
     refine goes_ Try.func30 (by kernel_rfl) rfl #[.agg #[.int .i32 t246, .int .i32 t247], .agg #[.int .i32 t248, .int .i32 t249], .agg #[.int .i32 a1_0, .int .i32 a1_1]] (by rfl) rfl rfl (by (try simp only [List.map_toArray, List.map_cons, List.map_nil]); first | done | rfl | (simp only [List.length_drop, List.length_take]; rfl)) ?_
     with_reducible refine (billiardref12_Nearest.calls t246 t247 t248 t249 a1_0 a1_1 t250 t251 _ A5.out).mono ?_
     rintro e w13 ⟨rfl, hb⟩
     refine ⟨_, rfl, ?_⟩
     have n_ := kB3 BK244 BK245 BK252 HB (by repeat first | exact lR _ _ | apply lN | apply lD | apply lA) hb
     clear BK244 BK245 BK252 HB
     obtain ⟨BK244, BK245, BK252, HB⟩ := n_
     (try clear hb)
     (try clear hb2)
     (try clear hk)
     (try clear hi)
     refine hK.out _ _ ⟨(bC BK244.out 0).trans rfl, (bC BK244.out 1).trans rfl, (bC BK244.out 2).trans rfl, (bC BK244.out 3).trans rfl, (bC BK244.out 4).trans rfl, (bC BK244.out 5).trans rfl, (bC BK244.out 6).trans rfl, (bC BK244.out 7).trans rfl, (bC BK244.out 8).trans rfl, (bC BK244.out 9).trans rfl, (bC BK245.out 0).trans rfl, (bC BK245.out 1).trans rfl⟩ (fun hHeld => ?_)
     clear hK K
     refine norm_ (a' := ?_) ?_ ?_
     rotate_left
     ·show Act.put _ (some 11) _ = _
      simp only [Act.put, sA, sB, sC, i64_w, i32_w]
      rfl
     exact norm_ (by simp only [putAll, Act.put, sA, sB, sC]) (hCont (b252) _ ⟨hHeld, (by (with_reducible repeat first | apply bN | apply bD | apply bA); exact BK244.out), (by (with_reducible repeat first | apply bN | apply bD | apply bA); exact BK245.out), (by (with_reducible repeat first | apply bN | apply bD | apply bA); exact BK252.out), GW252.out, GE252.out, N2_.out, N3_.out, N4_.out, N5_.out, (by repeat (first | (with_reducible first | exact HB.out | apply lA | apply lN | apply lD | refine lS ?_ GE244.out | refine lS ?_ GE245.out | refine lS ?_ GE252.out) | exact HB.out))⟩)
   ·skip
    refine box_step ?hg (N := 5) ?hd (cs := #[.int .i32 0, .int .i32 0]) (t := 24) ?hr ?_; (case hd => rfl); (case hg => rfl); (case hr => first | (go_simp; done) | (go_simp; rfl))
    intro b252 hg w11 hbox hb
    have n0_ := aM (bB (by (with_reducible repeat first | apply bN | apply bD | apply bA); exact BK244.out) hb)
    have n1_ := aM (bB (by (with_reducible repeat first | apply bN | apply bD | apply bA); exact BK245.out) hb)
    have n2_ := aM (lT (by repeat (first | (with_reducible first | exact HB.out | apply lA | apply lN | apply lD | refine lS ?_ GE244.out | refine lS ?_ GE245.out) | exact HB.out)) hb)
    have n3_ := aM (hbox)
    have n4_ := aM ((by rw [hg]; exact (lZ (by repeat (first | (with_reducible first | exact HB.out | apply lA | apply lN | apply lD | refine lS ?_ GE244.out | refine lS ?_ GE245.out) | exact HB.out))) : w.heap.size ≤ b252))
    have n5_ := aM ((by rw [hg]; exact (lZ (by repeat (first | (with_reducible first | exact HB.out | apply lA | apply lN | apply lD | refine lS ?_ GE244.out | refine lS ?_ GE245.out) | exact HB.out))) : w.heap.size ≤ b252))
    have n6_ := aM ((by rw [hg]; exact Nat.ne_of_lt (bL (g := b244) (by (with_reducible repeat first | apply bN | apply bD | apply bA); exact BK244.out)) : b244 ≠ b252))
    have n7_ := aM ((by rw [hg]; exact Nat.ne_of_gt (bL (g := b244) (by (with_reducible repeat first | apply bN | apply bD | apply bA); exact BK244.out)) : b252 ≠ b244))
    have n8_ := aM ((by rw [hg]; exact Nat.ne_of_lt (bL (g := b245) (by (with_reducible repeat first | apply bN | apply bD | apply bA); exact BK245.out)) : b245 ≠ b252))
    have n9_ := aM ((by rw [hg]; exact Nat.ne_of_gt (bL (g := b245) (by (with_reducible repeat first | apply bN | apply bD | apply bA); exact BK245.out)) : b252 ≠ b245))
    clear BK244
    clear BK245
    clear HB
    have BK244 := n0_
    have BK245 := n1_
    have HB := n2_
    have BK252 := n3_
    have GW252 := n4_
    have GE252 := n5_
    have N2_ := n6_
    have N3_ := n7_
    have N4_ := n8_
    have N5_ := n9_
    clear n0_ n1_ n2_ n3_ n4_ n5_ n6_ n7_ n8_ n9_
    clear hb hbox hg
    refine hK.out _ _ ⟨(bC BK244.out 0).trans rfl, (bC BK244.out 1).trans rfl, (bC BK244.out 2).trans rfl, (bC BK244.out 3).trans rfl, (bC BK244.out 4).trans rfl, (bC BK244.out 5).trans rfl, (bC BK244.out 6).trans rfl, (bC BK244.out 7).trans rfl, (bC BK244.out 8).trans rfl, (bC BK244.out 9).trans rfl, (bC BK245.out 0).trans rfl, (bC BK245.out 1).trans rfl⟩ (fun hHeld => ?_)
    clear hK K
    refine norm_ (a' := ?_) ?_ ?_
    rotate_left
    ·show Act.put _ (some 5) _ = _
     simp only [Act.put, sA, sB, sC, i64_w, i32_w]
     rfl
    refine one_ (i := 3) (N := some 9) #[T,T,T,T,T,F,T,F] rfl rfl (one_of HT_.out (by kernel_rfl)) (by decide) (fun K hK => ?_)
    refine goes_ Try.func25 (by kernel_rfl) rfl #[.agg #[.int .u32 a0_0, .int .i32 a0_1, .int .i32 a0_2, .int .i32 a0_3, .int .i32 a0_4, .int .i32 a0_5, .int .i32 a0_6, .int .i32 a0_7, .int .i32 a0_8, .int .i32 a0_9]] (by rfl) rfl rfl (by (try simp only [List.map_toArray, List.map_cons, List.map_nil]); first | done | rfl | (simp only [List.length_drop, List.length_take]; rfl)) ?_
    with_reducible refine (billiardref05_Second.calls a0_0 a0_1 a0_2 a0_3 a0_4 a0_5 a0_6 a0_7 a0_8 a0_9 t248 t249 _ A4.out).mono ?_
    rintro e w12 ⟨rfl, hb⟩
    refine ⟨_, rfl, ?_⟩
    have n_ := kB3 BK244 BK245 BK252 HB (by repeat first | exact lR _ _ | apply lN | apply lD | apply lA) hb
    clear BK244 BK245 BK252 HB
    obtain ⟨BK244, BK245, BK252, HB⟩ := n_
    (try clear hb)
    (try clear hb2)
    (try clear hk)
    (try clear hi)
    refine hK.out _ _ ⟨(bC BK244.out 0).trans rfl, (bC BK244.out 1).trans rfl, (bC BK244.out 2).trans rfl, (bC BK244.out 3).trans rfl, (bC BK244.out 4).trans rfl, (bC BK244.out 5).trans rfl, (bC BK244.out 6).trans rfl, (bC BK244.out 7).trans rfl, (bC BK244.out 8).trans rfl, (bC BK244.out 9).trans rfl, (bC BK245.out 0).trans rfl, (bC BK245.out 1).trans rfl⟩ (fun hHeld => ?_)
    clear hK K
    refine norm_ (a' := ?_) ?_ ?_
    rotate_left
    ·show Act.put _ (some 9) _ = _
     simp only [Act.put, sA, sB, sC, i64_w, i32_w]
     rfl
    refine one_ (i := 5) (N := some 11) #[T,T,T,T,T,T,T,F] rfl rfl (one_of HT_.out (by kernel_rfl)) (by decide) (fun K hK => ?_)
    refine goes_ Try.func30 (by kernel_rfl) rfl #[.agg #[.int .i32 t246, .int .i32 t247], .agg #[.int .i32 t248, .int .i32 t249], .agg #[.int .i32 a1_0, .int .i32 a1_1]] (by rfl) rfl rfl (by (try simp only [List.map_toArray, List.map_cons, List.map_nil]); first | done | rfl | (simp only [List.length_drop, List.length_take]; rfl)) ?_
    with_reducible refine (billiardref12_Nearest.calls t246 t247 t248 t249 a1_0 a1_1 t250 t251 _ A5.out).mono ?_
    rintro e w13 ⟨rfl, hb⟩
    refine ⟨_, rfl, ?_⟩
    have n_ := kB3 BK244 BK245 BK252 HB (by repeat first | exact lR _ _ | apply lN | apply lD | apply lA) hb
    clear BK244 BK245 BK252 HB
    obtain ⟨BK244, BK245, BK252, HB⟩ := n_
    (try clear hb)
    (try clear hb2)
    (try clear hk)
    (try clear hi)
    refine hK.out _ _ ⟨(bC BK244.out 0).trans rfl, (bC BK244.out 1).trans rfl, (bC BK244.out 2).trans rfl, (bC BK244.out 3).trans rfl, (bC BK244.out 4).trans rfl, (bC BK244.out 5).trans rfl, (bC BK244.out 6).trans rfl, (bC BK244.out 7).trans rfl, (bC BK244.out 8).trans rfl, (bC BK244.out 9).trans rfl, (bC BK245.out 0).trans rfl, (bC BK245.out 1).trans rfl⟩ (fun hHeld => ?_)
    clear hK K
    refine norm_ (a' := ?_) ?_ ?_
    rotate_left
    ·show Act.put _ (some 11) _ = _
     simp only [Act.put, sA, sB, sC, i64_w, i32_w]
     rfl
    exact norm_ (by simp only [putAll, Act.put, sA, sB, sC]) (hCont (b252) _ ⟨hHeld, (by (with_reducible repeat first | apply bN | apply bD | apply bA); exact BK244.out), (by (with_reducible repeat first | apply bN | apply bD | apply bA); exact BK245.out), (by (with_reducible repeat first | apply bN | apply bD | apply bA); exact BK252.out), GW252.out, GE252.out, N2_.out, N3_.out, N4_.out, N5_.out, (by repeat (first | (with_reducible first | exact HB.out | apply lA | apply lN | apply lD | refine lS ?_ GE244.out | refine lS ?_ GE245.out | refine lS ?_ GE252.out) | exact HB.out))⟩)
  ·skip
   refine box_step ?hg (N := 5) ?hd (cs := #[.int .i32 0, .int .i32 0]) (t := 24) ?hr ?_; (case hd => rfl); (case hg => rfl); (case hr => first | (go_simp; done) | (go_simp; rfl))
   intro b252 hg w10 hbox hb
   have n0_ := aM (bB (by (with_reducible repeat first | apply bN | apply bD | apply bA); exact BK244.out) hb)
   have n1_ := aM (bB (by (with_reducible repeat first | apply bN | apply bD | apply bA); exact BK245.out) hb)
   have n2_ := aM (lT (by repeat (first | (with_reducible first | exact HB.out | apply lA | apply lN | apply lD | refine lS ?_ GE244.out | refine lS ?_ GE245.out) | exact HB.out)) hb)
   have n3_ := aM (hbox)
   have n4_ := aM ((by rw [hg]; exact (lZ (by repeat (first | (with_reducible first | exact HB.out | apply lA | apply lN | apply lD | refine lS ?_ GE244.out | refine lS ?_ GE245.out) | exact HB.out))) : w.heap.size ≤ b252))
   have n5_ := aM ((by rw [hg]; exact (lZ (by repeat (first | (with_reducible first | exact HB.out | apply lA | apply lN | apply lD | refine lS ?_ GE244.out | refine lS ?_ GE245.out) | exact HB.out))) : w.heap.size ≤ b252))
   have n6_ := aM ((by rw [hg]; exact Nat.ne_of_lt (bL (g := b244) (by (with_reducible repeat first | apply bN | apply bD | apply bA); exact BK244.out)) : b244 ≠ b252))
   have n7_ := aM ((by rw [hg]; exact Nat.ne_of_gt (bL (g := b244) (by (with_reducible repeat first | apply bN | apply bD | apply bA); exact BK244.out)) : b252 ≠ b244))
   have n8_ := aM ((by rw [hg]; exact Nat.ne_of_lt (bL (g := b245) (by (with_reducible repeat first | apply bN | apply bD | apply bA); exact BK245.out)) : b245 ≠ b252))
   have n9_ := aM ((by rw [hg]; exact Nat.ne_of_gt (bL (g := b245) (by (with_reducible repeat first | apply bN | apply bD | apply bA); exact BK245.out)) : b252 ≠ b245))
   clear BK244
   clear BK245
   clear HB
   have BK244 := n0_
   have BK245 := n1_
   have HB := n2_
   have BK252 := n3_
   have GW252 := n4_
   have GE252 := n5_
   have N2_ := n6_
   have N3_ := n7_
   have N4_ := n8_
   have N5_ := n9_
   clear n0_ n1_ n2_ n3_ n4_ n5_ n6_ n7_ n8_ n9_
   clear hb hbox hg
   refine hK.out _ _ ⟨(bC BK244.out 0).trans rfl, (bC BK244.out 1).trans rfl, (bC BK244.out 2).trans rfl, (bC BK244.out 3).trans rfl, (bC BK244.out 4).trans rfl, (bC BK244.out 5).trans rfl, (bC BK244.out 6).trans rfl, (bC BK244.out 7).trans rfl, (bC BK244.out 8).trans rfl, (bC BK244.out 9).trans rfl, (bC BK245.out 0).trans rfl, (bC BK245.out 1).trans rfl⟩ (fun hHeld => ?_)
   clear hK K
   refine norm_ (a' := ?_) ?_ ?_
   rotate_left
   ·show Act.put _ (some 5) _ = _
    simp only [Act.put, sA, sB, sC, i64_w, i32_w]
    rfl
   refine one_ (i := 1) (N := some 7) #[T,T,T,F,T,F,T,F] rfl rfl (one_of HT_.out (by kernel_rfl)) (by decide) (fun K hK => ?_)
   refine goes_ Try.func24 (by kernel_rfl) rfl #[.agg #[.int .u32 a0_0, .int .i32 a0_1, .int .i32 a0_2, .int .i32 a0_3, .int .i32 a0_4, .int .i32 a0_5, .int .i32 a0_6, .int .i32 a0_7, .int .i32 a0_8, .int .i32 a0_9]] (by rfl) rfl rfl (by (try simp only [List.map_toArray, List.map_cons, List.map_nil]); first | done | rfl | (simp only [List.length_drop, List.length_take]; rfl)) ?_
   with_reducible refine (billiardref05_First.calls a0_0 a0_1 a0_2 a0_3 a0_4 a0_5 a0_6 a0_7 a0_8 a0_9 t246 t247 _ A3.out).mono ?_
   rintro e w11 ⟨rfl, hb⟩
   refine ⟨_, rfl, ?_⟩
   have n_ := kB3 BK244 BK245 BK252 HB (by repeat first | exact lR _ _ | apply lN | apply lD | apply lA) hb
   clear BK244 BK245 BK252 HB
   obtain ⟨BK244, BK245, BK252, HB⟩ := n_
   (try clear hb)
   (try clear hb2)
   (try clear hk)
   (try clear hi)
   refine hK.out _ _ ⟨(bC BK244.out 0).trans rfl, (bC BK244.out 1).trans rfl, (bC BK244.out 2).trans rfl, (bC BK244.out 3).trans rfl, (bC BK244.out 4).trans rfl, (bC BK244.out 5).trans rfl, (bC BK244.out 6).trans rfl, (bC BK244.out 7).trans rfl, (bC BK244.out 8).trans rfl, (bC BK244.out 9).trans rfl, (bC BK245.out 0).trans rfl, (bC BK245.out 1).trans rfl⟩ (fun hHeld => ?_)
   clear hK K
   refine norm_ (a' := ?_) ?_ ?_
   rotate_left
   ·show Act.put _ (some 7) _ = _
    simp only [Act.put, sA, sB, sC, i64_w, i32_w]
    rfl
   refine one_ (i := 3) (N := some 9) #[T,T,T,T,T,F,T,F] rfl rfl (one_of HT_.out (by kernel_rfl)) (by decide) (fun K hK => ?_)
   refine goes_ Try.func25 (by kernel_rfl) rfl #[.agg #[.int .u32 a0_0, .int .i32 a0_1, .int .i32 a0_2, .int .i32 a0_3, .int .i32 a0_4, .int .i32 a0_5, .int .i32 a0_6, .int .i32 a0_7, .int .i32 a0_8, .int .i32 a0_9]] (by rfl) rfl rfl (by (try simp only [List.map_toArray, List.map_cons, List.map_nil]); first | done | rfl | (simp only [List.length_drop, List.length_take]; rfl)) ?_
   with_reducible refine (billiardref05_Second.calls a0_0 a0_1 a0_2 a0_3 a0_4 a0_5 a0_6 a0_7 a0_8 a0_9 t248 t249 _ A4.out).mono ?_
   rintro e w12 ⟨rfl, hb⟩
   refine ⟨_, rfl, ?_⟩
   have n_ := kB3 BK244 BK245 BK252 HB (by repeat first | exact lR _ _ | apply lN | apply lD | apply lA) hb
   clear BK244 BK245 BK252 HB
   obtain ⟨BK244, BK245, BK252, HB⟩ := n_
   (try clear hb)
   (try clear hb2)
   (try clear hk)
   (try clear hi)
   refine hK.out _ _ ⟨(bC BK244.out 0).trans rfl, (bC BK244.out 1).trans rfl, (bC BK244.out 2).trans rfl, (bC BK244.out 3).trans rfl, (bC BK244.out 4).trans rfl, (bC BK244.out 5).trans rfl, (bC BK244.out 6).trans rfl, (bC BK244.out 7).trans rfl, (bC BK244.out 8).trans rfl, (bC BK244.out 9).trans rfl, (bC BK245.out 0).trans rfl, (bC BK245.out 1).trans rfl⟩ (fun hHeld => ?_)
   clear hK K
   refine norm_ (a' := ?_) ?_ ?_
   rotate_left
   ·show Act.put _ (some 9) _ = _
    simp only [Act.put, sA, sB, sC, i64_w, i32_w]
    rfl
   refine one_ (i := 5) (N := some 11) #[T,T,T,T,T,T,T,F] rfl rfl (one_of HT_.out (by kernel_rfl)) (by decide) (fun K hK => ?_)
   refine goes_ Try.func30 (by kernel_rfl) rfl #[.agg #[.int .i32 t246, .int .i32 t247], .agg #[.int .i32 t248, .int .i32 t249], .agg #[.int .i32 a1_0, .int .i32 a1_1]] (by rfl) rfl rfl (by (try simp only [List.map_toArray, List.map_cons, List.map_nil]); first | done | rfl | (simp only [List.length_drop, List.length_take]; rfl)) ?_
   with_reducible refine (billiardref12_Nearest.calls t246 t247 t248 t249 a1_0 a1_1 t250 t251 _ A5.out).mono ?_
   rintro e w13 ⟨rfl, hb⟩
   refine ⟨_, rfl, ?_⟩
   have n_ := kB3 BK244 BK245 BK252 HB (by repeat first | exact lR _ _ | apply lN | apply lD | apply lA) hb
   clear BK244 BK245 BK252 HB
   obtain ⟨BK244, BK245, BK252, HB⟩ := n_
   (try clear hb)
   (try clear hb2)
   (try clear hk)
   (try clear hi)
   refine hK.out _ _ ⟨(bC BK244.out 0).trans rfl, (bC BK244.out 1).trans rfl, (bC BK244.out 2).trans rfl, (bC BK244.out 3).trans rfl, (bC BK244.out 4).trans rfl, (bC BK244.out 5).trans rfl, (bC BK244.out 6).trans rfl, (bC BK244.out 7).trans rfl, (bC BK244.out 8).trans rfl, (bC BK244.out 9).trans rfl, (bC BK245.out 0).trans rfl, (bC BK245.out 1).trans rfl⟩ (fun hHeld => ?_)
   clear hK K
   refine norm_ (a' := ?_) ?_ ?_
   rotate_left
   ·show Act.put _ (some 11) _ = _
    simp only [Act.put, sA, sB, sC, i64_w, i32_w]
    rfl
   exact norm_ (by simp only [putAll, Act.put, sA, sB, sC]) (hCont (b252) _ ⟨hHeld, (by (with_reducible repeat first | apply bN | apply bD | apply bA); exact BK244.out), (by (with_reducible repeat first | apply bN | apply bD | apply bA); exact BK245.out), (by (with_reducible repeat first | apply bN | apply bD | apply bA); exact BK252.out), GW252.out, GE252.out, N2_.out, N3_.out, N4_.out, N5_.out, (by repeat (first | (with_reducible first | exact HB.out | apply lA | apply lN | apply lD | refine lS ?_ GE244.out | refine lS ?_ GE245.out | refine lS ?_ GE252.out) | exact HB.out))⟩)
 rintro b252 w14 ⟨hS_, h0_, h1_, h2_, h3_, h4_, h5_, h6_, h7_, h8_, h9_⟩
 have n0_ : Aside0 (w14.heap[b244]? = some (.cells #[.int .u32 a0_0, .int .i32 a0_1, .int .i32 a0_2, .int .i32 a0_3, .int .i32 a0_4, .int .i32 a0_5, .int .i32 a0_6, .int .i32 a0_7, .int .i32 a0_8, .int .i32 a0_9] 32 (0, 0))) := ⟨h0_⟩
 have n1_ : Aside0 (w14.heap[b245]? = some (.cells #[.int .i32 a1_0, .int .i32 a1_1] 24 (0, 0))) := ⟨h1_⟩
 have n2_ : Aside0 (w14.heap[b252]? = some (.cells #[.int .i32 0, .int .i32 0] 24 (0, 0))) := ⟨h2_⟩
 have n3_ : Aside0 (w.heap.size ≤ b252) := ⟨h3_⟩
 have n4_ : Aside0 (w.heap.size ≤ b252) := ⟨h4_⟩
 have n5_ : Aside0 (b244 ≠ b252) := ⟨h5_⟩
 have n6_ : Aside0 (b252 ≠ b244) := ⟨h6_⟩
 have n7_ : Aside0 (b245 ≠ b252) := ⟨h7_⟩
 have n8_ : Aside0 (b252 ≠ b245) := ⟨h8_⟩
 have n9_ : Aside0 (Below w.heap.size w w14) := ⟨h9_⟩
 clear BK244
 clear BK245
 clear HB
 clear h0_ h1_ h2_ h3_ h4_ h5_ h6_ h7_ h8_ h9_
 have BK244 := n0_
 have BK245 := n1_
 have BK252 := n2_
 have GW252 := n3_
 have GE252 := n4_
 have N2_ := n5_
 have N3_ := n6_
 have N4_ := n7_
 have N5_ := n8_
 have HB := n9_
 clear n0_ n1_ n2_ n3_ n4_ n5_ n6_ n7_ n8_ n9_
 have hHeld : w14.cell? ⟨b244, 0, none⟩ = some (.int .u32 a0_0) ∧ w14.cell? ⟨b244, 1, none⟩ = some (.int .i32 a0_1) ∧ w14.cell? ⟨b244, 2, none⟩ = some (.int .i32 a0_2) ∧ w14.cell? ⟨b244, 3, none⟩ = some (.int .i32 a0_3) ∧ w14.cell? ⟨b244, 4, none⟩ = some (.int .i32 a0_4) ∧ w14.cell? ⟨b244, 5, none⟩ = some (.int .i32 a0_5) ∧ w14.cell? ⟨b244, 6, none⟩ = some (.int .i32 a0_6) ∧ w14.cell? ⟨b244, 7, none⟩ = some (.int .i32 a0_7) ∧ w14.cell? ⟨b244, 8, none⟩ = some (.int .i32 a0_8) ∧ w14.cell? ⟨b244, 9, none⟩ = some (.int .i32 a0_9) ∧ w14.cell? ⟨b245, 0, none⟩ = some (.int .i32 a1_0) ∧ w14.cell? ⟨b245, 1, none⟩ = some (.int .i32 a1_1) := hS_
 refine norm_ (a' := ?_) ?_ ?_
 rotate_left
 ·simp only [putAll, Act.put, sA, sB, sC]
  rfl
 refine one_ (i := 7) (N := none) #[T,T,T,T,T,T,T,T] rfl rfl (one_of HT_.out (by kernel_rfl)) (by decide) (fun K hK => ?_)
 have hs15 : w14.cell? ⟨b252, 0, none⟩ = some (.int .i32 0) := (bC BK252.out 0).trans rfl
 have hfs15 := bF BK252.out 0
 have hns15_0 := N2_.out
 have hns15_1 := N4_.out
 have hms15_0 := N3_.out
 have hms15_1 := N5_.out
 have hs16 : w14.cell? ⟨b252, 1, none⟩ = some (.int .i32 0) := (bC BK252.out 1).trans rfl
 have hfs16 := bF BK252.out 1
 have hns16_0 := N2_.out
 have hns16_1 := N4_.out
 have hms16_0 := N3_.out
 have hms16_1 := N5_.out
 refine skip_ (w1 := ?_) (by rfl) rfl ?_ ?_
 rotate_left
 ·go_simp
  rfl
 refine hK.out _ _ ⟨((cF (p := ⟨b252, _, none⟩) N2_.out _).trans (((cF (p := ⟨b252, _, none⟩) N2_.out _).trans (hHeld.1)))), ((cF (p := ⟨b252, _, none⟩) N2_.out _).trans (((cF (p := ⟨b252, _, none⟩) N2_.out _).trans (hHeld.2.1)))), ((cF (p := ⟨b252, _, none⟩) N2_.out _).trans (((cF (p := ⟨b252, _, none⟩) N2_.out _).trans (hHeld.2.2.1)))), ((cF (p := ⟨b252, _, none⟩) N2_.out _).trans (((cF (p := ⟨b252, _, none⟩) N2_.out _).trans (hHeld.2.2.2.1)))), ((cF (p := ⟨b252, _, none⟩) N2_.out _).trans (((cF (p := ⟨b252, _, none⟩) N2_.out _).trans (hHeld.2.2.2.2.1)))), ((cF (p := ⟨b252, _, none⟩) N2_.out _).trans (((cF (p := ⟨b252, _, none⟩) N2_.out _).trans (hHeld.2.2.2.2.2.1)))), ((cF (p := ⟨b252, _, none⟩) N2_.out _).trans (((cF (p := ⟨b252, _, none⟩) N2_.out _).trans (hHeld.2.2.2.2.2.2.1)))), ((cF (p := ⟨b252, _, none⟩) N2_.out _).trans (((cF (p := ⟨b252, _, none⟩) N2_.out _).trans (hHeld.2.2.2.2.2.2.2.1)))), ((cF (p := ⟨b252, _, none⟩) N2_.out _).trans (((cF (p := ⟨b252, _, none⟩) N2_.out _).trans (hHeld.2.2.2.2.2.2.2.2.1)))), ((cF (p := ⟨b252, _, none⟩) N2_.out _).trans (((cF (p := ⟨b252, _, none⟩) N2_.out _).trans (hHeld.2.2.2.2.2.2.2.2.2.1)))), ((cF (p := ⟨b252, _, none⟩) N4_.out _).trans (((cF (p := ⟨b252, _, none⟩) N4_.out _).trans (hHeld.2.2.2.2.2.2.2.2.2.2.1)))), ((cF (p := ⟨b252, _, none⟩) N4_.out _).trans (((cF (p := ⟨b252, _, none⟩) N4_.out _).trans (hHeld.2.2.2.2.2.2.2.2.2.2.2))))⟩ (fun hHeld => ?_)
 clear hK K
 refine done_ (done_of HT_.out (by kernel_rfl)) ?_
 try go_wp2
 have n0_ : Aside0 (((w14.setCell ⟨b252, 0, none⟩ (.int .i32 t250)).setCell ⟨b252, 1, none⟩ (.int .i32 t251)).heap[b244]? = some (.cells #[.int .u32 a0_0, .int .i32 a0_1, .int .i32 a0_2, .int .i32 a0_3, .int .i32 a0_4, .int .i32 a0_5, .int .i32 a0_6, .int .i32 a0_7, .int .i32 a0_8, .int .i32 a0_9] 32 (0, 0))) := ⟨by (with_reducible repeat first | apply bN | apply bD | apply bA); refine bR ?_ N2_.out _; (with_reducible repeat first | apply bN | apply bD | apply bA); refine bR ?_ N2_.out _; (with_reducible repeat first | apply bN | apply bD | apply bA); exact BK244.out⟩
 have n1_ : Aside0 (((w14.setCell ⟨b252, 0, none⟩ (.int .i32 t250)).setCell ⟨b252, 1, none⟩ (.int .i32 t251)).heap[b245]? = some (.cells #[.int .i32 a1_0, .int .i32 a1_1] 24 (0, 0))) := ⟨by (with_reducible repeat first | apply bN | apply bD | apply bA); refine bR ?_ N4_.out _; (with_reducible repeat first | apply bN | apply bD | apply bA); refine bR ?_ N4_.out _; (with_reducible repeat first | apply bN | apply bD | apply bA); exact BK245.out⟩
 have n2_ : Aside0 (((w14.setCell ⟨b252, 0, none⟩ (.int .i32 t250)).setCell ⟨b252, 1, none⟩ (.int .i32 t251)).heap[b252]? = some (.cells #[.int .i32 t250, .int .i32 t251] 24 (0, 0))) := ⟨by (with_reducible repeat first | apply bN | apply bD | apply bA); refine bP (cs := #[.int .i32 t250, .int .i32 0]) ?_ 1 _ rfl; (with_reducible repeat first | apply bN | apply bD | apply bA); refine bP (cs := #[.int .i32 0, .int .i32 0]) ?_ 0 _ rfl; (with_reducible repeat first | apply bN | apply bD | apply bA); exact BK252.out⟩
 have n3_ : Aside0 (Below w.heap.size w ((w14.setCell ⟨b252, 0, none⟩ (.int .i32 t250)).setCell ⟨b252, 1, none⟩ (.int .i32 t251))) := ⟨by repeat (first | (with_reducible first | exact HB.out | apply lA | apply lN | apply lD | refine lS ?_ GE244.out | refine lS ?_ GE245.out | refine lS ?_ GE252.out) | exact HB.out)⟩
 (try clear BK244)
 (try clear BK245)
 (try clear BK252)
 (try clear HB)
 generalize ((w14.setCell ⟨b252, 0, none⟩ (.int .i32 t250)).setCell ⟨b252, 1, none⟩ (.int .i32 t251)) = w17 at n0_ n1_ n2_ n3_ ⊢
 have BK244 := n0_
 have BK245 := n1_
 have BK252 := n2_
 have HB := n3_
 clear n0_ n1_ n2_ n3_
 have n_ := kA3 BK244 BK245 BK252 HB (lD (lR _ _))
 clear BK244 BK245 BK252 HB
 obtain ⟨BK244, BK245, BK252, HB⟩ := n_
 refine start_ (n := 20) (S := fun w' => w'.cell? ⟨b252, 0, none⟩ = some (.int .i32 t250) ∧ w'.cell? ⟨b252, 1, none⟩ = some (.int .i32 t251) ∧ w'.cell? ⟨b245, 0, none⟩ = some (.int .i32 a1_0) ∧ w'.cell? ⟨b245, 1, none⟩ = some (.int .i32 a1_1) ∧ w'.cell? ⟨b244, 0, none⟩ = some (.int .u32 a0_0) ∧ w'.cell? ⟨b244, 1, none⟩ = some (.int .i32 a0_1) ∧ w'.cell? ⟨b244, 2, none⟩ = some (.int .i32 a0_2) ∧ w'.cell? ⟨b244, 3, none⟩ = some (.int .i32 a0_3) ∧ w'.cell? ⟨b244, 4, none⟩ = some (.int .i32 a0_4) ∧ w'.cell? ⟨b244, 5, none⟩ = some (.int .i32 a0_5) ∧ w'.cell? ⟨b244, 6, none⟩ = some (.int .i32 a0_6) ∧ w'.cell? ⟨b244, 7, none⟩ = some (.int .i32 a0_7) ∧ w'.cell? ⟨b244, 8, none⟩ = some (.int .i32 a0_8) ∧ w'.cell? ⟨b244, 9, none⟩ = some (.int .i32 a0_9)) (ds := []) #[F,F,F,F,F,F,F,F,F,F,F,F,F,F,F,F,F,F,F,F] (by kernel_rfl) rfl rfl ⟨(bC BK252.out 0).trans rfl, (bC BK252.out 1).trans rfl, (bC BK245.out 0).trans rfl, (bC BK245.out 1).trans rfl, (bC BK244.out 0).trans rfl, (bC BK244.out 1).trans rfl, (bC BK244.out 2).trans rfl, (bC BK244.out 3).trans rfl, (bC BK244.out 4).trans rfl, (bC BK244.out 5).trans rfl, (bC BK244.out 6).trans rfl, (bC BK244.out 7).trans rfl, (bC BK244.out 8).trans rfl, (bC BK244.out 9).trans rfl⟩ (fun hHeld => ?_); refine with_tabW billiardref24_Distance.tab2 billiardref24_Distance.bits2 (fun HT_ HW_ => ?_)
 generalize w17.drew = w18 at BK244 BK245 BK252 HB hHeld ⊢
 refine pure_ (i := 0) (N := some 12) (v := ?_) (a' := ?_) #[T,F,F,F,F,F,F,F,F,F,F,F,F,F,F,F,F,F,F,F] rfl rfl (any_of HT_.out (by kernel_rfl)) (fun _ _ _ h => h) (Or.inl ⟨by rfl, ?_⟩) ?_ ?_
 rotate_left
 ·intro w'
  go_simp
  with_reducible rfl
 rotate_left
 ·simp only [Act.put, sA, sB, sC, i64_w, i32_w]
  rfl
 refine pure_ (i := 3) (N := some 15) (v := ?_) (a' := ?_) #[T,F,F,T,F,F,F,F,F,F,F,F,F,F,F,F,F,F,F,F] rfl rfl (any_of HT_.out (by kernel_rfl)) (fun _ _ _ h => h) (Or.inl ⟨by rfl, ?_⟩) ?_ ?_
 rotate_left
 ·intro w'
  go_simp
  with_reducible rfl
 rotate_left
 ·simp only [Act.put, sA, sB, sC, i64_w, i32_w]
  rfl
 refine pure_ (i := 7) (N := some 19) (v := ?_) (a' := ?_) #[T,F,F,T,F,F,F,T,F,F,F,F,F,F,F,F,F,F,F,F] rfl rfl (any_of HT_.out (by kernel_rfl)) (fun _ _ _ h => h) (Or.inl ⟨by rfl, ?_⟩) ?_ ?_
 rotate_left
 ·intro w'
  go_simp
  with_reducible rfl
 rotate_left
 ·simp only [Act.put, sA, sB, sC, i64_w, i32_w]
  rfl
 refine pure_ (i := 10) (N := some 22) (v := ?_) (a' := ?_) #[T,F,F,T,F,F,F,T,F,F,T,F,F,F,F,F,F,F,F,F] rfl rfl (any_of HT_.out (by kernel_rfl)) (fun _ _ _ h => h) (Or.inl ⟨by rfl, ?_⟩) ?_ ?_
 rotate_left
 ·intro w'
  go_simp
  with_reducible rfl
 rotate_left
 ·simp only [Act.put, sA, sB, sC, i64_w, i32_w]
  rfl
 refine pure_ (i := 15) (N := some 27) (v := ?_) (a' := ?_) #[T,F,F,T,F,F,F,T,F,F,T,F,F,F,F,T,F,F,F,F] rfl rfl (any_of HT_.out (by kernel_rfl)) (fun _ _ _ h => h) (Or.inl ⟨by rfl, ?_⟩) ?_ ?_
 rotate_left
 ·intro w'
  go_simp
  with_reducible rfl
 rotate_left
 ·simp only [Act.put, sA, sB, sC, i64_w, i32_w]
  rfl
 refine take_ (i := 1) (N := some 13) (v := ?_) (a' := ?_) #[T,T,F,T,F,F,F,T,F,F,T,F,F,F,F,T,F,F,F,F] rfl rfl (take_ofW HT_.out HW_.out (by kernel_rfl)) (fun _ _ _ h => h) (Or.inl ⟨by rfl, ?_⟩) hHeld ?_ ?_
 rotate_left
 ·rintro w' ⟨s0, s1, s2, s3, s4, s5, s6, s7, s8, s9, s10, s11, s12, s13⟩
  go_simp
  with_reducible rfl
 rotate_left
 ·simp only [Act.put, sA, sB, sC, i64_w, i32_w]
  rfl
 refine pure_ (i := 2) (N := some 14) (v := ?_) (a' := ?_) #[T,T,T,T,F,F,F,T,F,F,T,F,F,F,F,T,F,F,F,F] rfl rfl (any_of HT_.out (by kernel_rfl)) (fun _ _ _ h => h) (Or.inl ⟨by rfl, ?_⟩) ?_ ?_
 rotate_left
 ·intro w'
  go_simp
  with_reducible rfl
 rotate_left
 ·simp only [Act.put, sA, sB, sC, i64_w, i32_w]
  rfl
 refine take_ (i := 4) (N := some 16) (v := ?_) (a' := ?_) #[T,T,T,T,T,F,F,T,F,F,T,F,F,F,F,T,F,F,F,F] rfl rfl (take_ofW HT_.out HW_.out (by kernel_rfl)) (fun _ _ _ h => h) (Or.inl ⟨by rfl, ?_⟩) hHeld ?_ ?_
 rotate_left
 ·rintro w' ⟨s0, s1, s2, s3, s4, s5, s6, s7, s8, s9, s10, s11, s12, s13⟩
  go_simp
  with_reducible rfl
 rotate_left
 ·simp only [Act.put, sA, sB, sC, i64_w, i32_w]
  rfl
 refine pure_ (i := 5) (N := some 17) (v := ?_) (a' := ?_) #[T,T,T,T,T,T,F,T,F,F,T,F,F,F,F,T,F,F,F,F] rfl rfl (any_of HT_.out (by kernel_rfl)) (fun _ _ _ h => h) (Or.inl ⟨by rfl, ?_⟩) ?_ ?_
 rotate_left
 ·intro w'
  go_simp
  with_reducible rfl
 rotate_left
 ·simp only [Act.put, sA, sB, sC, i64_w, i32_w]
  rfl
 refine pure_ (i := 6) (N := some 18) (v := ?_) (a' := ?_) #[T,T,T,T,T,T,T,T,F,F,T,F,F,F,F,T,F,F,F,F] rfl rfl (any_of HT_.out (by kernel_rfl)) (fun _ _ _ h => h) (Or.inl ⟨by rfl, ?_⟩) ?_ ?_
 rotate_left
 ·intro w'
  go_simp
  with_reducible rfl
 rotate_left
 ·simp only [Act.put, sA, sB, sC, i64_w, i32_w]
  rfl
 refine take_ (i := 8) (N := some 20) (v := ?_) (a' := ?_) #[T,T,T,T,T,T,T,T,T,F,T,F,F,F,F,T,F,F,F,F] rfl rfl (take_ofW HT_.out HW_.out (by kernel_rfl)) (fun _ _ _ h => h) (Or.inl ⟨by rfl, ?_⟩) hHeld ?_ ?_
 rotate_left
 ·rintro w' ⟨s0, s1, s2, s3, s4, s5, s6, s7, s8, s9, s10, s11, s12, s13⟩
  go_simp
  with_reducible rfl
 rotate_left
 ·simp only [Act.put, sA, sB, sC, i64_w, i32_w]
  rfl
 refine pure_ (i := 9) (N := some 21) (v := ?_) (a' := ?_) #[T,T,T,T,T,T,T,T,T,T,T,F,F,F,F,T,F,F,F,F] rfl rfl (any_of HT_.out (by kernel_rfl)) (fun _ _ _ h => h) (Or.inl ⟨by rfl, ?_⟩) ?_ ?_
 rotate_left
 ·intro w'
  go_simp
  with_reducible rfl
 rotate_left
 ·simp only [Act.put, sA, sB, sC, i64_w, i32_w]
  rfl
 refine take_ (i := 11) (N := some 23) (v := ?_) (a' := ?_) #[T,T,T,T,T,T,T,T,T,T,T,T,F,F,F,T,F,F,F,F] rfl rfl (take_ofW HT_.out HW_.out (by kernel_rfl)) (fun _ _ _ h => h) (Or.inl ⟨by rfl, ?_⟩) hHeld ?_ ?_
 rotate_left
 ·rintro w' ⟨s0, s1, s2, s3, s4, s5, s6, s7, s8, s9, s10, s11, s12, s13⟩
  go_simp
  with_reducible rfl
 rotate_left
 ·simp only [Act.put, sA, sB, sC, i64_w, i32_w]
  rfl
 refine pure_ (i := 12) (N := some 24) (v := ?_) (a' := ?_) #[T,T,T,T,T,T,T,T,T,T,T,T,T,F,F,T,F,F,F,F] rfl rfl (any_of HT_.out (by kernel_rfl)) (fun _ _ _ h => h) (Or.inl ⟨by rfl, ?_⟩) ?_ ?_
 rotate_left
 ·intro w'
  go_simp
  with_reducible rfl
 rotate_left
 ·simp only [Act.put, sA, sB, sC, i64_w, i32_w]
  rfl
 refine pure_ (i := 13) (N := some 25) (v := ?_) (a' := ?_) #[T,T,T,T,T,T,T,T,T,T,T,T,T,T,F,T,F,F,F,F] rfl rfl (any_of HT_.out (by kernel_rfl)) (fun _ _ _ h => h) (Or.inl ⟨by rfl, ?_⟩) ?_ ?_
 rotate_left
 ·intro w'
  go_simp
  with_reducible rfl
 rotate_left
 ·simp only [Act.put, sA, sB, sC, i64_w, i32_w]
  rfl
 refine take_ (i := 16) (N := some 28) (v := ?_) (a' := ?_) #[T,T,T,T,T,T,T,T,T,T,T,T,T,T,F,T,T,F,F,F] rfl rfl (take_ofW HT_.out HW_.out (by kernel_rfl)) (fun _ _ _ h => h) (Or.inl ⟨by rfl, ?_⟩) hHeld ?_ ?_
 rotate_left
 ·rintro w' ⟨s0, s1, s2, s3, s4, s5, s6, s7, s8, s9, s10, s11, s12, s13⟩
  go_simp
  with_reducible rfl
 rotate_left
 ·simp only [Act.put, sA, sB, sC, i64_w, i32_w]
  rfl
 refine pure_ (i := 17) (N := some 29) (v := ?_) (a' := ?_) #[T,T,T,T,T,T,T,T,T,T,T,T,T,T,F,T,T,T,F,F] rfl rfl (any_of HT_.out (by kernel_rfl)) (fun _ _ _ h => h) (Or.inl ⟨by rfl, ?_⟩) ?_ ?_
 rotate_left
 ·intro w'
  go_simp
  with_reducible rfl
 rotate_left
 ·simp only [Act.put, sA, sB, sC, i64_w, i32_w]
  rfl
 refine one_ (i := 14) (N := some 26) #[T,T,T,T,T,T,T,T,T,T,T,T,T,T,T,T,T,T,F,F] rfl rfl (one_of HT_.out (by kernel_rfl)) (by decide) (fun K hK => ?_)
 refine goes_ Try.func31 (by kernel_rfl) rfl #[.int .i64 (wrap64 ((wrap64 (t250)) - (wrap64 (a1_0)))), .int .i64 (wrap64 ((wrap64 (t251)) - (wrap64 (a1_1))))] (by rfl) rfl rfl (by (try simp only [List.map_toArray, List.map_cons, List.map_nil]); first | done | rfl | (simp only [List.length_drop, List.length_take]; rfl)) ?_
 with_reducible refine (billiardref04_Length.calls k (wrap64 ((wrap64 (t250)) - (wrap64 (a1_0)))) (wrap64 ((wrap64 (t251)) - (wrap64 (a1_1)))) t253 _ A6.out).mono ?_
 rintro e w' ⟨rfl, ⟨nd, rfl⟩⟩
 refine ⟨_, rfl, ?_⟩
 refine hK.out _ _ ⟨(bC BK252.out 0).trans rfl, (bC BK252.out 1).trans rfl, (bC BK245.out 0).trans rfl, (bC BK245.out 1).trans rfl, (bC BK244.out 0).trans rfl, (bC BK244.out 1).trans rfl, (bC BK244.out 2).trans rfl, (bC BK244.out 3).trans rfl, (bC BK244.out 4).trans rfl, (bC BK244.out 5).trans rfl, (bC BK244.out 6).trans rfl, (bC BK244.out 7).trans rfl, (bC BK244.out 8).trans rfl, (bC BK244.out 9).trans rfl⟩ (fun hHeld => ?_)
 clear hK K
 refine norm_ (a' := ?_) ?_ ?_
 rotate_left
 ·show Act.put _ (some 26) _ = _
  simp only [Act.put, sA, sB, sC, i64_w, i32_w]
  rfl
 refine pure_ (i := 18) (N := some 30) (v := ?_) (a' := ?_) #[T,T,T,T,T,T,T,T,T,T,T,T,T,T,T,T,T,T,T,F] rfl rfl (any_of HT_.out (by kernel_rfl)) (fun _ _ _ h => h) (Or.inl ⟨by rfl, ?_⟩) ?_ ?_
 rotate_left
 ·intro w'
  go_simp
  with_reducible rfl
 rotate_left
 ·simp only [Act.put, sA, sB, sC, i64_w, i32_w]
  rfl
 refine pure_ (i := 19) (N := some 4) (v := ?_) (a' := ?_) #[T,T,T,T,T,T,T,T,T,T,T,T,T,T,T,T,T,T,T,T] rfl rfl (any_of HT_.out (by kernel_rfl)) (fun _ _ _ h => h) (Or.inl ⟨by rfl, ?_⟩) ?_ ?_
 rotate_left
 ·intro w'
  go_simp
  with_reducible rfl
 rotate_left
 ·simp only [Act.put, sA, sB, sC, i64_w, i32_w]
  rfl
 refine done_ (done_of HT_.out (by kernel_rfl)) ?_
 try go_wp2
 go_ret
 exact ⟨by first | rfl | (simp [errW_none, errW_some] <;> rfl) | (simp [*, errW_none, errW_some] <;> rfl), by repeat (first | (with_reducible first | exact HB.out | apply lA | apply lN | apply lD | refine lS ?_ GE244.out | refine lS ?_ GE245.out | refine lS ?_ GE252.out) | exact HB.out)⟩

/-! ### billiardref24_In: function 13 -/
def billiardref24_In.f (a0_0 : Int) (a0_1 : Int) (a0_2 : Int) (a0_3 : Int) (a0_4 : Int) (a0_5 : Int) (a0_6 : Int) (a0_7 : Int) (a0_8 : Int) (a0_9 : Int) (a1_0 : Int) (a1_1 : Int) : Option (Bool) := (billiardref05_First.f a0_0 a0_1 a0_2 a0_3 a0_4 a0_5 a0_6 a0_7 a0_8 a0_9).bind fun bt263 => ((billiardref05_Second.f a0_0 a0_1 a0_2 a0_3 a0_4 a0_5 a0_6 a0_7 a0_8 a0_9).bind fun bt265 => ((billiardref12_DistSq.f bt263.1 bt263.2 bt265.1 bt265.2 a1_0 a1_1).bind fun t267 => (some (decide (t267 ≤ (IntKind.u64.wrap ((IntKind.u64.wrap (a0_1)) * (IntKind.u64.wrap (a0_1)))))))))
def billiardref24_In.T1 : Bool × List (List Nat × List Nat) := (true, [([], []), ([0], [0]), ([], []), ([2, 1], [2]), ([], []), ([1, 3, 4, 3], [1, 3, 4]), ([], []), ([6], [6]), ([7], [7]), ([], []), ([9], [9]), ([10], [10]), ([8, 11], [8, 11]), ([5, 12], [5, 12]), ([13, 5, 0, 1, 2, 3, 4, 5, 6, 7, 8, 9, 10, 11, 12, 13], [13])])
def billiardref24_In.B1 : List Nat := [0, 1, 0, 7, 0, 31, 0, 64, 192, 0, 512, 1536, 4032, 8191, 16383]
theorem billiardref24_In.tab1 : rtab .any (opsOf Try.f13 1) = billiardref24_In.T1 := by kernel_rfl
theorem billiardref24_In.bits1 : waitsOk billiardref24_In.T1.2 billiardref24_In.B1 = true := by kernel_rfl
set_option maxHeartbeats 8000000 in
set_option maxRecDepth 100000 in
theorem billiardref24_In.calls (a0_0 : Int) (a0_1 : Int) (a0_2 : Int) (a0_3 : Int) (a0_4 : Int) (a0_5 : Int) (a0_6 : Int) (a0_7 : Int) (a0_8 : Int) (a0_9 : Int) (a1_0 : Int) (a1_1 : Int) (r : Bool) (w : World) (h : billiardref24_In.f a0_0 a0_1 a0_2 a0_3 a0_4 a0_5 a0_6 a0_7 a0_8 a0_9 a1_0 a1_1 = some r) :
  Calls Try.prog 13 #[.agg #[.int .u32 a0_0, .int .i32 a0_1, .int .i32 a0_2, .int .i32 a0_3, .int .i32 a0_4, .int .i32 a0_5, .int .i32 a0_6, .int .i32 a0_7, .int .i32 a0_8, .int .i32 a0_9], .agg #[.int .i32 a1_0, .int .i32 a1_1]] w fun e w' => e = .returned (.bool r) ∧ Below w.heap.size w w' := by
 have hu32 := Try.underlying32
 have hu24 := Try.underlying24
 have HB := aM (Below.refl w.heap.size w)
 have H : ((billiardref05_First.f a0_0 a0_1 a0_2 a0_3 a0_4 a0_5 a0_6 a0_7 a0_8 a0_9).bind fun bt263 => ((billiardref05_Second.f a0_0 a0_1 a0_2 a0_3 a0_4 a0_5 a0_6 a0_7 a0_8 a0_9).bind fun bt265 => ((billiardref12_DistSq.f bt263.1 bt263.2 bt265.1 bt265.2 a1_0 a1_1).bind fun t267 => (some (decide (t267 ≤ (IntKind.u64.wrap ((IntKind.u64.wrap (a0_1)) * (IntKind.u64.wrap (a0_1)))))))))) = some r := h
 clear h
 replace H := Option.bind_eq_some_iff.mp H
 obtain ⟨⟨t263, t264⟩, A30, H⟩ := H
 try dsimp only at H
 have A3 := aM A30
 clear A30
 replace H := Option.bind_eq_some_iff.mp H
 obtain ⟨⟨t265, t266⟩, A40, H⟩ := H
 try dsimp only at H
 have A4 := aM A40
 clear A40
 replace H := Option.bind_eq_some_iff.mp H
 obtain ⟨t267, A50, H⟩ := H
 try dsimp only at H
 have A5 := aM A50
 clear A50
 obtain rfl := Option.some.inj H
 go_enter Try.func13, Try.ntmps13
 try go_wp2_with (first | ((with_reducible refine gate_dst (N := 2) rfl ?_); refine box_event ?hg (N := 2) ?hd (cs := #[.int .u32 a0_0, .int .i32 a0_1, .int .i32 a0_2, .int .i32 a0_3, .int .i32 a0_4, .int .i32 a0_5, .int .i32 a0_6, .int .i32 a0_7, .int .i32 a0_8, .int .i32 a0_9]) (t := 32) ?hr ?_; (case hd => rfl); (case hg => rfl); (case hr => first | (go_simp; done) | (go_simp; rfl)); intro b261 hg w6 hbox hb; have n0_ := aM (lT (by repeat (first | (with_reducible first | exact HB.out | apply lA | apply lN | apply lD) | exact HB.out)) hb); have n1_ := aM (hbox); have n2_ := aM ((by rw [hg]; exact (lZ (by repeat (first | (with_reducible first | exact HB.out | apply lA | apply lN | apply lD) | exact HB.out))) : w.heap.size ≤ b261)); have n3_ := aM ((by rw [hg]; exact (lZ (by repeat (first | (with_reducible first | exact HB.out | apply lA | apply lN | apply lD) | exact HB.out))) : w.heap.size ≤ b261)); clear HB; have HB := n0_; have BK261 := n1_; have GW261 := n2_; have GE261 := n3_; clear n0_ n1_ n2_ n3_; clear hb hbox hg) | ((with_reducible refine gate_dst (N := 3) rfl ?_); refine box_event ?hg (N := 3) ?hd (cs := #[.int .i32 a1_0, .int .i32 a1_1]) (t := 24) ?hr ?_; (case hd => rfl); (case hg => rfl); (case hr => first | (go_simp; done) | (go_simp; rfl)); intro b262 hg w7 hbox hb; have n0_ := aM (bB (by (with_reducible repeat first | apply bN | apply bD | apply bA); exact BK261.out) hb); have n1_ := aM (lT (by repeat (first | (with_reducible first | exact HB.out | apply lA | apply lN | apply lD | refine lS ?_ GE261.out) | exact HB.out)) hb); have n2_ := aM (hbox); have n3_ := aM ((by rw [hg]; exact (lZ (by repeat (first | (with_reducible first | exact HB.out | apply lA | apply lN | apply lD | refine lS ?_ GE261.out) | exact HB.out))) : w.heap.size ≤ b262)); have n4_ := aM ((by rw [hg]; exact (lZ (by repeat (first | (with_reducible first | exact HB.out | apply lA | apply lN | apply lD | refine lS ?_ GE261.out) | exact HB.out))) : w.heap.size ≤ b262)); have n5_ := aM ((by rw [hg]; exact Nat.ne_of_lt (bL (g := b261) (by (with_reducible repeat first | apply bN | apply bD | apply bA); exact BK261.out)) : b261 ≠ b262)); have n6_ := aM ((by rw [hg]; exact Nat.ne_of_gt (bL (g := b261) (by (with_reducible repeat first | apply bN | apply bD | apply bA); exact BK261.out)) : b262 ≠ b261)); clear BK261; clear HB; have BK261 := n0_; have HB := n1_; have BK262 := n2_; have GW262 := n3_; have GE262 := n4_; have N6_ := n5_; have N7_ := n6_; clear n0_ n1_ n2_ n3_ n4_ n5_ n6_; clear hb hbox hg))
 have n_ := kA2 BK261 BK262 HB (lD (lR _ _))
 clear BK261 BK262 HB
 obtain ⟨BK261, BK262, HB⟩ := n_
 refine start_ (n := 15) (S := fun w' => w'.cell? ⟨b261, 0, none⟩ = some (.int .u32 a0_0) ∧ w'.cell? ⟨b261, 1, none⟩ = some (.int .i32 a0_1) ∧ w'.cell? ⟨b261, 2, none⟩ = some (.int .i32 a0_2) ∧ w'.cell? ⟨b261, 3, none⟩ = some (.int .i32 a0_3) ∧ w'.cell? ⟨b261, 4, none⟩ = some (.int .i32 a0_4) ∧ w'.cell? ⟨b261, 5, none⟩ = some (.int .i32 a0_5) ∧ w'.cell? ⟨b261, 6, none⟩ = some (.int .i32 a0_6) ∧ w'.cell? ⟨b261, 7, none⟩ = some (.int .i32 a0_7) ∧ w'.cell? ⟨b261, 8, none⟩ = some (.int .i32 a0_8) ∧ w'.cell? ⟨b261, 9, none⟩ = some (.int .i32 a0_9) ∧ w'.cell? ⟨b262, 0, none⟩ = some (.int .i32 a1_0) ∧ w'.cell? ⟨b262, 1, none⟩ = some (.int .i32 a1_1)) (ds := []) #[F,F,F,F,F,F,F,F,F,F,F,F,F,F,F] (by kernel_rfl) rfl rfl ⟨(bC BK261.out 0).trans rfl, (bC BK261.out 1).trans rfl, (bC BK261.out 2).trans rfl, (bC BK261.out 3).trans rfl, (bC BK261.out 4).trans rfl, (bC BK261.out 5).trans rfl, (bC BK261.out 6).trans rfl, (bC BK261.out 7).trans rfl, (bC BK261.out 8).trans rfl, (bC BK261.out 9).trans rfl, (bC BK262.out 0).trans rfl, (bC BK262.out 1).trans rfl⟩ (fun hHeld => ?_); refine with_tabW billiardref24_In.tab1 billiardref24_In.bits1 (fun HT_ HW_ => ?_)
 generalize w7.drew = w8 at BK261 BK262 HB hHeld ⊢
 refine pure_ (i := 6) (N := some 11) (v := ?_) (a' := ?_) #[F,F,F,F,F,F,T,F,F,F,F,F,F,F,F] rfl rfl (any_of HT_.out (by kernel_rfl)) (fun _ _ _ h => h) (Or.inl ⟨by rfl, ?_⟩) ?_ ?_
 rotate_left
 ·intro w'
  go_simp
  with_reducible rfl
 rotate_left
 ·simp only [Act.put, sA, sB, sC, i64_w, i32_w]
  rfl
 refine pure_ (i := 9) (N := some 14) (v := ?_) (a' := ?_) #[F,F,F,F,F,F,T,F,F,T,F,F,F,F,F] rfl rfl (any_of HT_.out (by kernel_rfl)) (fun _ _ _ h => h) (Or.inl ⟨by rfl, ?_⟩) ?_ ?_
 rotate_left
 ·intro w'
  go_simp
  with_reducible rfl
 rotate_left
 ·simp only [Act.put, sA, sB, sC, i64_w, i32_w]
  rfl
 refine take_ (i := 0) (N := some 5) (v := ?_) (a' := ?_) #[T,F,F,F,F,F,T,F,F,T,F,F,F,F,F] rfl rfl (take_ofW HT_.out HW_.out (by kernel_rfl)) (fun _ _ _ h => h) (Or.inl ⟨by rfl, ?_⟩) hHeld ?_ ?_
 rotate_left
 ·rintro w' ⟨s0, s1, s2, s3, s4, s5, s6, s7, s8, s9, s10, s11⟩
  go_simp
  with_reducible rfl
 rotate_left
 ·simp only [Act.put, sA, sB, sC, i64_w, i32_w]
  rfl
 refine take_ (i := 2) (N := some 7) (v := ?_) (a' := ?_) #[T,F,T,F,F,F,T,F,F,T,F,F,F,F,F] rfl rfl (take_ofW HT_.out HW_.out (by kernel_rfl)) (fun _ _ _ h => h) (Or.inl ⟨by rfl, ?_⟩) hHeld ?_ ?_
 rotate_left
 ·rintro w' ⟨s0, s1, s2, s3, s4, s5, s6, s7, s8, s9, s10, s11⟩
  go_simp
  with_reducible rfl
 rotate_left
 ·simp only [Act.put, sA, sB, sC, i64_w, i32_w]
  rfl
 refine take_ (i := 4) (N := some 9) (v := ?_) (a' := ?_) #[T,F,T,F,T,F,T,F,F,T,F,F,F,F,F] rfl rfl (take_ofW HT_.out HW_.out (by kernel_rfl)) (fun _ _ _ h => h) (Or.inl ⟨by rfl, ?_⟩) hHeld ?_ ?_
 rotate_left
 ·rintro w' ⟨s0, s1, s2, s3, s4, s5, s6, s7, s8, s9, s10, s11⟩
  go_simp
  with_reducible rfl
 rotate_left
 ·simp only [Act.put, sA, sB, sC, i64_w, i32_w]
  rfl
 refine take_ (i := 7) (N := some 12) (v := ?_) (a' := ?_) #[T,F,T,F,T,F,T,T,F,T,F,F,F,F,F] rfl rfl (take_ofW HT_.out HW_.out (by kernel_rfl)) (fun _ _ _ h => h) (Or.inl ⟨by rfl, ?_⟩) hHeld ?_ ?_
 rotate_left
 ·rintro w' ⟨s0, s1, s2, s3, s4, s5, s6, s7, s8, s9, s10, s11⟩
  go_simp
  with_reducible rfl
 rotate_left
 ·simp only [Act.put, sA, sB, sC, i64_w, i32_w]
  rfl
 refine pure_ (i := 8) (N := some 13) (v := ?_) (a' := ?_) #[T,F,T,F,T,F,T,T,T,T,F,F,F,F,F] rfl rfl (any_of HT_.out (by kernel_rfl)) (fun _ _ _ h => h) (Or.inl ⟨by rfl, ?_⟩) ?_ ?_
 rotate_left
 ·intro w'
  go_simp
  with_reducible rfl
 rotate_left
 ·simp only [Act.put, sA, sB, sC, i64_w, i32_w]
  rfl
 refine take_ (i := 10) (N := some 15) (v := ?_) (a' := ?_) #[T,F,T,F,T,F,T,T,T,T,T,F,F,F,F] rfl rfl (take_ofW HT_.out HW_.out (by kernel_rfl)) (fun _ _ _ h => h) (Or.inl ⟨by rfl, ?_⟩) hHeld ?_ ?_
 rotate_left
 ·rintro w' ⟨s0, s1, s2, s3, s4, s5, s6, s7, s8, s9, s10, s11⟩
  go_simp
  with_reducible rfl
 rotate_left
 ·simp only [Act.put, sA, sB, sC, i64_w, i32_w]
  rfl
 refine pure_ (i := 11) (N := some 16) (v := ?_) (a' := ?_) #[T,F,T,F,T,F,T,T,T,T,T,T,F,F,F] rfl rfl (any_of HT_.out (by kernel_rfl)) (fun _ _ _ h => h) (Or.inl ⟨by rfl, ?_⟩) ?_ ?_
 rotate_left
 ·intro w'
  go_simp
  with_reducible rfl
 rotate_left
 ·simp only [Act.put, sA, sB, sC, i64_w, i32_w]
  rfl
 refine pure_ (i := 12) (N := some 17) (v := ?_) (a' := ?_) #[T,F,T,F,T,F,T,T,T,T,T,T,T,F,F] rfl rfl (any_of HT_.out (by kernel_rfl)) (fun _ _ _ h => h) (Or.inl ⟨by rfl, ?_⟩) ?_ ?_
 rotate_left
 ·intro w'
  go_simp
  with_reducible rfl
 rotate_left
 ·simp only [Act.put, sA, sB, sC, i64_w, i32_w]
  rfl
 refine one_ (i := 1) (N := some 6) #[T,T,T,F,T,F,T,T,T,T,T,T,T,F,F] rfl rfl (one_of HT_.out (by kernel_rfl)) (by decide) (fun K hK => ?_)
 refine goes_ Try.func24 (by kernel_rfl) rfl #[.agg #[.int .u32 a0_0, .int .i32 a0_1, .int .i32 a0_2, .int .i32 a0_3, .int .i32 a0_4, .int .i32 a0_5, .int .i32 a0_6, .int .i32 a0_7, .int .i32 a0_8, .int .i32 a0_9]] (by rfl) rfl rfl (by (try simp only [List.map_toArray, List.map_cons, List.map_nil]); first | done | rfl | (simp only [List.length_drop, List.length_take]; rfl)) ?_
 with_reducible refine (billiardref05_First.calls a0_0 a0_1 a0_2 a0_3 a0_4 a0_5 a0_6 a0_7 a0_8 a0_9 t263 t264 _ A3.out).mono ?_
 rintro e w9 ⟨rfl, hb⟩
 refine ⟨_, rfl, ?_⟩
 have n_ := kB2 BK261 BK262 HB (by repeat first | exact lR _ _ | apply lN | apply lD | apply lA) hb
 clear BK261 BK262 HB
 obtain ⟨BK261, BK262, HB⟩ := n_
 (try clear hb)
 (try clear hb2)
 (try clear hk)
 (try clear hi)
 refine hK.out _ _ ⟨(bC BK261.out 0).trans rfl, (bC BK261.out 1).trans rfl, (bC BK261.out 2).trans rfl, (bC BK261.out 3).trans rfl, (bC BK261.out 4).trans rfl, (bC BK261.out 5).trans rfl, (bC BK261.out 6).trans rfl, (bC BK261.out 7).trans rfl, (bC BK261.out 8).trans rfl, (bC BK261.out 9).trans rfl, (bC BK262.out 0).trans rfl, (bC BK262.out 1).trans rfl⟩ (fun hHeld => ?_)
 clear hK K
 refine norm_ (a' := ?_) ?_ ?_
 rotate_left
 ·show Act.put _ (some 6) _ = _
  simp only [Act.put, sA, sB, sC, i64_w, i32_w]
  rfl
 refine one_ (i := 3) (N := some 8) #[T,T,T,T,T,F,T,T,T,T,T,T,T,F,F] rfl rfl (one_of HT_.out (by kernel_rfl)) (by decide) (fun K hK => ?_)
 refine goes_ Try.func25 (by kernel_rfl) rfl #[.agg #[.int .u32 a0_0, .int .i32 a0_1, .int .i32 a0_2, .int .i32 a0_3, .int .i32 a0_4, .int .i32 a0_5, .int .i32 a0_6, .int .i32 a0_7, .int .i32 a0_8, .int .i32 a0_9]] (by rfl) rfl rfl (by (try simp only [List.map_toArray, List.map_cons, List.map_nil]); first | done | rfl | (simp only [List.length_drop, List.length_take]; rfl)) ?_
 with_reducible refine (billiardref05_Second.calls a0_0 a0_1 a0_2 a0_3 a0_4 a0_5 a0_6 a0_7 a0_8 a0_9 t265 t266 _ A4.out).mono ?_
 rintro e w10 ⟨rfl, hb⟩
 refine ⟨_, rfl, ?_⟩
 have n_ := kB2 BK261 BK262 HB (by repeat first | exact lR _ _ | apply lN | apply lD | apply lA) hb
 clear BK261 BK262 HB
 obtain ⟨BK261, BK262, HB⟩ := n_
 (try clear hb)
 (try clear hb2)
 (try clear hk)
 (try clear hi)
 refine hK.out _ _ ⟨(bC BK261.out 0).trans rfl, (bC BK261.out 1).trans rfl, (bC BK261.out 2).trans rfl, (bC BK261.out 3).trans rfl, (bC BK261.out 4).trans rfl, (bC BK261.out 5).trans rfl, (bC BK261.out 6).trans rfl, (bC BK261.out 7).trans rfl, (bC BK261.out 8).trans rfl, (bC BK261.out 9).trans rfl, (bC BK262.out 0).trans rfl, (bC BK262.out 1).trans rfl⟩ (fun hHeld => ?_)
 clear hK K
 refine norm_ (a' := ?_) ?_ ?_
 rotate_left
 ·show Act.put _ (some 8) _ = _
  simp only [Act.put, sA, sB, sC, i64_w, i32_w]
  rfl
 refine one_ (i := 5) (N := some 10) #[T,T,T,T,T,T,T,T,T,T,T,T,T,F,F] rfl rfl (one_of HT_.out (by kernel_rfl)) (by decide) (fun K hK => ?_)
 refine goes_ Try.func35 (by kernel_rfl) rfl #[.agg #[.int .i32 t263, .int .i32 t264], .agg #[.int .i32 t265, .int .i32 t266], .agg #[.int .i32 a1_0, .int .i32 a1_1]] (by rfl) rfl rfl (by (try simp only [List.map_toArray, List.map_cons, List.map_nil]); first | done | rfl | (simp only [List.length_drop, List.length_take]; rfl)) ?_
 with_reducible refine (billiardref12_DistSq.calls t263 t264 t265 t266 a1_0 a1_1 t267 _ A5.out).mono ?_
 rintro e w11 ⟨rfl, hb⟩
 refine ⟨_, rfl, ?_⟩
 have n_ := kB2 BK261 BK262 HB (by repeat first | exact lR _ _ | apply lN | apply lD | apply lA) hb
 clear BK261 BK262 HB
 obtain ⟨BK261, BK262, HB⟩ := n_
 (try clear hb)
 (try clear hb2)
 (try clear hk)
 (try clear hi)
 refine hK.out _ _ ⟨(bC BK261.out 0).trans rfl, (bC BK261.out 1).trans rfl, (bC BK261.out 2).trans rfl, (bC BK261.out 3).trans rfl, (bC BK261.out 4).trans rfl, (bC BK261.out 5).trans rfl, (bC BK261.out 6).trans rfl, (bC BK261.out 7).trans rfl, (bC BK261.out 8).trans rfl, (bC BK261.out 9).trans rfl, (bC BK262.out 0).trans rfl, (bC BK262.out 1).trans rfl⟩ (fun hHeld => ?_)
 clear hK K
 refine norm_ (a' := ?_) ?_ ?_
 rotate_left
 ·show Act.put _ (some 10) _ = _
  simp only [Act.put, sA, sB, sC, i64_w, i32_w]
  rfl
 refine pure_ (i := 13) (N := some 18) (v := ?_) (a' := ?_) #[T,T,T,T,T,T,T,T,T,T,T,T,T,T,F] rfl rfl (any_of HT_.out (by kernel_rfl)) (fun _ _ _ h => h) (Or.inl ⟨by rfl, ?_⟩) ?_ ?_
 rotate_left
 ·intro w'
  go_simp
  with_reducible rfl
 rotate_left
 ·simp only [Act.put, sA, sB, sC, i64_w, i32_w]
  rfl
 refine pure_ (i := 14) (N := some 4) (v := ?_) (a' := ?_) #[T,T,T,T,T,T,T,T,T,T,T,T,T,T,T] rfl rfl (any_of HT_.out (by kernel_rfl)) (fun _ _ _ h => h) (Or.inl ⟨by rfl, ?_⟩) ?_ ?_
 rotate_left
 ·intro w'
  go_simp
  with_reducible rfl
 rotate_left
 ·simp only [Act.put, sA, sB, sC, i64_w, i32_w]
  rfl
 refine done_ (done_of HT_.out (by kernel_rfl)) ?_
 try go_wp2
 go_ret
 exact ⟨by first | rfl | (simp [errW_none, errW_some] <;> rfl) | (simp [*, errW_none, errW_some] <;> rfl), by repeat (first | (with_reducible first | exact HB.out | apply lA | apply lN | apply lD | refine lS ?_ GE261.out | refine lS ?_ GE262.out) | exact HB.out)⟩

/-! ### billiardref24_At: function 16 -/
def billiardref24_At.l0 : Nat → List (S32) → List Int → Int → Int → Int → Option (List Int)
 | 0, _, _, _, _, _ => none
 | k + 1, x0, x5, x6, x269000, x269001 => if x6 < (x0.length : Int) then (if 0 ≤ x6 then ((billiardref24_In.f ((rd_T32 x0 x6).f0) ((rd_T32 x0 x6).f1) ((rd_T32 x0 x6).f2.f0) ((rd_T32 x0 x6).f2.f1) ((rd_T32 x0 x6).f3) ((rd_T32 x0 x6).f4) ((rd_T32 x0 x6).f5.f0) ((rd_T32 x0 x6).f5.f1) ((rd_T32 x0 x6).f6.f0) ((rd_T32 x0 x6).f6.f1) x269000 x269001).bind fun t270 => (if t270 = true then (if x5.length < 35184372088832 then (billiardref24_At.l0 k x0 (x5 ++ [(rd_T32 x0 x6).f0]) (wrap64 (x6 + 1)) x269000 x269001) else (none)) else (billiardref24_At.l0 k x0 x5 (wrap64 (x6 + 1)) x269000 x269001))) else (none)) else (some x5)
def billiardref24_At.f (k : Nat) (l0 : List (S32)) (a1_0 : Int) (a1_1 : Int) : Option (List Int) := billiardref24_At.l0 k l0 ([] : List Int) 0 a1_0 a1_1
theorem billiardref24_At.mono_l : ∀ k, (∀ y0 y1 y2 y3 y4, LeO (billiardref24_At.l0 k y0 y1 y2 y3 y4) (billiardref24_At.l0 (k + 1) y0 y1 y2 y3 y4))
 | 0 => fun _ _ _ _ _ r h => by simp [billiardref24_At.l0] at h
 | k + 1 => by
  have ih0 := billiardref24_At.mono_l k
  ·intro y0 y1 y2 y3 y4
   unfold billiardref24_At.l0
   repeat' first
   | (with_reducible exact ih0 _ _ _ _ _)
   | (with_reducible exact LeO.refl _)
   | (with_reducible exact LeO.none _)
   | (with_reducible refine LeO.ite ?_ ?_)
   | (with_reducible refine LeO.bind ?_ (fun _ => ?_))
   | exact ih0 _ _ _ _ _
   | exact LeO.none _
   | refine LeO.ite ?_ ?_
   | refine LeO.bind ?_ (fun _ => ?_)
theorem billiardref24_At.mono : ∀ a0 a1 a2 k, LeO (billiardref24_At.f k a0 a1 a2) (billiardref24_At.f (k + 1) a0 a1 a2) := by
 intro a0 a1 a2 k
 have ih0 := billiardref24_At.mono_l k
 unfold billiardref24_At.f
 repeat' first
   | (with_reducible exact ih0 _ _ _ _ _)
   | (with_reducible exact LeO.refl _)
   | (with_reducible exact LeO.none _)
   | (with_reducible refine LeO.ite ?_ ?_)
   | (with_reducible refine LeO.bind ?_ (fun _ => ?_))
   | exact ih0 _ _ _ _ _
   | exact LeO.none _
   | refine LeO.ite ?_ ?_
   | refine LeO.bind ?_ (fun _ => ?_)
set_option maxHeartbeats 8000000 in
set_option maxRecDepth 100000 in
theorem billiardref24_At.calls (k : Nat) (A0 : Option Addr) (c0 : Nat) (l0 : List (S32)) (a1_0 : Int) (a1_1 : Int) (r : List Int) (w : World) (hr0 : Kd.C k32 w A0 l0.length l0) (hc0 : l0.length ≤ c0) (h : billiardref24_At.f k l0 a1_0 a1_1 = some r) :
  Calls Try.prog 16 #[.slice A0 l0.length c0, .agg #[.int .i32 a1_0, .int .i32 a1_1]] w fun e w' => ∃ v0_ : Value, e = .returned (v0_) ∧ Kd.R (Kd.int .u32) 30 w' w.heap.size (fun _ => True) v0_ r ∧ Below w.heap.size w w' := by
 have hu24 := Try.underlying24
 have hu32 := Try.underlying32
 have HR0 := aM hr0
 have HC0 := aM hc0
 clear hr0 hc0
 have HB := aM (Below.refl w.heap.size w)
 have H : (billiardref24_At.l0 k l0 ([] : List Int) 0 a1_0 a1_1) = some r := h
 clear h
 have H' := aM H
 clear H
 go_enter Try.func16, Try.ntmps16
 go_wp2_with (first | ((with_reducible refine gate_dst (N := 3) rfl ?_); refine box_event ?hg (N := 3) ?hd (cs := #[.int .i32 a1_0, .int .i32 a1_1]) (t := 24) ?hr ?_; (case hd => rfl); (case hg => rfl); (case hr => first | (go_simp; done) | (go_simp; rfl)); intro b268 hg w3 hbox hb; have n0_ := aM (lT (by repeat (first | (with_reducible first | exact HB.out | apply lA | apply lN | apply lD) | exact HB.out)) hb); have n1_ := aM (hbox); have n2_ := aM ((by rw [hg]; exact (lZ (by repeat (first | (with_reducible first | exact HB.out | apply lA | apply lN | apply lD) | exact HB.out))) : w.heap.size ≤ b268)); have n3_ := aM ((by rw [hg]; exact (lZ (by repeat (first | (with_reducible first | exact HB.out | apply lA | apply lN | apply lD) | exact HB.out))) : w.heap.size ≤ b268)); clear HB; have HB := n0_; have BK268 := n1_; have GW268 := n2_; have GE268 := n3_; clear n0_ n1_ n2_ n3_; clear hb hbox hg))
 go_loopg [5, 6] k (fun kq v5 v6 w' => ∃ (x5_1 : List Int) (x6_1 : Int), v6 = .int .i64 x6_1 ∧ Aside0 (billiardref24_At.l0 kq l0 x5_1 x6_1 a1_0 a1_1 = some r) ∧ Aside0 (kq ≤ k) ∧ Aside0 (Kd.R (Kd.int .u32) 30 w' w.heap.size (fun _ => True) v5 x5_1) ∧ Aside0 (w'.heap[b268]? = some (.cells #[.int .i32 a1_0, .int .i32 a1_1] 24 (0, 0))) ∧ Aside0 (Below w.heap.size w w'))
 case atStart => exact ⟨(([] : List Int)), (0), (by first | rfl | (simp; done) | (simp [*]; done)), H', ⟨Nat.le_refl _⟩, ⟨by first | exact Kd.R_nil _ _ _ _ _ | exact Kd.N_nil _ _ _ _ _ | exact Kd.V_nil _ _ _ _ _ | exact Kd.Q_nil _ _ _ _ _ | exact Kd.S_nil _ _ _ _ _⟩, ⟨by (with_reducible repeat first | apply bN | apply bD | apply bA); exact BK268.out⟩, ⟨by repeat (first | (with_reducible first | exact HB.out | apply lA | apply lN | apply lD | refine lS ?_ GE268.out) | exact HB.out)⟩⟩
 case round =>
  clear H'
  try clear c1
  try clear p2
  obtain ⟨x5_1, x6_1, rfl, HA, HK1, HO_5, BK268, HB⟩ := hrel
  cases gk with
  | zero => exact absurd HA.out (by simp [billiardref24_At.l0])
  | succ k1 =>
   have H := HA.out
   clear HA
   simp only [billiardref24_At.l0] at H
   by_cases c4 : x6_1 < (l0.length : Int)
   ·rw [if_pos c4] at H
    have c4b0 : decide (x6_1 < (l0.length : Int)) = true := decide_eq_true c4
    clear c4
    by_cases c5 : 0 ≤ x6_1
    ·rw [if_pos c5] at H
     have c5b0 : decide (0 ≤ x6_1) = true := decide_eq_true c5
     clear c5
     replace H := Option.bind_eq_some_iff.mp H
     obtain ⟨t270, A60, H⟩ := H
     try dsimp only at H
     have A6 := aM A60
     clear A60
     by_cases c7 : t270 = true
     ·subst c7
      rw [if_pos rfl] at H
      by_cases c8 : x5_1.length < 35184372088832
      ·rw [if_pos c8] at H
       have LMc8 := aM c8
       clear c8
       obtain ⟨y272, hy272⟩ : ∃ y_ : List Int, y_ = (x5_1 ++ [(rd_T32 l0 x6_1).f0]) := ⟨_, rfl⟩
       replace H : (billiardref24_At.l0 k1 l0 y272 (wrap64 (x6_1 + 1)) a1_0 a1_1) = some r := by first | (rw [hy272]; with_reducible exact H) | (have H2_ := (Option.bind_some _ _).symm.trans H; rw [hy272]; with_reducible exact H2_) | (have H2_ := (Option.bind_some _ _).symm.trans H; with_reducible exact H2_) | with_reducible exact H | (rw [hy272]; exact H) | exact H
       have Ny272 := aM hy272
       clear hy272
       have H' := aM H
       clear H
       try go_wp2
       have n0_ := aM (Kd.R_drew HO_5.out)
       have n1_ := aM (bD BK268.out)
       have n2_ := aM (lD HB.out)
       clear HO_5
       clear BK268
       clear HB
       have HO_5 := n0_
       have BK268 := n1_
       have HB := n2_
       clear n0_ n1_ n2_
       have p269 : 0 ≤ (x6_1 : Int) := of_decide_eq_true (by first | (with_reducible assumption) | assumption)
       have q269 : x6_1 < (l0.length : Int) := of_decide_eq_true (by first | (with_reducible assumption) | assumption)
       obtain ⟨ad269, e269, hx269_0, hx269_1, hx269_2, hx269_3, hx269_4, hx269_5, hx269_6, hx269_7, hx269_8, hx269_9⟩ := at_T32 HR0.out x6_1 p269 q269
       have hw269_9 := hx269_9
       have hw269_8 := hx269_8
       have hw269_7 := hx269_7
       have hw269_6 := hx269_6
       have hw269_5 := hx269_5
       have hw269_4 := hx269_4
       have hw269_3 := hx269_3
       have hw269_2 := hx269_2
       have hw269_1 := hx269_1
       have hw269_0 := hx269_0
       cases e269
       replace hx269_0 := (HB.out.cell (World.block_lt_of_cell? w _ hx269_0)).trans hx269_0
       replace hx269_1 := (HB.out.cell (World.block_lt_of_cell? w _ hx269_1)).trans hx269_1
       replace hx269_2 := (HB.out.cell (World.block_lt_of_cell? w _ hx269_2)).trans hx269_2
       replace hx269_3 := (HB.out.cell (World.block_lt_of_cell? w _ hx269_3)).trans hx269_3
       replace hx269_4 := (HB.out.cell (World.block_lt_of_cell? w _ hx269_4)).trans hx269_4
       replace hx269_5 := (HB.out.cell (World.block_lt_of_cell? w _ hx269_5)).trans hx269_5
       replace hx269_6 := (HB.out.cell (World.block_lt_of_cell? w _ hx269_6)).trans hx269_6
       replace hx269_7 := (HB.out.cell (World.block_lt_of_cell? w _ hx269_7)).trans hx269_7
       replace hx269_8 := (HB.out.cell (World.block_lt_of_cell? w _ hx269_8)).trans hx269_8
       replace hx269_9 := (HB.out.cell (World.block_lt_of_cell? w _ hx269_9)).trans hx269_9
       replace p269 := eq_true p269
       replace q269 := eq_true q269
       refine start_ (n := 6) (S := fun w' => w'.cell? ⟨b268, 0, none⟩ = some (.int .i32 a1_0) ∧ w'.cell? ⟨b268, 1, none⟩ = some (.int .i32 a1_1) ∧ w'.cell? (ad269.add ((x6_1).toNat * 10)) = some (.int .u32 ((rd_T32 l0 x6_1).f0)) ∧ w'.cell? ⟨(ad269.add ((x6_1).toNat * 10)).block, (ad269.add ((x6_1).toNat * 10)).off + 1, none⟩ = some (.int .i32 ((rd_T32 l0 x6_1).f1)) ∧ w'.cell? ⟨(ad269.add ((x6_1).toNat * 10)).block, (ad269.add ((x6_1).toNat * 10)).off + 2, none⟩ = some (.int .i32 ((rd_T32 l0 x6_1).f2.f0)) ∧ w'.cell? ⟨(ad269.add ((x6_1).toNat * 10)).block, (ad269.add ((x6_1).toNat * 10)).off + 3, none⟩ = some (.int .i32 ((rd_T32 l0 x6_1).f2.f1)) ∧ w'.cell? ⟨(ad269.add ((x6_1).toNat * 10)).block, (ad269.add ((x6_1).toNat * 10)).off + 4, none⟩ = some (.int .i32 ((rd_T32 l0 x6_1).f3)) ∧ w'.cell? ⟨(ad269.add ((x6_1).toNat * 10)).block, (ad269.add ((x6_1).toNat * 10)).off + 5, none⟩ = some (.int .i32 ((rd_T32 l0 x6_1).f4)) ∧ w'.cell? ⟨(ad269.add ((x6_1).toNat * 10)).block, (ad269.add ((x6_1).toNat * 10)).off + 6, none⟩ = some (.int .i32 ((rd_T32 l0 x6_1).f5.f0)) ∧ w'.cell? ⟨(ad269.add ((x6_1).toNat * 10)).block, (ad269.add ((x6_1).toNat * 10)).off + 7, none⟩ = some (.int .i32 ((rd_T32 l0 x6_1).f5.f1)) ∧ w'.cell? ⟨(ad269.add ((x6_1).toNat * 10)).block, (ad269.add ((x6_1).toNat * 10)).off + 8, none⟩ = some (.int .i32 ((rd_T32 l0 x6_1).f6.f0)) ∧ w'.cell? ⟨(ad269.add ((x6_1).toNat * 10)).block, (ad269.add ((x6_1).toNat * 10)).off + 9, none⟩ = some (.int .i32 ((rd_T32 l0 x6_1).f6.f1))) (ds := []) #[F,F,F,F,F,F] (by kernel_rfl) rfl rfl ⟨(bC BK268.out 0).trans rfl, (bC BK268.out 1).trans rfl, ((HB.out.cell (World.block_lt_of_cell? w _ hw269_0)).trans hw269_0), ((HB.out.cell (World.block_lt_of_cell? w _ hw269_1)).trans hw269_1), ((HB.out.cell (World.block_lt_of_cell? w _ hw269_2)).trans hw269_2), ((HB.out.cell (World.block_lt_of_cell? w _ hw269_3)).trans hw269_3), ((HB.out.cell (World.block_lt_of_cell? w _ hw269_4)).trans hw269_4), ((HB.out.cell (World.block_lt_of_cell? w _ hw269_5)).trans hw269_5), ((HB.out.cell (World.block_lt_of_cell? w _ hw269_6)).trans hw269_6), ((HB.out.cell (World.block_lt_of_cell? w _ hw269_7)).trans hw269_7), ((HB.out.cell (World.block_lt_of_cell? w _ hw269_8)).trans hw269_8), ((HB.out.cell (World.block_lt_of_cell? w _ hw269_9)).trans hw269_9)⟩ (fun hHeld => ?_)
       generalize wr.drew = w9 at HO_5 BK268 HB hx269_0 hx269_1 hx269_2 hx269_3 hx269_4 hx269_5 hx269_6 hx269_7 hx269_8 hx269_9 hHeld ⊢
       refine pure_ (i := 0) (N := some 13) (v := ?_) (a' := ?_) #[T,F,F,F,F,F] rfl rfl (by kernel_rfl) (fun _ _ _ h => h) (Or.inl ⟨by rfl, ?_⟩) ?_ ?_
       rotate_left
       ·intro w'
        go_simp
        with_reducible rfl
       rotate_left
       ·simp only [Act.put, sA, sB, sC, i64_w, i32_w]
        rfl
       refine pure_ (i := 1) (N := some 14) (v := ?_) (a' := ?_) #[T,T,F,F,F,F] rfl rfl (by kernel_rfl) (fun _ _ _ h => h) (Or.inl ⟨by rfl, ?_⟩) ?_ ?_
       rotate_left
       ·intro w'
        go_simp
        with_reducible rfl
       rotate_left
       ·simp only [Act.put, sA, sB, sC, i64_w, i32_w]
        rfl
       refine pure_ (i := 2) (N := some 15) (v := ?_) (a' := ?_) #[T,T,T,F,F,F] rfl rfl (by kernel_rfl) (fun _ _ _ h => h) (Or.inl ⟨by rfl, ?_⟩) ?_ ?_
       rotate_left
       ·intro w'
        go_simp
        with_reducible rfl
       rotate_left
       ·simp only [Act.put, sA, sB, sC, i64_w, i32_w]
        rfl
       refine take_ (i := 3) (N := some 16) (v := ?_) (a' := ?_) #[T,T,T,T,F,F] rfl rfl (by kernel_rfl) (fun _ _ _ h => h) (Or.inl ⟨by rfl, ?_⟩) hHeld ?_ ?_
       rotate_left
       ·rintro w' ⟨s0, s1, s2, s3, s4, s5, s6, s7, s8, s9, s10, s11⟩
        go_simp
        with_reducible rfl
       rotate_left
       ·simp only [Act.put, sA, sB, sC, i64_w, i32_w]
        rfl
       refine take_ (i := 4) (N := some 17) (v := ?_) (a' := ?_) #[T,T,T,T,T,F] rfl rfl (by kernel_rfl) (fun _ _ _ h => h) (Or.inl ⟨by rfl, ?_⟩) hHeld ?_ ?_
       rotate_left
       ·rintro w' ⟨s0, s1, s2, s3, s4, s5, s6, s7, s8, s9, s10, s11⟩
        go_simp
        with_reducible rfl
       rotate_left
       ·simp only [Act.put, sA, sB, sC, i64_w, i32_w]
        rfl
       refine one_ (i := 5) (N := some 18) #[T,T,T,T,T,T] rfl rfl (by kernel_rfl) (by decide) (fun K hK => ?_)
       refine goes_ Try.func13 (by kernel_rfl) rfl #[.agg #[.int .u32 ((rd_T32 l0 x6_1).f0), .int .i32 ((rd_T32 l0 x6_1).f1), .int .i32 ((rd_T32 l0 x6_1).f2.f0), .int .i32 ((rd_T32 l0 x6_1).f2.f1), .int .i32 ((rd_T32 l0 x6_1).f3), .int .i32 ((rd_T32 l0 x6_1).f4), .int .i32 ((rd_T32 l0 x6_1).f5.f0), .int .i32 ((rd_T32 l0 x6_1).f5.f1), .int .i32 ((rd_T32 l0 x6_1).f6.f0), .int .i32 ((rd_T32 l0 x6_1).f6.f1)], .agg #[.int .i32 a1_0, .int .i32 a1_1]] (by rfl) rfl rfl (by (try simp only [List.map_toArray, List.map_cons, List.map_nil]); first | done | rfl | (simp only [List.length_drop, List.length_take]; rfl)) ?_
       with_reducible refine (billiardref24_In.calls ((rd_T32 l0 x6_1).f0) ((rd_T32 l0 x6_1).f1) ((rd_T32 l0 x6_1).f2.f0) ((rd_T32 l0 x6_1).f2.f1) ((rd_T32 l0 x6_1).f3) ((rd_T32 l0 x6_1).f4) ((rd_T32 l0 x6_1).f5.f0) ((rd_T32 l0 x6_1).f5.f1) ((rd_T32 l0 x6_1).f6.f0) ((rd_T32 l0 x6_1).f6.f1) a1_0 a1_1 true _ A6.out).mono ?_
       rintro e w10 ⟨rfl, hb⟩
       refine ⟨_, rfl, ?_⟩
       have n0_ := aM (Kd.R_below (by (with_reducible repeat (first | apply Kd.R_alloc | apply Kd.R_drewN | apply Kd.R_drew)); exact HO_5.out) hb)
       have n1_ := aM (bB (by (with_reducible repeat first | apply bN | apply bD | apply bA); exact BK268.out) hb)
       have n2_ := aM (lT (by repeat (first | (with_reducible first | exact HB.out | apply lA | apply lN | apply lD | refine lS ?_ GE268.out) | exact HB.out)) hb)
       clear HO_5
       clear BK268
       clear HB
       have HO_5 := n0_
       have BK268 := n1_
       have HB := n2_
       clear n0_ n1_ n2_
       (try clear hb)
       (try clear hb2)
       (try clear hk)
       (try clear hi)
       refine hK.out _ _ ⟨(bC BK268.out 0).trans rfl, (bC BK268.out 1).trans rfl, ((HB.out.cell (World.block_lt_of_cell? w _ hw269_0)).trans hw269_0), ((HB.out.cell (World.block_lt_of_cell? w _ hw269_1)).trans hw269_1), ((HB.out.cell (World.block_lt_of_cell? w _ hw269_2)).trans hw269_2), ((HB.out.cell (World.block_lt_of_cell? w _ hw269_3)).trans hw269_3), ((HB.out.cell (World.block_lt_of_cell? w _ hw269_4)).trans hw269_4), ((HB.out.cell (World.block_lt_of_cell? w _ hw269_5)).trans hw269_5), ((HB.out.cell (World.block_lt_of_cell? w _ hw269_6)).trans hw269_6), ((HB.out.cell (World.block_lt_of_cell? w _ hw269_7)).trans hw269_7), ((HB.out.cell (World.block_lt_of_cell? w _ hw269_8)).trans hw269_8), ((HB.out.cell (World.block_lt_of_cell? w _ hw269_9)).trans hw269_9)⟩ (fun hHeld => ?_)
       clear hK K
       refine norm_ (a' := ?_) ?_ ?_
       rotate_left
       ·show Act.put _ (some 18) _ = _
        simp only [Act.put, sA, sB, sC, i64_w, i32_w]
        rfl
       refine done_ (by kernel_rfl) ?_
       have p271 : 0 ≤ (x6_1 : Int) := of_decide_eq_true (by first | (with_reducible assumption) | assumption)
       have q271 : x6_1 < (l0.length : Int) := of_decide_eq_true (by first | (with_reducible assumption) | assumption)
       obtain ⟨ad271, e271, hx271_0, hx271_1, hx271_2, hx271_3, hx271_4, hx271_5, hx271_6, hx271_7, hx271_8, hx271_9⟩ := at_T32 HR0.out x6_1 p271 q271
       obtain rfl : ad269 = ad271 := (by injection e271)
       replace hx271_0 := (HB.out.cell (World.block_lt_of_cell? w _ hx271_0)).trans hx271_0
       replace hx271_1 := (HB.out.cell (World.block_lt_of_cell? w _ hx271_1)).trans hx271_1
       replace hx271_2 := (HB.out.cell (World.block_lt_of_cell? w _ hx271_2)).trans hx271_2
       replace hx271_3 := (HB.out.cell (World.block_lt_of_cell? w _ hx271_3)).trans hx271_3
       replace hx271_4 := (HB.out.cell (World.block_lt_of_cell? w _ hx271_4)).trans hx271_4
       replace hx271_5 := (HB.out.cell (World.block_lt_of_cell? w _ hx271_5)).trans hx271_5
       replace hx271_6 := (HB.out.cell (World.block_lt_of_cell? w _ hx271_6)).trans hx271_6
       replace hx271_7 := (HB.out.cell (World.block_lt_of_cell? w _ hx271_7)).trans hx271_7
       replace hx271_8 := (HB.out.cell (World.block_lt_of_cell? w _ hx271_8)).trans hx271_8
       replace hx271_9 := (HB.out.cell (World.block_lt_of_cell? w _ hx271_9)).trans hx271_9
       replace p271 := eq_true p271
       replace q271 := eq_true q271
       try go_wp2_with (first | ((with_reducible refine gate_builtin (b := .append) (xs := #[.tmp 19, .tmp 25]) rfl ?_); at_builtin; refine Kd.R_append (Kd.int .u32) (w0 := w) w.heap.size rfl (.tmp 19) (.tmp 25) 35 30 (.int .u32 0) 4 rfl Try.underlying35 info30 rfl (by decide) (by omega) u5 x5_1 ((rd_T32 l0 x6_1).f0) [.int .u32 ((rd_T32 l0 x6_1).f0)] (fun _ => True) (fun _ => False) rfl rfl ?aP (fun _ hk => hk.elim) ?aF ?aO ?aB ?aS ?aL ?_; (case aP => exact rfl); (case aB => exact (by repeat (first | (with_reducible first | exact HB.out | apply lA | apply lN | apply lD | refine lS ?_ GE268.out) | exact HB.out))); (case aF => exact (fun _ _ => trivial)); (case aO => exact (by (with_reducible repeat (first | apply Kd.R_alloc | apply Kd.R_drewN | apply Kd.R_drew)); exact HO_5.out)); (case aS => exact (lZ (by repeat (first | (with_reducible first | exact HB.out | apply lA | apply lN | apply lD | refine lS ?_ GE268.out) | exact HB.out)))); (case aL => have := LMc8.out; omega); intro v273 w11 ho hb hg hat; rw [← Ny272.out] at ho; have n0_ := aM (blk_grown (g := b268) (o := .cells #[.int .i32 a1_0, .int .i32 a1_1] 24 (0, 0)) (by (with_reducible repeat first | apply bN | apply bD | apply bA); exact BK268.out) hg (Kd.R_ne HO_5.out BK268.out (by decide))); have n1_ := aM (hb); have n2_ := aM (ho); clear BK268; clear HB; clear HO_5; have BK268 := n0_; have HB := n1_; have HO274 := n2_; clear n0_ n1_ n2_; clear ho hb hg hat))
       go_roundg k1
       case measure => have := HK1.out; omega
       case rel => exact ⟨(y272), (wrap64 (x6_1 + 1)), (by first | rfl | (simp; done) | (simp [*]; done)), H', ⟨by have := HK1.out; omega⟩, ⟨by (with_reducible repeat (first | apply Kd.R_alloc | apply Kd.R_drewN | apply Kd.R_drew)); exact HO274.out⟩, ⟨by (with_reducible repeat first | apply bN | apply bD | apply bA); exact BK268.out⟩, ⟨by repeat (first | (with_reducible first | exact HB.out | apply lA | apply lN | apply lD | refine lS ?_ GE268.out) | exact HB.out)⟩⟩
      ·rw [if_neg c8] at H
       exact absurd H (by simp)
     ·replace c7 := Bool.eq_false_iff.mpr c7
      subst c7
      rw [if_neg (show ¬ (false = true) by decide)] at H
      have H' := aM H
      clear H
      try go_wp2
      have n0_ := aM (Kd.R_drew HO_5.out)
      have n1_ := aM (bD BK268.out)
      have n2_ := aM (lD HB.out)
      clear HO_5
      clear BK268
      clear HB
      have HO_5 := n0_
      have BK268 := n1_
      have HB := n2_
      clear n0_ n1_ n2_
      have p269 : 0 ≤ (x6_1 : Int) := of_decide_eq_true (by first | (with_reducible assumption) | assumption)
      have q269 : x6_1 < (l0.length : Int) := of_decide_eq_true (by first | (with_reducible assumption) | assumption)
      obtain ⟨ad269, e269, hx269_0, hx269_1, hx269_2, hx269_3, hx269_4, hx269_5, hx269_6, hx269_7, hx269_8, hx269_9⟩ := at_T32 HR0.out x6_1 p269 q269
      have hw269_9 := hx269_9
      have hw269_8 := hx269_8
      have hw269_7 := hx269_7
      have hw269_6 := hx269_6
      have hw269_5 := hx269_5
      have hw269_4 := hx269_4
      have hw269_3 := hx269_3
      have hw269_2 := hx269_2
      have hw269_1 := hx269_1
      have hw269_0 := hx269_0
      cases e269
      replace hx269_0 := (HB.out.cell (World.block_lt_of_cell? w _ hx269_0)).trans hx269_0
      replace hx269_1 := (HB.out.cell (World.block_lt_of_cell? w _ hx269_1)).trans hx269_1
      replace hx269_2 := (HB.out.cell (World.block_lt_of_cell? w _ hx269_2)).trans hx269_2
      replace hx269_3 := (HB.out.cell (World.block_lt_of_cell? w _ hx269_3)).trans hx269_3
      replace hx269_4 := (HB.out.cell (World.block_lt_of_cell? w _ hx269_4)).trans hx269_4
      replace hx269_5 := (HB.out.cell (World.block_lt_of_cell? w _ hx269_5)).trans hx269_5
      replace hx269_6 := (HB.out.cell (World.block_lt_of_cell? w _ hx269_6)).trans hx269_6
      replace hx269_7 := (HB.out.cell (World.block_lt_of_cell? w _ hx269_7)).trans hx269_7
      replace hx269_8 := (HB.out.cell (World.block_lt_of_cell? w _ hx269_8)).trans hx269_8
      replace hx269_9 := (HB.out.cell (World.block_lt_of_cell? w _ hx269_9)).trans hx269_9
      replace p269 := eq_true p269
      replace q269 := eq_true q269
      refine start_ (n := 6) (S := fun w' => w'.cell? ⟨b268, 0, none⟩ = some (.int .i32 a1_0) ∧ w'.cell? ⟨b268, 1, none⟩ = some (.int .i32 a1_1) ∧ w'.cell? (ad269.add ((x6_1).toNat * 10)) = some (.int .u32 ((rd_T32 l0 x6_1).f0)) ∧ w'.cell? ⟨(ad269.add ((x6_1).toNat * 10)).block, (ad269.add ((x6_1).toNat * 10)).off + 1, none⟩ = some (.int .i32 ((rd_T32 l0 x6_1).f1)) ∧ w'.cell? ⟨(ad269.add ((x6_1).toNat * 10)).block, (ad269.add ((x6_1).toNat * 10)).off + 2, none⟩ = some (.int .i32 ((rd_T32 l0 x6_1).f2.f0)) ∧ w'.cell? ⟨(ad269.add ((x6_1).toNat * 10)).block, (ad269.add ((x6_1).toNat * 10)).off + 3, none⟩ = some (.int .i32 ((rd_T32 l0 x6_1).f2.f1)) ∧ w'.cell? ⟨(ad269.add ((x6_1).toNat * 10)).block, (ad269.add ((x6_1).toNat * 10)).off + 4, none⟩ = some (.int .i32 ((rd_T32 l0 x6_1).f3)) ∧ w'.cell? ⟨(ad269.add ((x6_1).toNat * 10)).block, (ad269.add ((x6_1).toNat * 10)).off + 5, none⟩ = some (.int .i32 ((rd_T32 l0 x6_1).f4)) ∧ w'.cell? ⟨(ad269.add ((x6_1).toNat * 10)).block, (ad269.add ((x6_1).toNat * 10)).off + 6, none⟩ = some (.int .i32 ((rd_T32 l0 x6_1).f5.f0)) ∧ w'.cell? ⟨(ad269.add ((x6_1).toNat * 10)).block, (ad269.add ((x6_1).toNat * 10)).off + 7, none⟩ = some (.int .i32 ((rd_T32 l0 x6_1).f5.f1)) ∧ w'.cell? ⟨(ad269.add ((x6_1).toNat * 10)).block, (ad269.add ((x6_1).toNat * 10)).off + 8, none⟩ = some (.int .i32 ((rd_T32 l0 x6_1).f6.f0)) ∧ w'.cell? ⟨(ad269.add ((x6_1).toNat * 10)).block, (ad269.add ((x6_1).toNat * 10)).off + 9, none⟩ = some (.int .i32 ((rd_T32 l0 x6_1).f6.f1))) (ds := []) #[F,F,F,F,F,F] (by kernel_rfl) rfl rfl ⟨(bC BK268.out 0).trans rfl, (bC BK268.out 1).trans rfl, ((HB.out.cell (World.block_lt_of_cell? w _ hw269_0)).trans hw269_0), ((HB.out.cell (World.block_lt_of_cell? w _ hw269_1)).trans hw269_1), ((HB.out.cell (World.block_lt_of_cell? w _ hw269_2)).trans hw269_2), ((HB.out.cell (World.block_lt_of_cell? w _ hw269_3)).trans hw269_3), ((HB.out.cell (World.block_lt_of_cell? w _ hw269_4)).trans hw269_4), ((HB.out.cell (World.block_lt_of_cell? w _ hw269_5)).trans hw269_5), ((HB.out.cell (World.block_lt_of_cell? w _ hw269_6)).trans hw269_6), ((HB.out.cell (World.block_lt_of_cell? w _ hw269_7)).trans hw269_7), ((HB.out.cell (World.block_lt_of_cell? w _ hw269_8)).trans hw269_8), ((HB.out.cell (World.block_lt_of_cell? w _ hw269_9)).trans hw269_9)⟩ (fun hHeld => ?_)
      generalize wr.drew = w12 at HO_5 BK268 HB hx269_0 hx269_1 hx269_2 hx269_3 hx269_4 hx269_5 hx269_6 hx269_7 hx269_8 hx269_9 hHeld ⊢
      refine pure_ (i := 0) (N := some 13) (v := ?_) (a' := ?_) #[T,F,F,F,F,F] rfl rfl (by kernel_rfl) (fun _ _ _ h => h) (Or.inl ⟨by rfl, ?_⟩) ?_ ?_
      rotate_left
      ·intro w'
       go_simp
       with_reducible rfl
      rotate_left
      ·simp only [Act.put, sA, sB, sC, i64_w, i32_w]
       rfl
      refine pure_ (i := 1) (N := some 14) (v := ?_) (a' := ?_) #[T,T,F,F,F,F] rfl rfl (by kernel_rfl) (fun _ _ _ h => h) (Or.inl ⟨by rfl, ?_⟩) ?_ ?_
      rotate_left
      ·intro w'
       go_simp
       with_reducible rfl
      rotate_left
      ·simp only [Act.put, sA, sB, sC, i64_w, i32_w]
       rfl
      refine pure_ (i := 2) (N := some 15) (v := ?_) (a' := ?_) #[T,T,T,F,F,F] rfl rfl (by kernel_rfl) (fun _ _ _ h => h) (Or.inl ⟨by rfl, ?_⟩) ?_ ?_
      rotate_left
      ·intro w'
       go_simp
       with_reducible rfl
      rotate_left
      ·simp only [Act.put, sA, sB, sC, i64_w, i32_w]
       rfl
      refine take_ (i := 3) (N := some 16) (v := ?_) (a' := ?_) #[T,T,T,T,F,F] rfl rfl (by kernel_rfl) (fun _ _ _ h => h) (Or.inl ⟨by rfl, ?_⟩) hHeld ?_ ?_
      rotate_left
      ·rintro w' ⟨s0, s1, s2, s3, s4, s5, s6, s7, s8, s9, s10, s11⟩
       go_simp
       with_reducible rfl
      rotate_left
      ·simp only [Act.put, sA, sB, sC, i64_w, i32_w]
       rfl
      refine take_ (i := 4) (N := some 17) (v := ?_) (a' := ?_) #[T,T,T,T,T,F] rfl rfl (by kernel_rfl) (fun _ _ _ h => h) (Or.inl ⟨by rfl, ?_⟩) hHeld ?_ ?_
      rotate_left
      ·rintro w' ⟨s0, s1, s2, s3, s4, s5, s6, s7, s8, s9, s10, s11⟩
       go_simp
       with_reducible rfl
      rotate_left
      ·simp only [Act.put, sA, sB, sC, i64_w, i32_w]
       rfl
      refine one_ (i := 5) (N := some 18) #[T,T,T,T,T,T] rfl rfl (by kernel_rfl) (by decide) (fun K hK => ?_)
      refine goes_ Try.func13 (by kernel_rfl) rfl #[.agg #[.int .u32 ((rd_T32 l0 x6_1).f0), .int .i32 ((rd_T32 l0 x6_1).f1), .int .i32 ((rd_T32 l0 x6_1).f2.f0), .int .i32 ((rd_T32 l0 x6_1).f2.f1), .int .i32 ((rd_T32 l0 x6_1).f3), .int .i32 ((rd_T32 l0 x6_1).f4), .int .i32 ((rd_T32 l0 x6_1).f5.f0), .int .i32 ((rd_T32 l0 x6_1).f5.f1), .int .i32 ((rd_T32 l0 x6_1).f6.f0), .int .i32 ((rd_T32 l0 x6_1).f6.f1)], .agg #[.int .i32 a1_0, .int .i32 a1_1]] (by rfl) rfl rfl (by (try simp only [List.map_toArray, List.map_cons, List.map_nil]); first | done | rfl | (simp only [List.length_drop, List.length_take]; rfl)) ?_
      with_reducible refine (billiardref24_In.calls ((rd_T32 l0 x6_1).f0) ((rd_T32 l0 x6_1).f1) ((rd_T32 l0 x6_1).f2.f0) ((rd_T32 l0 x6_1).f2.f1) ((rd_T32 l0 x6_1).f3) ((rd_T32 l0 x6_1).f4) ((rd_T32 l0 x6_1).f5.f0) ((rd_T32 l0 x6_1).f5.f1) ((rd_T32 l0 x6_1).f6.f0) ((rd_T32 l0 x6_1).f6.f1) a1_0 a1_1 false _ A6.out).mono ?_
      rintro e w13 ⟨rfl, hb⟩
      refine ⟨_, rfl, ?_⟩
      have n0_ := aM (Kd.R_below (by (with_reducible repeat (first | apply Kd.R_alloc | apply Kd.R_drewN | apply Kd.R_drew)); exact HO_5.out) hb)
      have n1_ := aM (bB (by (with_reducible repeat first | apply bN | apply bD | apply bA); exact BK268.out) hb)
      have n2_ := aM (lT (by repeat (first | (with_reducible first | exact HB.out | apply lA | apply lN | apply lD | refine lS ?_ GE268.out) | exact HB.out)) hb)
      clear HO_5
      clear BK268
      clear HB
      have HO_5 := n0_
      have BK268 := n1_
      have HB := n2_
      clear n0_ n1_ n2_
      (try clear hb)
      (try clear hb2)
      (try clear hk)
      (try clear hi)
      refine hK.out _ _ ⟨(bC BK268.out 0).trans rfl, (bC BK268.out 1).trans rfl, ((HB.out.cell (World.block_lt_of_cell? w _ hw269_0)).trans hw269_0), ((HB.out.cell (World.block_lt_of_cell? w _ hw269_1)).trans hw269_1), ((HB.out.cell (World.block_lt_of_cell? w _ hw269_2)).trans hw269_2), ((HB.out.cell (World.block_lt_of_cell? w _ hw269_3)).trans hw269_3), ((HB.out.cell (World.block_lt_of_cell? w _ hw269_4)).trans hw269_4), ((HB.out.cell (World.block_lt_of_cell? w _ hw269_5)).trans hw269_5), ((HB.out.cell (World.block_lt_of_cell? w _ hw269_6)).trans hw269_6), ((HB.out.cell (World.block_lt_of_cell? w _ hw269_7)).trans hw269_7), ((HB.out.cell (World.block_lt_of_cell? w _ hw269_8)).trans hw269_8), ((HB.out.cell (World.block_lt_of_cell? w _ hw269_9)).trans hw269_9)⟩ (fun hHeld => ?_)
      clear hK K
      refine norm_ (a' := ?_) ?_ ?_
      rotate_left
      ·show Act.put _ (some 18) _ = _
       simp only [Act.put, sA, sB, sC, i64_w, i32_w]
       rfl
      refine done_ (by kernel_rfl) ?_
      try go_wp2
      go_roundg k1
      case measure => have := HK1.out; omega
      case rel => exact ⟨(x5_1), (wrap64 (x6_1 + 1)), (by first | rfl | (simp; done) | (simp [*]; done)), H', ⟨by have := HK1.out; omega⟩, ⟨by (with_reducible repeat (first | apply Kd.R_alloc | apply Kd.R_drewN | apply Kd.R_drew)); exact HO_5.out⟩, ⟨by (with_reducible repeat first | apply bN | apply bD | apply bA); exact BK268.out⟩, ⟨by repeat (first | (with_reducible first | exact HB.out | apply lA | apply lN | apply lD | refine lS ?_ GE268.out) | exact HB.out)⟩⟩
    ·rw [if_neg c5] at H
     exact absurd H (by simp)
   ·rw [if_neg c4] at H
    have c4b0 : decide (x6_1 < (l0.length : Int)) = false := decide_eq_false c4
    clear c4
    obtain rfl := Option.some.inj H
    go_wp2
    go_ret
    exact ⟨_, by first | rfl | (simp [errW_none, errW_some] <;> rfl) | (simp [*, errW_none, errW_some] <;> rfl), by (with_reducible repeat (first | apply Kd.R_alloc | apply Kd.R_drewN | apply Kd.R_drew)); exact HO_5.out, by repeat (first | (with_reducible first | exact HB.out | apply lA | apply lN | apply lD | refine lS ?_ GE268.out) | exact HB.out)⟩

/-! ### billiardref24_Near: function 18 -/
def billiardref24_Near.l0 : Nat → List (S32) → Int → List Int → Int → Int → Int → Option (List Int)
 | 0, _, _, _, _, _, _ => none
 | k + 1, x0, x2, x7, x8, x276000, x276001 => if x8 < (x0.length : Int) then (if 0 ≤ x8 then ((billiardref24_Distance.f k ((rd_T32 x0 x8).f0) ((rd_T32 x0 x8).f1) ((rd_T32 x0 x8).f2.f0) ((rd_T32 x0 x8).f2.f1) ((rd_T32 x0 x8).f3) ((rd_T32 x0 x8).f4) ((rd_T32 x0 x8).f5.f0) ((rd_T32 x0 x8).f5.f1) ((rd_T32 x0 x8).f6.f0) ((rd_T32 x0 x8).f6.f1) x276000 x276001).bind fun t277 => (if t277 ≤ x2 then (if x7.length < 35184372088832 then (billiardref24_Near.l0 k x0 x2 (x7 ++ [(rd_T32 x0 x8).f0]) (wrap64 (x8 + 1)) x276000 x276001) else (none)) else (billiardref24_Near.l0 k x0 x2 x7 (wrap64 (x8 + 1)) x276000 x276001))) else (none)) else (some x7)
def billiardref24_Near.f (k : Nat) (l0 : List (S32)) (a1_0 : Int) (a1_1 : Int) (a2 : Int) : Option (List Int) := billiardref24_Near.l0 k l0 a2 ([] : List Int) 0 a1_0 a1_1
theorem billiardref24_Near.mono_l : ∀ k, (∀ y0 y1 y2 y3 y4 y5, LeO (billiardref24_Near.l0 k y0 y1 y2 y3 y4 y5) (billiardref24_Near.l0 (k + 1) y0 y1 y2 y3 y4 y5))
 | 0 => fun _ _ _ _ _ _ r h => by simp [billiardref24_Near.l0] at h
 | k + 1 => by
  have ih0 := billiardref24_Near.mono_l k
  ·intro y0 y1 y2 y3 y4 y5
   unfold billiardref24_Near.l0
   repeat' first
   | (with_reducible exact ih0 _ _ _ _ _ _)
   | (with_reducible exact billiardref24_Distance.mono _ _ _ _ _ _ _ _ _ _ _ _ _)
   | (with_reducible exact LeO.refl _)
   | (with_reducible exact LeO.none _)
   | (with_reducible refine LeO.ite ?_ ?_)
   | (with_reducible refine LeO.bind ?_ (fun _ => ?_))
   | exact ih0 _ _ _ _ _ _
   | exact billiardref24_Distance.mono _ _ _ _ _ _ _ _ _ _ _ _ _
   | exact LeO.none _
   | refine LeO.ite ?_ ?_
   | refine LeO.bind ?_ (fun _ => ?_)
theorem billiardref24_Near.mono : ∀ a0 a1 a2 a3 k, LeO (billiardref24_Near.f k a0 a1 a2 a3) (billiardref24_Near.f (k + 1) a0 a1 a2 a3) := by
 intro a0 a1 a2 a3 k
 have ih0 := billiardref24_Near.mono_l k
 unfold billiardref24_Near.f
 repeat' first
   | (with_reducible exact ih0 _ _ _ _ _ _)
   | (with_reducible exact billiardref24_Distance.mono _ _ _ _ _ _ _ _ _ _ _ _ _)
   | (with_reducible exact LeO.refl _)
   | (with_reducible exact LeO.none _)
   | (with_reducible refine LeO.ite ?_ ?_)
   | (with_reducible refine LeO.bind ?_ (fun _ => ?_))
   | exact ih0 _ _ _ _ _ _
   | exact billiardref24_Distance.mono _ _ _ _ _ _ _ _ _ _ _ _ _
   | exact LeO.none _
   | refine LeO.ite ?_ ?_
   | refine LeO.bind ?_ (fun _ => ?_)
def billiardref24_Near.T5 : Bool × List (List Nat × List Nat) := (true, [([], []), ([], []), ([0, 1], [0, 1]), ([2], [2]), ([], []), ([3, 4], [3, 4]), ([], []), ([5, 6], [5, 6])])
def billiardref24_Near.B5 : List Nat := [0, 0, 3, 7, 0, 31, 0, 127]
theorem billiardref24_Near.tab5 : rtab .any (opsOf Try.f18 5) = billiardref24_Near.T5 := by kernel_rfl
theorem billiardref24_Near.bits5 : waitsOk billiardref24_Near.T5.2 billiardref24_Near.B5 = true := by kernel_rfl
set_option maxHeartbeats 8000000 in
set_option maxRecDepth 100000 in
theorem billiardref24_Near.calls (k : Nat) (A0 : Option Addr) (c0 : Nat) (l0 : List (S32)) (a1_0 : Int) (a1_1 : Int) (a2 : Int) (r : List Int) (w : World) (hr0 : Kd.C k32 w A0 l0.length l0) (hc0 : l0.length ≤ c0) (h : billiardref24_Near.f k l0 a1_0 a1_1 a2 = some r) :
  Calls Try.prog 18 #[.slice A0 l0.length c0, .agg #[.int .i32 a1_0, .int .i32 a1_1], .int .i64 a2] w fun e w' => ∃ v0_ : Value, e = .returned (v0_) ∧ Kd.R (Kd.int .u32) 30 w' w.heap.size (fun _ => True) v0_ r ∧ Below w.heap.size w w' := by
 have hu24 := Try.underlying24
 have hu32 := Try.underlying32
 have HR0 := aM hr0
 have HC0 := aM hc0
 clear hr0 hc0
 have HB := aM (Below.refl w.heap.size w)
 have H : (billiardref24_Near.l0 k l0 a2 ([] : List Int) 0 a1_0 a1_1) = some r := h
 clear h
 have H' := aM H
 clear H
 go_enter Try.func18, Try.ntmps18
 go_wp2_with (first | ((with_reducible refine gate_dst (N := 4) rfl ?_); refine box_event ?hg (N := 4) ?hd (cs := #[.int .i32 a1_0, .int .i32 a1_1]) (t := 24) ?hr ?_; (case hd => rfl); (case hg => rfl); (case hr => first | (go_simp; done) | (go_simp; rfl)); intro b275 hg w4 hbox hb; have n0_ := aM (lT (by repeat (first | (with_reducible first | exact HB.out | apply lA | apply lN | apply lD) | exact HB.out)) hb); have n1_ := aM (hbox); have n2_ := aM ((by rw [hg]; exact (lZ (by repeat (first | (with_reducible first | exact HB.out | apply lA | apply lN | apply lD) | exact HB.out))) : w.heap.size ≤ b275)); have n3_ := aM ((by rw [hg]; exact (lZ (by repeat (first | (with_reducible first | exact HB.out | apply lA | apply lN | apply lD) | exact HB.out))) : w.heap.size ≤ b275)); clear HB; have HB := n0_; have BK275 := n1_; have GW275 := n2_; have GE275 := n3_; clear n0_ n1_ n2_ n3_; clear hb hbox hg))
 go_loopg [7, 8] k (fun kq v7 v8 w' => ∃ (x7_1 : List Int) (x8_1 : Int), v8 = .int .i64 x8_1 ∧ Aside0 (billiardref24_Near.l0 kq l0 a2 x7_1 x8_1 a1_0 a1_1 = some r) ∧ Aside0 (kq ≤ k) ∧ Aside0 (Kd.R (Kd.int .u32) 30 w' w.heap.size (fun _ => True) v7 x7_1) ∧ Aside0 (w'.heap[b275]? = some (.cells #[.int .i32 a1_0, .int .i32 a1_1] 24 (0, 0))) ∧ Aside0 (Below w.heap.size w w'))
 case atStart => exact ⟨(([] : List Int)), (0), (by first | rfl | (simp; done) | (simp [*]; done)), H', ⟨Nat.le_refl _⟩, ⟨by first | exact Kd.R_nil _ _ _ _ _ | exact Kd.N_nil _ _ _ _ _ | exact Kd.V_nil _ _ _ _ _ | exact Kd.Q_nil _ _ _ _ _ | exact Kd.S_nil _ _ _ _ _⟩, ⟨by (with_reducible repeat first | apply bN | apply bD | apply bA); exact BK275.out⟩, ⟨by repeat (first | (with_reducible first | exact HB.out | apply lA | apply lN | apply lD | refine lS ?_ GE275.out) | exact HB.out)⟩⟩
 case round =>
  clear H'
  try clear c1
  try clear p2
  obtain ⟨x7_1, x8_1, rfl, HA, HK1, HO_7, BK275, HB⟩ := hrel
  cases gk with
  | zero => exact absurd HA.out (by simp [billiardref24_Near.l0])
  | succ k1 =>
   have H := HA.out
   clear HA
   simp only [billiardref24_Near.l0] at H
   by_cases c5 : x8_1 < (l0.length : Int)
   ·rw [if_pos c5] at H
    have c5b0 : decide (x8_1 < (l0.length : Int)) = true := decide_eq_true c5
    clear c5
    by_cases c6 : 0 ≤ x8_1
    ·rw [if_pos c6] at H
     have c6b0 : decide (0 ≤ x8_1) = true := decide_eq_true c6
     clear c6
     replace H := Option.bind_eq_some_iff.mp H
     obtain ⟨t277, A70, H⟩ := H
     try dsimp only at H
     have A7 := aM A70
     clear A70
     by_cases c8 : t277 ≤ a2
     ·rw [if_pos c8] at H
      have c8b0 : decide (t277 ≤ a2) = true := decide_eq_true c8
      clear c8
      by_cases c9 : x7_1.length < 35184372088832
      ·rw [if_pos c9] at H
       have LMc9 := aM c9
       clear c9
       obtain ⟨y279, hy279⟩ : ∃ y_ : List Int, y_ = (x7_1 ++ [(rd_T32 l0 x8_1).f0]) := ⟨_, rfl⟩
       replace H : (billiardref24_Near.l0 k1 l0 a2 y279 (wrap64 (x8_1 + 1)) a1_0 a1_1) = some r := by first | (rw [hy279]; with_reducible exact H) | (have H2_ := (Option.bind_some _ _).symm.trans H; rw [hy279]; with_reducible exact H2_) | (have H2_ := (Option.bind_some _ _).symm.trans H; with_reducible exact H2_) | with_reducible exact H | (rw [hy279]; exact H) | exact H
       have Ny279 := aM hy279
       clear hy279
       have H' := aM H
       clear H
       try go_wp2
       have n0_ := aM (Kd.R_drew HO_7.out)
       have n1_ := aM (bD BK275.out)
       have n2_ := aM (lD HB.out)
       clear HO_7
       clear BK275
       clear HB
       have HO_7 := n0_
       have BK275 := n1_
       have HB := n2_
       clear n0_ n1_ n2_
       have p276 : 0 ≤ (x8_1 : Int) := of_decide_eq_true (by first | (with_reducible assumption) | assumption)
       have q276 : x8_1 < (l0.length : Int) := of_decide_eq_true (by first | (with_reducible assumption) | assumption)
       obtain ⟨ad276, e276, hx276_0, hx276_1, hx276_2, hx276_3, hx276_4, hx276_5, hx276_6, hx276_7, hx276_8, hx276_9⟩ := at_T32 HR0.out x8_1 p276 q276
       have hw276_9 := hx276_9
       have hw276_8 := hx276_8
       have hw276_7 := hx276_7
       have hw276_6 := hx276_6
       have hw276_5 := hx276_5
       have hw276_4 := hx276_4
       have hw276_3 := hx276_3
       have hw276_2 := hx276_2
       have hw276_1 := hx276_1
       have hw276_0 := hx276_0
       cases e276
       replace hx276_0 := (HB.out.cell (World.block_lt_of_cell? w _ hx276_0)).trans hx276_0
       replace hx276_1 := (HB.out.cell (World.block_lt_of_cell? w _ hx276_1)).trans hx276_1
       replace hx276_2 := (HB.out.cell (World.block_lt_of_cell? w _ hx276_2)).trans hx276_2
       replace hx276_3 := (HB.out.cell (World.block_lt_of_cell? w _ hx276_3)).trans hx276_3
       replace hx276_4 := (HB.out.cell (World.block_lt_of_cell? w _ hx276_4)).trans hx276_4
       replace hx276_5 := (HB.out.cell (World.block_lt_of_cell? w _ hx276_5)).trans hx276_5
       replace hx276_6 := (HB.out.cell (World.block_lt_of_cell? w _ hx276_6)).trans hx276_6
       replace hx276_7 := (HB.out.cell (World.block_lt_of_cell? w _ hx276_7)).trans hx276_7
       replace hx276_8 := (HB.out.cell (World.block_lt_of_cell? w _ hx276_8)).trans hx276_8
       replace hx276_9 := (HB.out.cell (World.block_lt_of_cell? w _ hx276_9)).trans hx276_9
       replace p276 := eq_true p276
       replace q276 := eq_true q276
       refine start_ (n := 8) (S := fun w' => w'.cell? ⟨b275, 0, none⟩ = some (.int .i32 a1_0) ∧ w'.cell? ⟨b275, 1, none⟩ = some (.int .i32 a1_1) ∧ w'.cell? (ad276.add ((x8_1).toNat * 10)) = some (.int .u32 ((rd_T32 l0 x8_1).f0)) ∧ w'.cell? ⟨(ad276.add ((x8_1).toNat * 10)).block, (ad276.add ((x8_1).toNat * 10)).off + 1, none⟩ = some (.int .i32 ((rd_T32 l0 x8_1).f1)) ∧ w'.cell? ⟨(ad276.add ((x8_1).toNat * 10)).block, (ad276.add ((x8_1).toNat * 10)).off + 2, none⟩ = some (.int .i32 ((rd_T32 l0 x8_1).f2.f0)) ∧ w'.cell? ⟨(ad276.add ((x8_1).toNat * 10)).block, (ad276.add ((x8_1).toNat * 10)).off + 3, none⟩ = some (.int .i32 ((rd_T32 l0 x8_1).f2.f1)) ∧ w'.cell? ⟨(ad276.add ((x8_1).toNat * 10)).block, (ad276.add ((x8_1).toNat * 10)).off + 4, none⟩ = some (.int .i32 ((rd_T32 l0 x8_1).f3)) ∧ w'.cell? ⟨(ad276.add ((x8_1).toNat * 10)).block, (ad276.add ((x8_1).toNat * 10)).off + 5, none⟩ = some (.int .i32 ((rd_T32 l0 x8_1).f4)) ∧ w'.cell? ⟨(ad276.add ((x8_1).toNat * 10)).block, (ad276.add ((x8_1).toNat * 10)).off + 6, none⟩ = some (.int .i32 ((rd_T32 l0 x8_1).f5.f0)) ∧ w'.cell? ⟨(ad276.add ((x8_1).toNat * 10)).block, (ad276.add ((x8_1).toNat * 10)).off + 7, none⟩ = some (.int .i32 ((rd_T32 l0 x8_1).f5.f1)) ∧ w'.cell? ⟨(ad276.add ((x8_1).toNat * 10)).block, (ad276.add ((x8_1).toNat * 10)).off + 8, none⟩ = some (.int .i32 ((rd_T32 l0 x8_1).f6.f0)) ∧ w'.cell? ⟨(ad276.add ((x8_1).toNat * 10)).block, (ad276.add ((x8_1).toNat * 10)).off + 9, none⟩ = some (.int .i32 ((rd_T32 l0 x8_1).f6.f1))) (ds := []) #[F,F,F,F,F,F,F,F] (by kernel_rfl) rfl rfl ⟨(bC BK275.out 0).trans rfl, (bC BK275.out 1).trans rfl, ((HB.out.cell (World.block_lt_of_cell? w _ hw276_0)).trans hw276_0), ((HB.out.cell (World.block_lt_of_cell? w _ hw276_1)).trans hw276_1), ((HB.out.cell (World.block_lt_of_cell? w _ hw276_2)).trans hw276_2), ((HB.out.cell (World.block_lt_of_cell? w _ hw276_3)).trans hw276_3), ((HB.out.cell (World.block_lt_of_cell? w _ hw276_4)).trans hw276_4), ((HB.out.cell (World.block_lt_of_cell? w _ hw276_5)).trans hw276_5), ((HB.out.cell (World.block_lt_of_cell? w _ hw276_6)).trans hw276_6), ((HB.out.cell (World.block_lt_of_cell? w _ hw276_7)).trans hw276_7), ((HB.out.cell (World.block_lt_of_cell? w _ hw276_8)).trans hw276_8), ((HB.out.cell (World.block_lt_of_cell? w _ hw276_9)).trans hw276_9)⟩ (fun hHeld => ?_); refine with_tabW billiardref24_Near.tab5 billiardref24_Near.bits5 (fun HT_ HW_ => ?_)
       generalize wr.drew = w10 at HO_7 BK275 HB hx276_0 hx276_1 hx276_2 hx276_3 hx276_4 hx276_5 hx276_6 hx276_7 hx276_8 hx276_9 hHeld ⊢
       refine pure_ (i := 0) (N := some 15) (v := ?_) (a' := ?_) #[T,F,F,F,F,F,F,F] rfl rfl (any_of HT_.out (by kernel_rfl)) (fun _ _ _ h => h) (Or.inl ⟨by rfl, ?_⟩) ?_ ?_
       rotate_left
       ·intro w'
        go_simp
        with_reducible rfl
       rotate_left
       ·simp only [Act.put, sA, sB, sC, i64_w, i32_w]
        rfl
       refine pure_ (i := 1) (N := some 16) (v := ?_) (a' := ?_) #[T,T,F,F,F,F,F,F] rfl rfl (any_of HT_.out (by kernel_rfl)) (fun _ _ _ h => h) (Or.inl ⟨by rfl, ?_⟩) ?_ ?_
       rotate_left
       ·intro w'
        go_simp
        with_reducible rfl
       rotate_left
       ·simp only [Act.put, sA, sB, sC, i64_w, i32_w]
        rfl
       refine pure_ (i := 2) (N := some 17) (v := ?_) (a' := ?_) #[T,T,T,F,F,F,F,F] rfl rfl (any_of HT_.out (by kernel_rfl)) (fun _ _ _ h => h) (Or.inl ⟨by rfl, ?_⟩) ?_ ?_
       rotate_left
       ·intro w'
        go_simp
        with_reducible rfl
       rotate_left
       ·simp only [Act.put, sA, sB, sC, i64_w, i32_w]
        rfl
       refine pure_ (i := 6) (N := some 21) (v := ?_) (a' := ?_) #[T,T,T,F,F,F,T,F] rfl rfl (any_of HT_.out (by kernel_rfl)) (fun _ _ _ h => h) (Or.inl ⟨by rfl, ?_⟩) ?_ ?_
       rotate_left
       ·intro w'
        go_simp
        with_reducible rfl
       rotate_left
       ·simp only [Act.put, sA, sB, sC, i64_w, i32_w]
        rfl
       refine take_ (i := 3) (N := some 18) (v := ?_) (a' := ?_) #[T,T,T,T,F,F,T,F] rfl rfl (take_ofW HT_.out HW_.out (by kernel_rfl)) (fun _ _ _ h => h) (Or.inl ⟨by rfl, ?_⟩) hHeld ?_ ?_
       rotate_left
       ·rintro w' ⟨s0, s1, s2, s3, s4, s5, s6, s7, s8, s9, s10, s11⟩
        go_simp
        with_reducible rfl
       rotate_left
       ·simp only [Act.put, sA, sB, sC, i64_w, i32_w]
        rfl
       refine take_ (i := 4) (N := some 19) (v := ?_) (a' := ?_) #[T,T,T,T,T,F,T,F] rfl rfl (take_ofW HT_.out HW_.out (by kernel_rfl)) (fun _ _ _ h => h) (Or.inl ⟨by rfl, ?_⟩) hHeld ?_ ?_
       rotate_left
       ·rintro w' ⟨s0, s1, s2, s3, s4, s5, s6, s7, s8, s9, s10, s11⟩
        go_simp
        with_reducible rfl
       rotate_left
       ·simp only [Act.put, sA, sB, sC, i64_w, i32_w]
        rfl
       refine one_ (i := 5) (N := some 20) #[T,T,T,T,T,T,T,F] rfl rfl (one_of HT_.out (by kernel_rfl)) (by decide) (fun K hK => ?_)
       refine goes_ Try.func11 (by kernel_rfl) rfl #[.agg #[.int .u32 ((rd_T32 l0 x8_1).f0), .int .i32 ((rd_T32 l0 x8_1).f1), .int .i32 ((rd_T32 l0 x8_1).f2.f0), .int .i32 ((rd_T32 l0 x8_1).f2.f1), .int .i32 ((rd_T32 l0 x8_1).f3), .int .i32 ((rd_T32 l0 x8_1).f4), .int .i32 ((rd_T32 l0 x8_1).f5.f0), .int .i32 ((rd_T32 l0 x8_1).f5.f1), .int .i32 ((rd_T32 l0 x8_1).f6.f0), .int .i32 ((rd_T32 l0 x8_1).f6.f1)], .agg #[.int .i32 a1_0, .int .i32 a1_1]] (by rfl) rfl rfl (by (try simp only [List.map_toArray, List.map_cons, List.map_nil]); first | done | rfl | (simp only [List.length_drop, List.length_take]; rfl)) ?_
       with_reducible refine (billiardref24_Distance.calls k1 ((rd_T32 l0 x8_1).f0) ((rd_T32 l0 x8_1).f1) ((rd_T32 l0 x8_1).f2.f0) ((rd_T32 l0 x8_1).f2.f1) ((rd_T32 l0 x8_1).f3) ((rd_T32 l0 x8_1).f4) ((rd_T32 l0 x8_1).f5.f0) ((rd_T32 l0 x8_1).f5.f1) ((rd_T32 l0 x8_1).f6.f0) ((rd_T32 l0 x8_1).f6.f1) a1_0 a1_1 t277 _ A7.out).mono ?_
       rintro e w11 ⟨rfl, hb⟩
       refine ⟨_, rfl, ?_⟩
       have n0_ := aM (Kd.R_below (by (with_reducible repeat (first | apply Kd.R_alloc | apply Kd.R_drewN | apply Kd.R_drew)); exact HO_7.out) hb)
       have n1_ := aM (bB (by (with_reducible repeat first | apply bN | apply bD | apply bA); exact BK275.out) hb)
       have n2_ := aM (lT (by repeat (first | (with_reducible first | exact HB.out | apply lA | apply lN | apply lD | refine lS ?_ GE275.out) | exact HB.out)) hb)
       clear HO_7
       clear BK275
       clear HB
       have HO_7 := n0_
       have BK275 := n1_
       have HB := n2_
       clear n0_ n1_ n2_
       (try clear hb)
       (try clear hb2)
       (try clear hk)
       (try clear hi)
       refine hK.out _ _ ⟨(bC BK275.out 0).trans rfl, (bC BK275.out 1).trans rfl, ((HB.out.cell (World.block_lt_of_cell? w _ hw276_0)).trans hw276_0), ((HB.out.cell (World.block_lt_of_cell? w _ hw276_1)).trans hw276_1), ((HB.out.cell (World.block_lt_of_cell? w _ hw276_2)).trans hw276_2), ((HB.out.cell (World.block_lt_of_cell? w _ hw276_3)).trans hw276_3), ((HB.out.cell (World.block_lt_of_cell? w _ hw276_4)).trans hw276_4), ((HB.out.cell (World.block_lt_of_cell? w _ hw276_5)).trans hw276_5), ((HB.out.cell (World.block_lt_of_cell? w _ hw276_6)).trans hw276_6), ((HB.out.cell (World.block_lt_of_cell? w _ hw276_7)).trans hw276_7), ((HB.out.cell (World.block_lt_of_cell? w _ hw276_8)).trans hw276_8), ((HB.out.cell (World.block_lt_of_cell? w _ hw276_9)).trans hw276_9)⟩ (fun hHeld => ?_)
       clear hK K
       refine norm_ (a' := ?_) ?_ ?_
       rotate_left
       ·show Act.put _ (some 20) _ = _
        simp only [Act.put, sA, sB, sC, i64_w, i32_w]
        rfl
       refine pure_ (i := 7) (N := some 22) (v := ?_) (a' := ?_) #[T,T,T,T,T,T,T,T] rfl rfl (any_of HT_.out (by kernel_rfl)) (fun _ _ _ h => h) (Or.inl ⟨by rfl, ?_⟩) ?_ ?_
       rotate_left
       ·intro w'
        go_simp
        with_reducible rfl
       rotate_left
       ·simp only [Act.put, sA, sB, sC, i64_w, i32_w]
        rfl
       refine done_ (done_of HT_.out (by kernel_rfl)) ?_
       have p278 : 0 ≤ (x8_1 : Int) := of_decide_eq_true (by first | (with_reducible assumption) | assumption)
       have q278 : x8_1 < (l0.length : Int) := of_decide_eq_true (by first | (with_reducible assumption) | assumption)
       obtain ⟨ad278, e278, hx278_0, hx278_1, hx278_2, hx278_3, hx278_4, hx278_5, hx278_6, hx278_7, hx278_8, hx278_9⟩ := at_T32 HR0.out x8_1 p278 q278
       obtain rfl : ad276 = ad278 := (by injection e278)
       replace hx278_0 := (HB.out.cell (World.block_lt_of_cell? w _ hx278_0)).trans hx278_0
       replace hx278_1 := (HB.out.cell (World.block_lt_of_cell? w _ hx278_1)).trans hx278_1
       replace hx278_2 := (HB.out.cell (World.block_lt_of_cell? w _ hx278_2)).trans hx278_2
       replace hx278_3 := (HB.out.cell (World.block_lt_of_cell? w _ hx278_3)).trans hx278_3
       replace hx278_4 := (HB.out.cell (World.block_lt_of_cell? w _ hx278_4)).trans hx278_4
       replace hx278_5 := (HB.out.cell (World.block_lt_of_cell? w _ hx278_5)).trans hx278_5
       replace hx278_6 := (HB.out.cell (World.block_lt_of_cell? w _ hx278_6)).trans hx278_6
       replace hx278_7 := (HB.out.cell (World.block_lt_of_cell? w _ hx278_7)).trans hx278_7
       replace hx278_8 := (HB.out.cell (World.block_lt_of_cell? w _ hx278_8)).trans hx278_8
       replace hx278_9 := (HB.out.cell (World.block_lt_of_cell? w _ hx278_9)).trans hx278_9
       replace p278 := eq_true p278
       replace q278 := eq_true q278
       try go_wp2_with (first | ((with_reducible refine gate_builtin (b := .append) (xs := #[.tmp 23, .tmp 29]) rfl ?_); at_builtin; refine Kd.R_append (Kd.int .u32) (w0 := w) w.heap.size rfl (.tmp 23) (.tmp 29) 35 30 (.int .u32 0) 4 rfl Try.underlying35 info30 rfl (by decide) (by omega) u7 x7_1 ((rd_T32 l0 x8_1).f0) [.int .u32 ((rd_T32 l0 x8_1).f0)] (fun _ => True) (fun _ => False) rfl rfl ?aP (fun _ hk => hk.elim) ?aF ?aO ?aB ?aS ?aL ?_; (case aP => exact rfl); (case aB => exact (by repeat (first | (with_reducible first | exact HB.out | apply lA | apply lN | apply lD | refine lS ?_ GE275.out) | exact HB.out))); (case aF => exact (fun _ _ => trivial)); (case aO => exact (by (with_reducible repeat (first | apply Kd.R_alloc | apply Kd.R_drewN | apply Kd.R_drew)); exact HO_7.out)); (case aS => exact (lZ (by repeat (first | (with_reducible first | exact HB.out | apply lA | apply lN | apply lD | refine lS ?_ GE275.out) | exact HB.out)))); (case aL => have := LMc9.out; omega); intro v280 w12 ho hb hg hat; rw [← Ny279.out] at ho; have n0_ := aM (blk_grown (g := b275) (o := .cells #[.int .i32 a1_0, .int .i32 a1_1] 24 (0, 0)) (by (with_reducible repeat first | apply bN | apply bD | apply bA); exact BK275.out) hg (Kd.R_ne HO_7.out BK275.out (by decide))); have n1_ := aM (hb); have n2_ := aM (ho); clear BK275; clear HB; clear HO_7; have BK275 := n0_; have HB := n1_; have HO281 := n2_; clear n0_ n1_ n2_; clear ho hb hg hat))
       go_roundg k1
       case measure => have := HK1.out; omega
       case rel => exact ⟨(y279), (wrap64 (x8_1 + 1)), (by first | rfl | (simp; done) | (simp [*]; done)), H', ⟨by have := HK1.out; omega⟩, ⟨by (with_reducible repeat (first | apply Kd.R_alloc | apply Kd.R_drewN | apply Kd.R_drew)); exact HO281.out⟩, ⟨by (with_reducible repeat first | apply bN | apply bD | apply bA); exact BK275.out⟩, ⟨by repeat (first | (with_reducible first | exact HB.out | apply lA | apply lN | apply lD | refine lS ?_ GE275.out) | exact HB.out)⟩⟩
      ·rw [if_neg c9] at H
       exact absurd H (by simp)
     ·rw [if_neg c8] at H
      have c8b0 : decide (t277 ≤ a2) = false := decide_eq_false c8
      clear c8
      have H' := aM H
      clear H
      try go_wp2
      have n0_ := aM (Kd.R_drew HO_7.out)
      have n1_ := aM (bD BK275.out)
      have n2_ := aM (lD HB.out)
      clear HO_7
      clear BK275
      clear HB
      have HO_7 := n0_
      have BK275 := n1_
      have HB := n2_
      clear n0_ n1_ n2_
      have p276 : 0 ≤ (x8_1 : Int) := of_decide_eq_true (by first | (with_reducible assumption) | assumption)
      have q276 : x8_1 < (l0.length : Int) := of_decide_eq_true (by first | (with_reducible assumption) | assumption)
      obtain ⟨ad276, e276, hx276_0, hx276_1, hx276_2, hx276_3, hx276_4, hx276_5, hx276_6, hx276_7, hx276_8, hx276_9⟩ := at_T32 HR0.out x8_1 p276 q276
      have hw276_9 := hx276_9
      have hw276_8 := hx276_8
      have hw276_7 := hx276_7
      have hw276_6 := hx276_6
      have hw276_5 := hx276_5
      have hw276_4 := hx276_4
      have hw276_3 := hx276_3
      have hw276_2 := hx276_2
      have hw276_1 := hx276_1
      have hw276_0 := hx276_0
      cases e276
      replace hx276_0 := (HB.out.cell (World.block_lt_of_cell? w _ hx276_0)).trans hx276_0
      replace hx276_1 := (HB.out.cell (World.block_lt_of_cell? w _ hx276_1)).trans hx276_1
      replace hx276_2 := (HB.out.cell (World.block_lt_of_cell? w _ hx276_2)).trans hx276_2
      replace hx276_3 := (HB.out.cell (World.block_lt_of_cell? w _ hx276_3)).trans hx276_3
      replace hx276_4 := (HB.out.cell (World.block_lt_of_cell? w _ hx276_4)).trans hx276_4
      replace hx276_5 := (HB.out.cell (World.block_lt_of_cell? w _ hx276_5)).trans hx276_5
      replace hx276_6 := (HB.out.cell (World.block_lt_of_cell? w _ hx276_6)).trans hx276_6
      replace hx276_7 := (HB.out.cell (World.block_lt_of_cell? w _ hx276_7)).trans hx276_7
      replace hx276_8 := (HB.out.cell (World.block_lt_of_cell? w _ hx276_8)).trans hx276_8
      replace hx276_9 := (HB.out.cell (World.block_lt_of_cell? w _ hx276_9)).trans hx276_9
      replace p276 := eq_true p276
      replace q276 := eq_true q276
      refine start_ (n := 8) (S := fun w' => w'.cell? ⟨b275, 0, none⟩ = some (.int .i32 a1_0) ∧ w'.cell? ⟨b275, 1, none⟩ = some (.int .i32 a1_1) ∧ w'.cell? (ad276.add ((x8_1).toNat * 10)) = some (.int .u32 ((rd_T32 l0 x8_1).f0)) ∧ w'.cell? ⟨(ad276.add ((x8_1).toNat * 10)).block, (ad276.add ((x8_1).toNat * 10)).off + 1, none⟩ = some (.int .i32 ((rd_T32 l0 x8_1).f1)) ∧ w'.cell? ⟨(ad276.add ((x8_1).toNat * 10)).block, (ad276.add ((x8_1).toNat * 10)).off + 2, none⟩ = some (.int .i32 ((rd_T32 l0 x8_1).f2.f0)) ∧ w'.cell? ⟨(ad276.add ((x8_1).toNat * 10)).block, (ad276.add ((x8_1).toNat * 10)).off + 3, none⟩ = some (.int .i32 ((rd_T32 l0 x8_1).f2.f1)) ∧ w'.cell? ⟨(ad276.add ((x8_1).toNat * 10)).block, (ad276.add ((x8_1).toNat * 10)).off + 4, none⟩ = some (.int .i32 ((rd_T32 l0 x8_1).f3)) ∧ w'.cell? ⟨(ad276.add ((x8_1).toNat * 10)).block, (ad276.add ((x8_1).toNat * 10)).off + 5, none⟩ = some (.int .i32 ((rd_T32 l0 x8_1).f4)) ∧ w'.cell? ⟨(ad276.add ((x8_1).toNat * 10)).block, (ad276.add ((x8_1).toNat * 10)).off + 6, none⟩ = some (.int .i32 ((rd_T32 l0 x8_1).f5.f0)) ∧ w'.cell? ⟨(ad276.add ((x8_1).toNat * 10)).block, (ad276.add ((x8_1).toNat * 10)).off + 7, none⟩ = some (.int .i32 ((rd_T32 l0 x8_1).f5.f1)) ∧ w'.cell? ⟨(ad276.add ((x8_1).toNat * 10)).block, (ad276.add ((x8_1).toNat * 10)).off + 8, none⟩ = some (.int .i32 ((rd_T32 l0 x8_1).f6.f0)) ∧ w'.cell? ⟨(ad276.add ((x8_1).toNat * 10)).block, (ad276.add ((x8_1).toNat * 10)).off + 9, none⟩ = some (.int .i32 ((rd_T32 l0 x8_1).f6.f1))) (ds := []) #[F,F,F,F,F,F,F,F] (by kernel_rfl) rfl rfl ⟨(bC BK275.out 0).trans rfl, (bC BK275.out 1).trans rfl, ((HB.out.cell (World.block_lt_of_cell? w _ hw276_0)).trans hw276_0), ((HB.out.cell (World.block_lt_of_cell? w _ hw276_1)).trans hw276_1), ((HB.out.cell (World.block_lt_of_cell? w _ hw276_2)).trans hw276_2), ((HB.out.cell (World.block_lt_of_cell? w _ hw276_3)).trans hw276_3), ((HB.out.cell (World.block_lt_of_cell? w _ hw276_4)).trans hw276_4), ((HB.out.cell (World.block_lt_of_cell? w _ hw276_5)).trans hw276_5), ((HB.out.cell (World.block_lt_of_cell? w _ hw276_6)).trans hw276_6), ((HB.out.cell (World.block_lt_of_cell? w _ hw276_7)).trans hw276_7), ((HB.out.cell (World.block_lt_of_cell? w _ hw276_8)).trans hw276_8), ((HB.out.cell (World.block_lt_of_cell? w _ hw276_9)).trans hw276_9)⟩ (fun hHeld => ?_); refine with_tabW billiardref24_Near.tab5 billiardref24_Near.bits5 (fun HT_ HW_ => ?_)
      generalize wr.drew = w13 at HO_7 BK275 HB hx276_0 hx276_1 hx276_2 hx276_3 hx276_4 hx276_5 hx276_6 hx276_7 hx276_8 hx276_9 hHeld ⊢
      refine pure_ (i := 0) (N := some 15) (v := ?_) (a' := ?_) #[T,F,F,F,F,F,F,F] rfl rfl (any_of HT_.out (by kernel_rfl)) (fun _ _ _ h => h) (Or.inl ⟨by rfl, ?_⟩) ?_ ?_
      rotate_left
      ·intro w'
       go_simp
       with_reducible rfl
      rotate_left
      ·simp only [Act.put, sA, sB, sC, i64_w, i32_w]
       rfl
      refine pure_ (i := 1) (N := some 16) (v := ?_) (a' := ?_) #[T,T,F,F,F,F,F,F] rfl rfl (any_of HT_.out (by kernel_rfl)) (fun _ _ _ h => h) (Or.inl ⟨by rfl, ?_⟩) ?_ ?_
      rotate_left
      ·intro w'
       go_simp
       with_reducible rfl
      rotate_left
      ·simp only [Act.put, sA, sB, sC, i64_w, i32_w]
       rfl
      refine pure_ (i := 2) (N := some 17) (v := ?_) (a' := ?_) #[T,T,T,F,F,F,F,F] rfl rfl (any_of HT_.out (by kernel_rfl)) (fun _ _ _ h => h) (Or.inl ⟨by rfl, ?_⟩) ?_ ?_
      rotate_left
      ·intro w'
       go_simp
       with_reducible rfl
      rotate_left
      ·simp only [Act.put, sA, sB, sC, i64_w, i32_w]
       rfl
      refine pure_ (i := 6) (N := some 21) (v := ?_) (a' := ?_) #[T,T,T,F,F,F,T,F] rfl rfl (any_of HT_.out (by kernel_rfl)) (fun _ _ _ h => h) (Or.inl ⟨by rfl, ?_⟩) ?_ ?_
      rotate_left
      ·intro w'
       go_simp
       with_reducible rfl
      rotate_left
      ·simp only [Act.put, sA, sB, sC, i64_w, i32_w]
       rfl
      refine take_ (i := 3) (N := some 18) (v := ?_) (a' := ?_) #[T,T,T,T,F,F,T,F] rfl rfl (take_ofW HT_.out HW_.out (by kernel_rfl)) (fun _ _ _ h => h) (Or.inl ⟨by rfl, ?_⟩) hHeld ?_ ?_
      rotate_left
      ·rintro w' ⟨s0, s1, s2, s3, s4, s5, s6, s7, s8, s9, s10, s11⟩
       go_simp
       with_reducible rfl
      rotate_left
      ·simp only [Act.put, sA, sB, sC, i64_w, i32_w]
       rfl
      refine take_ (i := 4) (N := some 19) (v := ?_) (a' := ?_) #[T,T,T,T,T,F,T,F] rfl rfl (take_ofW HT_.out HW_.out (by kernel_rfl)) (fun _ _ _ h => h) (Or.inl ⟨by rfl, ?_⟩) hHeld ?_ ?_
      rotate_left
      ·rintro w' ⟨s0, s1, s2, s3, s4, s5, s6, s7, s8, s9, s10, s11⟩
       go_simp
       with_reducible rfl
      rotate_left
      ·simp only [Act.put, sA, sB, sC, i64_w, i32_w]
       rfl
      refine one_ (i := 5) (N := some 20) #[T,T,T,T,T,T,T,F] rfl rfl (one_of HT_.out (by kernel_rfl)) (by decide) (fun K hK => ?_)
      refine goes_ Try.func11 (by kernel_rfl) rfl #[.agg #[.int .u32 ((rd_T32 l0 x8_1).f0), .int .i32 ((rd_T32 l0 x8_1).f1), .int .i32 ((rd_T32 l0 x8_1).f2.f0), .int .i32 ((rd_T32 l0 x8_1).f2.f1), .int .i32 ((rd_T32 l0 x8_1).f3), .int .i32 ((rd_T32 l0 x8_1).f4), .int .i32 ((rd_T32 l0 x8_1).f5.f0), .int .i32 ((rd_T32 l0 x8_1).f5.f1), .int .i32 ((rd_T32 l0 x8_1).f6.f0), .int .i32 ((rd_T32 l0 x8_1).f6.f1)], .agg #[.int .i32 a1_0, .int .i32 a1_1]] (by rfl) rfl rfl (by (try simp only [List.map_toArray, List.map_cons, List.map_nil]); first | done | rfl | (simp only [List.length_drop, List.length_take]; rfl)) ?_
      with_reducible refine (billiardref24_Distance.calls k1 ((rd_T32 l0 x8_1).f0) ((rd_T32 l0 x8_1).f1) ((rd_T32 l0 x8_1).f2.f0) ((rd_T32 l0 x8_1).f2.f1) ((rd_T32 l0 x8_1).f3) ((rd_T32 l0 x8_1).f4) ((rd_T32 l0 x8_1).f5.f0) ((rd_T32 l0 x8_1).f5.f1) ((rd_T32 l0 x8_1).f6.f0) ((rd_T32 l0 x8_1).f6.f1) a1_0 a1_1 t277 _ A7.out).mono ?_
      rintro e w14 ⟨rfl, hb⟩
      refine ⟨_, rfl, ?_⟩
      have n0_ := aM (Kd.R_below (by (with_reducible repeat (first | apply Kd.R_alloc | apply Kd.R_drewN | apply Kd.R_drew)); exact HO_7.out) hb)
      have n1_ := aM (bB (by (with_reducible repeat first | apply bN | apply bD | apply bA); exact BK275.out) hb)
      have n2_ := aM (lT (by repeat (first | (with_reducible first | exact HB.out | apply lA | apply lN | apply lD | refine lS ?_ GE275.out) | exact HB.out)) hb)
      clear HO_7
      clear BK275
      clear HB
      have HO_7 := n0_
      have BK275 := n1_
      have HB := n2_
      clear n0_ n1_ n2_
      (try clear hb)
      (try clear hb2)
      (try clear hk)
      (try clear hi)
      refine hK.out _ _ ⟨(bC BK275.out 0).trans rfl, (bC BK275.out 1).trans rfl, ((HB.out.cell (World.block_lt_of_cell? w _ hw276_0)).trans hw276_0), ((HB.out.cell (World.block_lt_of_cell? w _ hw276_1)).trans hw276_1), ((HB.out.cell (World.block_lt_of_cell? w _ hw276_2)).trans hw276_2), ((HB.out.cell (World.block_lt_of_cell? w _ hw276_3)).trans hw276_3), ((HB.out.cell (World.block_lt_of_cell? w _ hw276_4)).trans hw276_4), ((HB.out.cell (World.block_lt_of_cell? w _ hw276_5)).trans hw276_5), ((HB.out.cell (World.block_lt_of_cell? w _ hw276_6)).trans hw276_6), ((HB.out.cell (World.block_lt_of_cell? w _ hw276_7)).trans hw276_7), ((HB.out.cell (World.block_lt_of_cell? w _ hw276_8)).trans hw276_8), ((HB.out.cell (World.block_lt_of_cell? w _ hw276_9)).trans hw276_9)⟩ (fun hHeld => ?_)
      clear hK K
      refine norm_ (a' := ?_) ?_ ?_
      rotate_left
      ·show Act.put _ (some 20) _ = _
       simp only [Act.put, sA, sB, sC, i64_w, i32_w]
       rfl
      refine pure_ (i := 7) (N := some 22) (v := ?_) (a' := ?_) #[T,T,T,T,T,T,T,T] rfl rfl (any_of HT_.out (by kernel_rfl)) (fun _ _ _ h => h) (Or.inl ⟨by rfl, ?_⟩) ?_ ?_
      rotate_left
      ·intro w'
       go_simp
       with_reducible rfl
      rotate_left
      ·simp only [Act.put, sA, sB, sC, i64_w, i32_w]
       rfl
      refine done_ (done_of HT_.out (by kernel_rfl)) ?_
      try go_wp2
      go_roundg k1
      case measure => have := HK1.out; omega
      case rel => exact ⟨(x7_1), (wrap64 (x8_1 + 1)), (by first | rfl | (simp; done) | (simp [*]; done)), H', ⟨by have := HK1.out; omega⟩, ⟨by (with_reducible repeat (first | apply Kd.R_alloc | apply Kd.R_drewN | apply Kd.R_drew)); exact HO_7.out⟩, ⟨by (with_reducible repeat first | apply bN | apply bD | apply bA); exact BK275.out⟩, ⟨by repeat (first | (with_reducible first | exact HB.out | apply lA | apply lN | apply lD | refine lS ?_ GE275.out) | exact HB.out)⟩⟩
    ·rw [if_neg c6] at H
     exact absurd H (by simp)
   ·rw [if_neg c5] at H
    have c5b0 : decide (x8_1 < (l0.length : Int)) = false := decide_eq_false c5
    clear c5
    obtain rfl := Option.some.inj H
    go_wp2
    go_ret
    exact ⟨_, by first | rfl | (simp [errW_none, errW_some] <;> rfl) | (simp [*, errW_none, errW_some] <;> rfl), by (with_reducible repeat (first | apply Kd.R_alloc | apply Kd.R_drewN | apply Kd.R_drew)); exact HO_7.out, by repeat (first | (with_reducible first | exact HB.out | apply lA | apply lN | apply lD | refine lS ?_ GE275.out) | exact HB.out)⟩

end Go.Proofs.Ytabcnaceffpekaa.Q
