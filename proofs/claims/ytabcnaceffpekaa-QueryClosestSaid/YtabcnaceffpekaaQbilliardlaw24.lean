-- PRINTED by print.py (a twelfth state) out of the translation. Not trusted: Lean checks it.
import Derived.Test.YtabcnaceffpekaaQ0
import Derived.Test.YtabcnaceffpekaaMspec
import Derived.Test.YtabcnaceffpekaaQbilliardref07
import Derived.Test.YtabcnaceffpekaaQquery
namespace Go.Proofs.Ytabcnaceffpekaa.Q
open Go.RowKit Go.Proofs.YtabcnaceffpekaaW.PrintWords Go.Proofs.YtabcnaceffpekaaW.PrintLast Go.Proofs.YtabcnaceffpekaaW.PrintMore
open Go.Proofs.YtabcnaceffpekaaW.PrintWords renaming blk_drewN → bN, blk_drew → bD, blk_alloc → bA, blk_below → bB, blk_cell → bC, blk_frozen → bF, blk_far → bR, blk_lt → bL, blk_put → bP, below_alloc → lA, pw_below_drewN → lN, below_drew1 → lD, below_set → lS, below_step → lT, below_size → lZ, Aside0.mk → aM
open Bool renaming true → T, false → F
attribute [local go_sem] max2_int min2_int max_two min_two max_three min_three max_four min_four   -- for this text's walks alone
set_option linter.unusedVariables false
set_option linter.unusedSimpArgs false

/-! ### billiardlaw24_awake: function 8 -/
def billiardlaw24_awake.f (k : Nat)  : Option (Bool) := (some (([(⟨3, 65536, (⟨0, 0⟩ : S24), 0, 0, (⟨0, 0⟩ : S24), (⟨0, 0⟩ : S24)⟩ : S32), (⟨5, 65536, (⟨100, 0⟩ : S24), 0, 0, (⟨0, 65536⟩ : S24), (⟨0, 0⟩ : S24)⟩ : S32)] : List (S32)) : List (S32))).bind fun y194 => ((query_Closest.f y194 0 100000).bind fun bt197 => ((query_Closest.f ([] : List (S32)) 0 0).bind fun bt200 => ((query_Distance.f k 3 65536 0 0 0 0 0 0 0 0 0 100000).bind fun t203 => (if t203 = 34464 then ((query_In.f 3 65536 0 0 0 0 0 0 0 0 65536 0).bind fun t204 => (if t204 = true then ((query_In.f 3 65536 0 0 0 0 0 0 0 0 65537 0).bind fun t205 => (if t205 = true then (some false) else (if bt197.1 = 5 then (if bt197.2.1 = (-31072) then (if bt197.2.2 = true then (if bt200.2.2 = true then (some false) else ((query_At.f y194 0 0).bind fun t206 => ((billiardref07_Keys.f k t206 (([3, 5] : List Int))).bind fun t212 => (if t212 = true then ((query_Near.f y194 0 200000 70000).bind fun t213 => ((billiardref07_Keys.f k t213 (([5] : List Int))).bind fun t219 => (some t219))) else (some false))))) else (some false)) else (some false)) else (some false)))) else (some false))) else (some false)))))
theorem billiardlaw24_awake.mono : ∀ k, LeO (billiardlaw24_awake.f k ) (billiardlaw24_awake.f (k + 1) ) := by
 intro  k
 unfold billiardlaw24_awake.f
 repeat' first
   | (with_reducible exact billiardref07_Keys.mono _ _ _)
   | (with_reducible exact query_Distance.mono _ _ _ _ _ _ _ _ _ _ _ _ _)
   | (with_reducible exact LeO.refl _)
   | (with_reducible exact LeO.none _)
   | (with_reducible refine LeO.ite ?_ ?_)
   | (with_reducible refine LeO.bind ?_ (fun _ => ?_))
   | exact billiardref07_Keys.mono _ _ _
   | exact query_Distance.mono _ _ _ _ _ _ _ _ _ _ _ _ _
   | exact LeO.none _
   | refine LeO.ite ?_ ?_
   | refine LeO.bind ?_ (fun _ => ?_)
theorem billiardlaw24_awake.only {k : Nat} {r : Bool} (h : billiardlaw24_awake.f k = some r) : r = true := by
 have e : billiardlaw24_awake.f 300 = some true := by decide +kernel
 have h1 := at_rounds billiardlaw24_awake.mono (Nat.le_add_right k 300) h
 have h2 := at_rounds billiardlaw24_awake.mono (Nat.le_add_left 300 k) e
 exact Option.some.inj (h1.symm.trans h2)
set_option maxHeartbeats 8000000 in
set_option maxRecDepth 100000 in
theorem billiardlaw24_awake.calls (k : Nat)  (r : Bool) (w : World) (h : billiardlaw24_awake.f k  = some r) :
  Calls Try.prog 8 #[] w fun e w' => e = .returned (.bool r) ∧ Below w.heap.size w w' := by
 have HR := aM (billiardlaw24_awake.only h)
 have hu32 := Try.underlying32
 have hu24 := Try.underlying24
 have HB := aM (Below.refl w.heap.size w)
 have H : ((some (([(⟨3, 65536, (⟨0, 0⟩ : S24), 0, 0, (⟨0, 0⟩ : S24), (⟨0, 0⟩ : S24)⟩ : S32), (⟨5, 65536, (⟨100, 0⟩ : S24), 0, 0, (⟨0, 65536⟩ : S24), (⟨0, 0⟩ : S24)⟩ : S32)] : List (S32)) : List (S32))).bind fun y194 => ((query_Closest.f y194 0 100000).bind fun bt197 => ((query_Closest.f ([] : List (S32)) 0 0).bind fun bt200 => ((query_Distance.f k 3 65536 0 0 0 0 0 0 0 0 0 100000).bind fun t203 => (if t203 = 34464 then ((query_In.f 3 65536 0 0 0 0 0 0 0 0 65536 0).bind fun t204 => (if t204 = true then ((query_In.f 3 65536 0 0 0 0 0 0 0 0 65537 0).bind fun t205 => (if t205 = true then (some false) else (if bt197.1 = 5 then (if bt197.2.1 = (-31072) then (if bt197.2.2 = true then (if bt200.2.2 = true then (some false) else ((query_At.f y194 0 0).bind fun t206 => ((billiardref07_Keys.f k t206 (([3, 5] : List Int))).bind fun t212 => (if t212 = true then ((query_Near.f y194 0 200000 70000).bind fun t213 => ((billiardref07_Keys.f k t213 (([5] : List Int))).bind fun t219 => (some t219))) else (some false))))) else (some false)) else (some false)) else (some false)))) else (some false))) else (some false)))))) = some r := h
 clear h
 obtain ⟨y194, hy194⟩ : ∃ y_ : List (S32), y_ = (([(⟨3, 65536, (⟨0, 0⟩ : S24), 0, 0, (⟨0, 0⟩ : S24), (⟨0, 0⟩ : S24)⟩ : S32), (⟨5, 65536, (⟨100, 0⟩ : S24), 0, 0, (⟨0, 65536⟩ : S24), (⟨0, 0⟩ : S24)⟩ : S32)] : List (S32))) := ⟨_, rfl⟩
 replace H : ((query_Closest.f y194 0 100000).bind fun bt197 => ((query_Closest.f ([] : List (S32)) 0 0).bind fun bt200 => ((query_Distance.f k 3 65536 0 0 0 0 0 0 0 0 0 100000).bind fun t203 => (if t203 = 34464 then ((query_In.f 3 65536 0 0 0 0 0 0 0 0 65536 0).bind fun t204 => (if t204 = true then ((query_In.f 3 65536 0 0 0 0 0 0 0 0 65537 0).bind fun t205 => (if t205 = true then (some false) else (if bt197.1 = 5 then (if bt197.2.1 = (-31072) then (if bt197.2.2 = true then (if bt200.2.2 = true then (some false) else ((query_At.f y194 0 0).bind fun t206 => ((billiardref07_Keys.f k t206 (([3, 5] : List Int))).bind fun t212 => (if t212 = true then ((query_Near.f y194 0 200000 70000).bind fun t213 => ((billiardref07_Keys.f k t213 (([5] : List Int))).bind fun t219 => (some t219))) else (some false))))) else (some false)) else (some false)) else (some false)))) else (some false))) else (some false))))) = some r := by first | (rw [hy194]; with_reducible exact H) | (have H2_ := (Option.bind_some _ _).symm.trans H; rw [hy194]; with_reducible exact H2_) | (have H2_ := (Option.bind_some _ _).symm.trans H; with_reducible exact H2_) | with_reducible exact H | (rw [hy194]; exact H) | exact H
 have Ny194 := aM hy194
 clear hy194
 replace H := Option.bind_eq_some_iff.mp H
 obtain ⟨⟨t197, t198, t199⟩, A10, H⟩ := H
 try dsimp only at H
 have A1 := aM A10
 clear A10
 replace H := Option.bind_eq_some_iff.mp H
 obtain ⟨⟨t200, t201, t202⟩, A20, H⟩ := H
 try dsimp only at H
 have A2 := aM A20
 clear A20
 replace H := Option.bind_eq_some_iff.mp H
 obtain ⟨t203, A30, H⟩ := H
 try dsimp only at H
 have A3 := aM A30
 clear A30
 by_cases c4 : t203 = 34464
 ·rw [if_pos c4] at H
  have c4b0 : (t203 == 34464) = true := beq_iff_eq.mpr c4
  have c4b1 : (t203 != 34464) = false := bne_eq_false_iff_eq.mpr c4
  clear c4
  replace H := Option.bind_eq_some_iff.mp H
  obtain ⟨t204, A50, H⟩ := H
  try dsimp only at H
  have A5 := aM A50
  clear A50
  by_cases c6 : t204 = true
  ·subst c6
   rw [if_pos rfl] at H
   replace H := Option.bind_eq_some_iff.mp H
   obtain ⟨t205, A70, H⟩ := H
   try dsimp only at H
   have A7 := aM A70
   clear A70
   by_cases c8 : t205 = true
   ·subst c8
    rw [if_pos rfl] at H
    exact absurd ((Option.some.inj H).trans HR.out) (by decide)
   ·replace c8 := Bool.eq_false_iff.mpr c8
    subst c8
    rw [if_neg (show ¬ (false = true) by decide)] at H
    by_cases c9 : t197 = 5
    ·rw [if_pos c9] at H
     have c9b0 : (t197 == 5) = true := beq_iff_eq.mpr c9
     have c9b1 : (t197 != 5) = false := bne_eq_false_iff_eq.mpr c9
     clear c9
     by_cases c10 : t198 = (-31072)
     ·rw [if_pos c10] at H
      have c10b0 : (t198 == (-31072)) = true := beq_iff_eq.mpr c10
      have c10b1 : (t198 != (-31072)) = false := bne_eq_false_iff_eq.mpr c10
      clear c10
      by_cases c11 : t199 = true
      ·subst c11
       rw [if_pos rfl] at H
       by_cases c12 : t202 = true
       ·subst c12
        rw [if_pos rfl] at H
        exact absurd ((Option.some.inj H).trans HR.out) (by decide)
       ·replace c12 := Bool.eq_false_iff.mpr c12
        subst c12
        rw [if_neg (show ¬ (false = true) by decide)] at H
        replace H := Option.bind_eq_some_iff.mp H
        obtain ⟨t206, A130, H⟩ := H
        try dsimp only at H
        have A13 := aM A130
        clear A130
        obtain ⟨y209, hy209⟩ : ∃ y_ : List Int, y_ = (([3, 5] : List Int)) := ⟨_, rfl⟩
        replace H : ((billiardref07_Keys.f k t206 y209).bind fun t212 => (if t212 = true then ((query_Near.f y194 0 200000 70000).bind fun t213 => ((billiardref07_Keys.f k t213 (([5] : List Int))).bind fun t219 => (some t219))) else (some false))) = some r := by first | (rw [hy209]; with_reducible exact H) | (have H2_ := (Option.bind_some _ _).symm.trans H; rw [hy209]; with_reducible exact H2_) | (have H2_ := (Option.bind_some _ _).symm.trans H; with_reducible exact H2_) | with_reducible exact H | (rw [hy209]; exact H) | exact H
        have Ny209 := aM hy209
        clear hy209
        replace H := Option.bind_eq_some_iff.mp H
        obtain ⟨t212, A140, H⟩ := H
        try dsimp only at H
        have A14 := aM A140
        clear A140
        by_cases c15 : t212 = true
        ·subst c15
         rw [if_pos rfl] at H
         replace H := Option.bind_eq_some_iff.mp H
         obtain ⟨t213, A160, H⟩ := H
         try dsimp only at H
         have A16 := aM A160
         clear A160
         obtain ⟨y216, hy216⟩ : ∃ y_ : List Int, y_ = (([5] : List Int)) := ⟨_, rfl⟩
         replace H : ((billiardref07_Keys.f k t213 y216).bind fun t219 => (some t219)) = some r := by first | (rw [hy216]; with_reducible exact H) | (have H2_ := (Option.bind_some _ _).symm.trans H; rw [hy216]; with_reducible exact H2_) | (have H2_ := (Option.bind_some _ _).symm.trans H; with_reducible exact H2_) | with_reducible exact H | (rw [hy216]; exact H) | exact H
         have Ny216 := aM hy216
         clear hy216
         replace H := Option.bind_eq_some_iff.mp H
         obtain ⟨t219, A170, H⟩ := H
         try dsimp only at H
         have A17 := aM A170
         clear A170
         obtain rfl := Option.some.inj H
         go_enter Try.func8, Try.ntmps8
         go_wp2_with (first | ((with_reducible refine gate_dst (N := 1) rfl ?_); (try (refine gate_guard (by rfl) ?_; dsimp only)); refine box_event ?hg (N := 1) ?hd (cs := #[.int .u32 0, .int .i32 0, .int .i32 0, .int .i32 0, .int .i32 0, .int .i32 0, .int .i32 0, .int .i32 0, .int .i32 0, .int .i32 0]) (t := 32) ?hr ?_; (case hd => rfl); (case hg => rfl); (case hr => first | (go_simp; done) | (go_simp; rfl)); intro b192 hg w18 hbox hb; have n0_ := aM (lT (by repeat (first | (with_reducible first | exact HB.out | apply lA | apply lN | apply lD) | exact HB.out)) hb); have n1_ := aM (hbox); have n2_ := aM ((by rw [hg]; exact (lZ (by repeat (first | (with_reducible first | exact HB.out | apply lA | apply lN | apply lD) | exact HB.out))) : w.heap.size ≤ b192)); have n3_ := aM ((by rw [hg]; exact (lZ (by repeat (first | (with_reducible first | exact HB.out | apply lA | apply lN | apply lD) | exact HB.out))) : w.heap.size ≤ b192)); clear HB; have HB := n0_; have BK192 := n1_; have GW192 := n2_; have GE192 := n3_; clear n0_ n1_ n2_ n3_; clear hb hbox hg; have hcz19_0 : w18.cell? ⟨b192, 0, none⟩ = some (.int .u32 0) := (bC BK192.out 0).trans rfl; have hcz19_1 : w18.cell? ⟨b192, 1, none⟩ = some (.int .i32 0) := (bC BK192.out 1).trans rfl; have hcz19_2 : w18.cell? ⟨b192, 2, none⟩ = some (.int .i32 0) := (bC BK192.out 2).trans rfl; have hcz19_3 : w18.cell? ⟨b192, 3, none⟩ = some (.int .i32 0) := (bC BK192.out 3).trans rfl; have hcz19_4 : w18.cell? ⟨b192, 4, none⟩ = some (.int .i32 0) := (bC BK192.out 4).trans rfl; have hcz19_5 : w18.cell? ⟨b192, 5, none⟩ = some (.int .i32 0) := (bC BK192.out 5).trans rfl; have hcz19_6 : w18.cell? ⟨b192, 6, none⟩ = some (.int .i32 0) := (bC BK192.out 6).trans rfl; have hcz19_7 : w18.cell? ⟨b192, 7, none⟩ = some (.int .i32 0) := (bC BK192.out 7).trans rfl; have hcz19_8 : w18.cell? ⟨b192, 8, none⟩ = some (.int .i32 0) := (bC BK192.out 8).trans rfl; have hcz19_9 : w18.cell? ⟨b192, 9, none⟩ = some (.int .i32 0) := (bC BK192.out 9).trans rfl; have hfz19_0 := bF BK192.out 0; have hfz19_1 := bF BK192.out 1; have hfz19_2 := bF BK192.out 2; have hfz19_3 := bF BK192.out 3; have hfz19_4 := bF BK192.out 4; have hfz19_5 := bF BK192.out 5; have hfz19_6 := bF BK192.out 6; have hfz19_7 := bF BK192.out 7; have hfz19_8 := bF BK192.out 8; have hfz19_9 := bF BK192.out 9) | ((with_reducible refine gate_dst (N := 2) rfl ?_); (try (refine gate_guard (by rfl) ?_; dsimp only)); refine box_event ?hg (N := 2) ?hd (cs := #[.int .u32 0, .int .i32 0, .int .i32 0, .int .i32 0, .int .i32 0, .int .i32 0, .int .i32 0, .int .i32 0, .int .i32 0, .int .i32 0]) (t := 32) ?hr ?_; (case hd => rfl); (case hg => rfl); (case hr => first | (go_simp; done) | (go_simp; rfl)); intro b193 hg w20 hbox hb; have n0_ := aM (bB (g := b192) (o := .cells #[.int .u32 3, .int .i32 65536, .int .i32 0, .int .i32 0, .int .i32 0, .int .i32 0, .int .i32 0, .int .i32 0, .int .i32 0, .int .i32 0] 32 (0, 0)) (by (with_reducible repeat first | apply bN | apply bD | apply bA); refine bP (cs := #[.int .u32 3, .int .i32 65536, .int .i32 0, .int .i32 0, .int .i32 0, .int .i32 0, .int .i32 0, .int .i32 0, .int .i32 0, .int .i32 0]) ?_ 9 _ rfl; (with_reducible repeat first | apply bN | apply bD | apply bA); refine bP (cs := #[.int .u32 3, .int .i32 65536, .int .i32 0, .int .i32 0, .int .i32 0, .int .i32 0, .int .i32 0, .int .i32 0, .int .i32 0, .int .i32 0]) ?_ 8 _ rfl; (with_reducible repeat first | apply bN | apply bD | apply bA); refine bP (cs := #[.int .u32 3, .int .i32 65536, .int .i32 0, .int .i32 0, .int .i32 0, .int .i32 0, .int .i32 0, .int .i32 0, .int .i32 0, .int .i32 0]) ?_ 7 _ rfl; (with_reducible repeat first | apply bN | apply bD | apply bA); refine bP (cs := #[.int .u32 3, .int .i32 65536, .int .i32 0, .int .i32 0, .int .i32 0, .int .i32 0, .int .i32 0, .int .i32 0, .int .i32 0, .int .i32 0]) ?_ 6 _ rfl; (with_reducible repeat first | apply bN | apply bD | apply bA); refine bP (cs := #[.int .u32 3, .int .i32 65536, .int .i32 0, .int .i32 0, .int .i32 0, .int .i32 0, .int .i32 0, .int .i32 0, .int .i32 0, .int .i32 0]) ?_ 5 _ rfl; (with_reducible repeat first | apply bN | apply bD | apply bA); refine bP (cs := #[.int .u32 3, .int .i32 65536, .int .i32 0, .int .i32 0, .int .i32 0, .int .i32 0, .int .i32 0, .int .i32 0, .int .i32 0, .int .i32 0]) ?_ 4 _ rfl; (with_reducible repeat first | apply bN | apply bD | apply bA); refine bP (cs := #[.int .u32 3, .int .i32 65536, .int .i32 0, .int .i32 0, .int .i32 0, .int .i32 0, .int .i32 0, .int .i32 0, .int .i32 0, .int .i32 0]) ?_ 3 _ rfl; (with_reducible repeat first | apply bN | apply bD | apply bA); refine bP (cs := #[.int .u32 3, .int .i32 65536, .int .i32 0, .int .i32 0, .int .i32 0, .int .i32 0, .int .i32 0, .int .i32 0, .int .i32 0, .int .i32 0]) ?_ 2 _ rfl; (with_reducible repeat first | apply bN | apply bD | apply bA); refine bP (cs := #[.int .u32 3, .int .i32 0, .int .i32 0, .int .i32 0, .int .i32 0, .int .i32 0, .int .i32 0, .int .i32 0, .int .i32 0, .int .i32 0]) ?_ 1 _ rfl; (with_reducible repeat first | apply bN | apply bD | apply bA); refine bP (cs := #[.int .u32 0, .int .i32 0, .int .i32 0, .int .i32 0, .int .i32 0, .int .i32 0, .int .i32 0, .int .i32 0, .int .i32 0, .int .i32 0]) ?_ 0 _ rfl; (with_reducible repeat first | apply bN | apply bD | apply bA); exact BK192.out) hb); have n1_ := aM (lT (by repeat (first | (with_reducible first | exact HB.out | apply lA | apply lN | apply lD | refine lS ?_ GE192.out) | exact HB.out)) hb); have n2_ := aM (hbox); have n3_ := aM ((by rw [hg]; exact (lZ (by repeat (first | (with_reducible first | exact HB.out | apply lA | apply lN | apply lD | refine lS ?_ GE192.out) | exact HB.out))) : w.heap.size ≤ b193)); have n4_ := aM ((by rw [hg]; exact (lZ (by repeat (first | (with_reducible first | exact HB.out | apply lA | apply lN | apply lD | refine lS ?_ GE192.out) | exact HB.out))) : w.heap.size ≤ b193)); have n5_ := aM ((by rw [hg]; exact Nat.ne_of_lt (bL (g := b192) (o := .cells #[.int .u32 3, .int .i32 65536, .int .i32 0, .int .i32 0, .int .i32 0, .int .i32 0, .int .i32 0, .int .i32 0, .int .i32 0, .int .i32 0] 32 (0, 0)) (by (with_reducible repeat first | apply bN | apply bD | apply bA); refine bP (cs := #[.int .u32 3, .int .i32 65536, .int .i32 0, .int .i32 0, .int .i32 0, .int .i32 0, .int .i32 0, .int .i32 0, .int .i32 0, .int .i32 0]) ?_ 9 _ rfl; (with_reducible repeat first | apply bN | apply bD | apply bA); refine bP (cs := #[.int .u32 3, .int .i32 65536, .int .i32 0, .int .i32 0, .int .i32 0, .int .i32 0, .int .i32 0, .int .i32 0, .int .i32 0, .int .i32 0]) ?_ 8 _ rfl; (with_reducible repeat first | apply bN | apply bD | apply bA); refine bP (cs := #[.int .u32 3, .int .i32 65536, .int .i32 0, .int .i32 0, .int .i32 0, .int .i32 0, .int .i32 0, .int .i32 0, .int .i32 0, .int .i32 0]) ?_ 7 _ rfl; (with_reducible repeat first | apply bN | apply bD | apply bA); refine bP (cs := #[.int .u32 3, .int .i32 65536, .int .i32 0, .int .i32 0, .int .i32 0, .int .i32 0, .int .i32 0, .int .i32 0, .int .i32 0, .int .i32 0]) ?_ 6 _ rfl; (with_reducible repeat first | apply bN | apply bD | apply bA); refine bP (cs := #[.int .u32 3, .int .i32 65536, .int .i32 0, .int .i32 0, .int .i32 0, .int .i32 0, .int .i32 0, .int .i32 0, .int .i32 0, .int .i32 0]) ?_ 5 _ rfl; (with_reducible repeat first | apply bN | apply bD | apply bA); refine bP (cs := #[.int .u32 3, .int .i32 65536, .int .i32 0, .int .i32 0, .int .i32 0, .int .i32 0, .int .i32 0, .int .i32 0, .int .i32 0, .int .i32 0]) ?_ 4 _ rfl; (with_reducible repeat first | apply bN | apply bD | apply bA); refine bP (cs := #[.int .u32 3, .int .i32 65536, .int .i32 0, .int .i32 0, .int .i32 0, .int .i32 0, .int .i32 0, .int .i32 0, .int .i32 0, .int .i32 0]) ?_ 3 _ rfl; (with_reducible repeat first | apply bN | apply bD | apply bA); refine bP (cs := #[.int .u32 3, .int .i32 65536, .int .i32 0, .int .i32 0, .int .i32 0, .int .i32 0, .int .i32 0, .int .i32 0, .int .i32 0, .int .i32 0]) ?_ 2 _ rfl; (with_reducible repeat first | apply bN | apply bD | apply bA); refine bP (cs := #[.int .u32 3, .int .i32 0, .int .i32 0, .int .i32 0, .int .i32 0, .int .i32 0, .int .i32 0, .int .i32 0, .int .i32 0, .int .i32 0]) ?_ 1 _ rfl; (with_reducible repeat first | apply bN | apply bD | apply bA); refine bP (cs := #[.int .u32 0, .int .i32 0, .int .i32 0, .int .i32 0, .int .i32 0, .int .i32 0, .int .i32 0, .int .i32 0, .int .i32 0, .int .i32 0]) ?_ 0 _ rfl; (with_reducible repeat first | apply bN | apply bD | apply bA); exact BK192.out)) : b192 ≠ b193)); have n6_ := aM ((by rw [hg]; exact Nat.ne_of_gt (bL (g := b192) (o := .cells #[.int .u32 3, .int .i32 65536, .int .i32 0, .int .i32 0, .int .i32 0, .int .i32 0, .int .i32 0, .int .i32 0, .int .i32 0, .int .i32 0] 32 (0, 0)) (by (with_reducible repeat first | apply bN | apply bD | apply bA); refine bP (cs := #[.int .u32 3, .int .i32 65536, .int .i32 0, .int .i32 0, .int .i32 0, .int .i32 0, .int .i32 0, .int .i32 0, .int .i32 0, .int .i32 0]) ?_ 9 _ rfl; (with_reducible repeat first | apply bN | apply bD | apply bA); refine bP (cs := #[.int .u32 3, .int .i32 65536, .int .i32 0, .int .i32 0, .int .i32 0, .int .i32 0, .int .i32 0, .int .i32 0, .int .i32 0, .int .i32 0]) ?_ 8 _ rfl; (with_reducible repeat first | apply bN | apply bD | apply bA); refine bP (cs := #[.int .u32 3, .int .i32 65536, .int .i32 0, .int .i32 0, .int .i32 0, .int .i32 0, .int .i32 0, .int .i32 0, .int .i32 0, .int .i32 0]) ?_ 7 _ rfl; (with_reducible repeat first | apply bN | apply bD | apply bA); refine bP (cs := #[.int .u32 3, .int .i32 65536, .int .i32 0, .int .i32 0, .int .i32 0, .int .i32 0, .int .i32 0, .int .i32 0, .int .i32 0, .int .i32 0]) ?_ 6 _ rfl; (with_reducible repeat first | apply bN | apply bD | apply bA); refine bP (cs := #[.int .u32 3, .int .i32 65536, .int .i32 0, .int .i32 0, .int .i32 0, .int .i32 0, .int .i32 0, .int .i32 0, .int .i32 0, .int .i32 0]) ?_ 5 _ rfl; (with_reducible repeat first | apply bN | apply bD | apply bA); refine bP (cs := #[.int .u32 3, .int .i32 65536, .int .i32 0, .int .i32 0, .int .i32 0, .int .i32 0, .int .i32 0, .int .i32 0, .int .i32 0, .int .i32 0]) ?_ 4 _ rfl; (with_reducible repeat first | apply bN | apply bD | apply bA); refine bP (cs := #[.int .u32 3, .int .i32 65536, .int .i32 0, .int .i32 0, .int .i32 0, .int .i32 0, .int .i32 0, .int .i32 0, .int .i32 0, .int .i32 0]) ?_ 3 _ rfl; (with_reducible repeat first | apply bN | apply bD | apply bA); refine bP (cs := #[.int .u32 3, .int .i32 65536, .int .i32 0, .int .i32 0, .int .i32 0, .int .i32 0, .int .i32 0, .int .i32 0, .int .i32 0, .int .i32 0]) ?_ 2 _ rfl; (with_reducible repeat first | apply bN | apply bD | apply bA); refine bP (cs := #[.int .u32 3, .int .i32 0, .int .i32 0, .int .i32 0, .int .i32 0, .int .i32 0, .int .i32 0, .int .i32 0, .int .i32 0, .int .i32 0]) ?_ 1 _ rfl; (with_reducible repeat first | apply bN | apply bD | apply bA); refine bP (cs := #[.int .u32 0, .int .i32 0, .int .i32 0, .int .i32 0, .int .i32 0, .int .i32 0, .int .i32 0, .int .i32 0, .int .i32 0, .int .i32 0]) ?_ 0 _ rfl; (with_reducible repeat first | apply bN | apply bD | apply bA); exact BK192.out)) : b193 ≠ b192)); clear BK192; clear HB; have BK192 := n0_; have HB := n1_; have BK193 := n2_; have GW193 := n3_; have GE193 := n4_; have N0_ := n5_; have N1_ := n6_; clear n0_ n1_ n2_ n3_ n4_ n5_ n6_; clear hb hbox hg; have hnb21 := N1_.out; have hnc21 := N0_.out; have hcz22_0 : w20.cell? ⟨b193, 0, none⟩ = some (.int .u32 0) := (bC BK193.out 0).trans rfl; have hcz22_1 : w20.cell? ⟨b193, 1, none⟩ = some (.int .i32 0) := (bC BK193.out 1).trans rfl; have hcz22_2 : w20.cell? ⟨b193, 2, none⟩ = some (.int .i32 0) := (bC BK193.out 2).trans rfl; have hcz22_3 : w20.cell? ⟨b193, 3, none⟩ = some (.int .i32 0) := (bC BK193.out 3).trans rfl; have hcz22_4 : w20.cell? ⟨b193, 4, none⟩ = some (.int .i32 0) := (bC BK193.out 4).trans rfl; have hcz22_5 : w20.cell? ⟨b193, 5, none⟩ = some (.int .i32 0) := (bC BK193.out 5).trans rfl; have hcz22_6 : w20.cell? ⟨b193, 6, none⟩ = some (.int .i32 0) := (bC BK193.out 6).trans rfl; have hcz22_7 : w20.cell? ⟨b193, 7, none⟩ = some (.int .i32 0) := (bC BK193.out 7).trans rfl; have hcz22_8 : w20.cell? ⟨b193, 8, none⟩ = some (.int .i32 0) := (bC BK193.out 8).trans rfl; have hcz22_9 : w20.cell? ⟨b193, 9, none⟩ = some (.int .i32 0) := (bC BK193.out 9).trans rfl; have hfz22_0 := bF BK193.out 0; have hfz22_1 := bF BK193.out 1; have hfz22_2 := bF BK193.out 2; have hfz22_3 := bF BK193.out 3; have hfz22_4 := bF BK193.out 4; have hfz22_5 := bF BK193.out 5; have hfz22_6 := bF BK193.out 6; have hfz22_7 := bF BK193.out 7; have hfz22_8 := bF BK193.out 8; have hfz22_9 := bF BK193.out 9; have hcz23_0 : w20.cell? ⟨b192, 0, none⟩ = some (.int .u32 3) := (bC BK192.out 0).trans rfl; have hcz23_1 : w20.cell? ⟨b192, 1, none⟩ = some (.int .i32 65536) := (bC BK192.out 1).trans rfl; have hcz23_2 : w20.cell? ⟨b192, 2, none⟩ = some (.int .i32 0) := (bC BK192.out 2).trans rfl; have hcz23_3 : w20.cell? ⟨b192, 3, none⟩ = some (.int .i32 0) := (bC BK192.out 3).trans rfl; have hcz23_4 : w20.cell? ⟨b192, 4, none⟩ = some (.int .i32 0) := (bC BK192.out 4).trans rfl; have hcz23_5 : w20.cell? ⟨b192, 5, none⟩ = some (.int .i32 0) := (bC BK192.out 5).trans rfl; have hcz23_6 : w20.cell? ⟨b192, 6, none⟩ = some (.int .i32 0) := (bC BK192.out 6).trans rfl; have hcz23_7 : w20.cell? ⟨b192, 7, none⟩ = some (.int .i32 0) := (bC BK192.out 7).trans rfl; have hcz23_8 : w20.cell? ⟨b192, 8, none⟩ = some (.int .i32 0) := (bC BK192.out 8).trans rfl; have hcz23_9 : w20.cell? ⟨b192, 9, none⟩ = some (.int .i32 0) := (bC BK192.out 9).trans rfl; have hfz23_0 := bF BK192.out 0; have hfz23_1 := bF BK192.out 1; have hfz23_2 := bF BK192.out 2; have hfz23_3 := bF BK192.out 3; have hfz23_4 := bF BK192.out 4; have hfz23_5 := bF BK192.out 5; have hfz23_6 := bF BK192.out 6; have hfz23_7 := bF BK192.out 7; have hfz23_8 := bF BK192.out 8; have hfz23_9 := bF BK192.out 9) | ((with_reducible refine gate_dst (N := 16) rfl ?_); (try (refine gate_guard (by rfl) ?_; dsimp only)); refine Kd.R_lit k32 _ 32 ?hg (N := 16) ?hd (xs := ([(⟨3, 65536, (⟨0, 0⟩ : S24), 0, 0, (⟨0, 0⟩ : S24), (⟨0, 0⟩ : S24)⟩ : S32), (⟨5, 65536, (⟨100, 0⟩ : S24), 0, 0, (⟨0, 65536⟩ : S24), (⟨0, 0⟩ : S24)⟩ : S32)] : List (S32))) (inner := [.int .u32 3, .int .i32 65536, .int .i32 0, .int .i32 0, .int .i32 0, .int .i32 0, .int .i32 0, .int .i32 0, .int .i32 0, .int .i32 0, .int .u32 5, .int .i32 65536, .int .i32 100, .int .i32 0, .int .i32 0, .int .i32 0, .int .i32 0, .int .i32 65536, .int .i32 0, .int .i32 0]) (ok := fun _ => True) (okp := fun _ => True) ?hr ?hp (fun _ hk => hk) trivial (Below.refl _ _) (Nat.le_refl _) (by simp) ?_; (case hd => rfl); (case hg => rfl); (case hr => first | (go_simp; done) | (go_simp; rfl)); (case hp => exact (Reps.c10 (show Kd.M k32 _ _ _ (⟨3, 65536, (⟨0, 0⟩ : S24), 0, 0, (⟨0, 0⟩ : S24), (⟨0, 0⟩ : S24)⟩ : S32) [.int .u32 3, .int .i32 65536, .int .i32 0, .int .i32 0, .int .i32 0, .int .i32 0, .int .i32 0, .int .i32 0, .int .i32 0, .int .i32 0] from (k32_mkM _ _ _ (⟨3, 65536, (⟨0, 0⟩ : S24), 0, 0, (⟨0, 0⟩ : S24), (⟨0, 0⟩ : S24)⟩ : S32) )) (Reps.c10 (show Kd.M k32 _ _ _ (⟨5, 65536, (⟨100, 0⟩ : S24), 0, 0, (⟨0, 65536⟩ : S24), (⟨0, 0⟩ : S24)⟩ : S32) [.int .u32 5, .int .i32 65536, .int .i32 100, .int .i32 0, .int .i32 0, .int .i32 0, .int .i32 0, .int .i32 65536, .int .i32 0, .int .i32 0] from (k32_mkM _ _ _ (⟨5, 65536, (⟨100, 0⟩ : S24), 0, 0, (⟨0, 65536⟩ : S24), (⟨0, 0⟩ : S24)⟩ : S32) )) (Reps.none _ _)))); intro v195 w24 ho25 hb hg_ hnew_; clear hg_ hnew_; (first | rw [← Ny194.out] at ho25 | (simp only [Int.reduceToNat] at ho25; rw [← Ny194.out] at ho25)); have n0_ := aM (Kd.R_lower (Kd.R_newB (Kd.R_newB ho25 (g := b192) (o := .cells #[.int .u32 3, .int .i32 65536, .int .i32 0, .int .i32 0, .int .i32 0, .int .i32 0, .int .i32 0, .int .i32 0, .int .i32 0, .int .i32 0] 32 (0, 0)) (by (with_reducible repeat first | apply bN | apply bD | apply bA); refine bR ?_ N0_.out _; (with_reducible repeat first | apply bN | apply bD | apply bA); refine bR ?_ N0_.out _; (with_reducible repeat first | apply bN | apply bD | apply bA); refine bR ?_ N0_.out _; (with_reducible repeat first | apply bN | apply bD | apply bA); refine bR ?_ N0_.out _; (with_reducible repeat first | apply bN | apply bD | apply bA); refine bR ?_ N0_.out _; (with_reducible repeat first | apply bN | apply bD | apply bA); refine bR ?_ N0_.out _; (with_reducible repeat first | apply bN | apply bD | apply bA); refine bR ?_ N0_.out _; (with_reducible repeat first | apply bN | apply bD | apply bA); refine bR ?_ N0_.out _; (with_reducible repeat first | apply bN | apply bD | apply bA); refine bR ?_ N0_.out _; (with_reducible repeat first | apply bN | apply bD | apply bA); refine bR ?_ N0_.out _; (with_reducible repeat first | apply bN | apply bD | apply bA); exact BK192.out)) (g := b193) (o := .cells #[.int .u32 5, .int .i32 65536, .int .i32 100, .int .i32 0, .int .i32 0, .int .i32 0, .int .i32 0, .int .i32 65536, .int .i32 0, .int .i32 0] 32 (0, 0)) (by (with_reducible repeat first | apply bN | apply bD | apply bA); refine bP (cs := #[.int .u32 5, .int .i32 65536, .int .i32 100, .int .i32 0, .int .i32 0, .int .i32 0, .int .i32 0, .int .i32 65536, .int .i32 0, .int .i32 0]) ?_ 9 _ rfl; (with_reducible repeat first | apply bN | apply bD | apply bA); refine bP (cs := #[.int .u32 5, .int .i32 65536, .int .i32 100, .int .i32 0, .int .i32 0, .int .i32 0, .int .i32 0, .int .i32 65536, .int .i32 0, .int .i32 0]) ?_ 8 _ rfl; (with_reducible repeat first | apply bN | apply bD | apply bA); refine bP (cs := #[.int .u32 5, .int .i32 65536, .int .i32 100, .int .i32 0, .int .i32 0, .int .i32 0, .int .i32 0, .int .i32 0, .int .i32 0, .int .i32 0]) ?_ 7 _ rfl; (with_reducible repeat first | apply bN | apply bD | apply bA); refine bP (cs := #[.int .u32 5, .int .i32 65536, .int .i32 100, .int .i32 0, .int .i32 0, .int .i32 0, .int .i32 0, .int .i32 0, .int .i32 0, .int .i32 0]) ?_ 6 _ rfl; (with_reducible repeat first | apply bN | apply bD | apply bA); refine bP (cs := #[.int .u32 5, .int .i32 65536, .int .i32 100, .int .i32 0, .int .i32 0, .int .i32 0, .int .i32 0, .int .i32 0, .int .i32 0, .int .i32 0]) ?_ 5 _ rfl; (with_reducible repeat first | apply bN | apply bD | apply bA); refine bP (cs := #[.int .u32 5, .int .i32 65536, .int .i32 100, .int .i32 0, .int .i32 0, .int .i32 0, .int .i32 0, .int .i32 0, .int .i32 0, .int .i32 0]) ?_ 4 _ rfl; (with_reducible repeat first | apply bN | apply bD | apply bA); refine bP (cs := #[.int .u32 5, .int .i32 65536, .int .i32 100, .int .i32 0, .int .i32 0, .int .i32 0, .int .i32 0, .int .i32 0, .int .i32 0, .int .i32 0]) ?_ 3 _ rfl; (with_reducible repeat first | apply bN | apply bD | apply bA); refine bP (cs := #[.int .u32 5, .int .i32 65536, .int .i32 0, .int .i32 0, .int .i32 0, .int .i32 0, .int .i32 0, .int .i32 0, .int .i32 0, .int .i32 0]) ?_ 2 _ rfl; (with_reducible repeat first | apply bN | apply bD | apply bA); refine bP (cs := #[.int .u32 5, .int .i32 0, .int .i32 0, .int .i32 0, .int .i32 0, .int .i32 0, .int .i32 0, .int .i32 0, .int .i32 0, .int .i32 0]) ?_ 1 _ rfl; (with_reducible repeat first | apply bN | apply bD | apply bA); refine bP (cs := #[.int .u32 0, .int .i32 0, .int .i32 0, .int .i32 0, .int .i32 0, .int .i32 0, .int .i32 0, .int .i32 0, .int .i32 0, .int .i32 0]) ?_ 0 _ rfl; (with_reducible repeat first | apply bN | apply bD | apply bA); exact BK193.out)) (lZ (by repeat (first | (with_reducible first | exact HB.out | apply lA | apply lN | apply lD | refine lS ?_ GE192.out | refine lS ?_ GE193.out) | exact HB.out)))); have n1_ := aM (bB (g := b192) (o := .cells #[.int .u32 3, .int .i32 65536, .int .i32 0, .int .i32 0, .int .i32 0, .int .i32 0, .int .i32 0, .int .i32 0, .int .i32 0, .int .i32 0] 32 (0, 0)) (by (with_reducible repeat first | apply bN | apply bD | apply bA); refine bR ?_ N0_.out _; (with_reducible repeat first | apply bN | apply bD | apply bA); refine bR ?_ N0_.out _; (with_reducible repeat first | apply bN | apply bD | apply bA); refine bR ?_ N0_.out _; (with_reducible repeat first | apply bN | apply bD | apply bA); refine bR ?_ N0_.out _; (with_reducible repeat first | apply bN | apply bD | apply bA); refine bR ?_ N0_.out _; (with_reducible repeat first | apply bN | apply bD | apply bA); refine bR ?_ N0_.out _; (with_reducible repeat first | apply bN | apply bD | apply bA); refine bR ?_ N0_.out _; (with_reducible repeat first | apply bN | apply bD | apply bA); refine bR ?_ N0_.out _; (with_reducible repeat first | apply bN | apply bD | apply bA); refine bR ?_ N0_.out _; (with_reducible repeat first | apply bN | apply bD | apply bA); refine bR ?_ N0_.out _; (with_reducible repeat first | apply bN | apply bD | apply bA); exact BK192.out) hb); have n2_ := aM (bB (g := b193) (o := .cells #[.int .u32 5, .int .i32 65536, .int .i32 100, .int .i32 0, .int .i32 0, .int .i32 0, .int .i32 0, .int .i32 65536, .int .i32 0, .int .i32 0] 32 (0, 0)) (by (with_reducible repeat first | apply bN | apply bD | apply bA); refine bP (cs := #[.int .u32 5, .int .i32 65536, .int .i32 100, .int .i32 0, .int .i32 0, .int .i32 0, .int .i32 0, .int .i32 65536, .int .i32 0, .int .i32 0]) ?_ 9 _ rfl; (with_reducible repeat first | apply bN | apply bD | apply bA); refine bP (cs := #[.int .u32 5, .int .i32 65536, .int .i32 100, .int .i32 0, .int .i32 0, .int .i32 0, .int .i32 0, .int .i32 65536, .int .i32 0, .int .i32 0]) ?_ 8 _ rfl; (with_reducible repeat first | apply bN | apply bD | apply bA); refine bP (cs := #[.int .u32 5, .int .i32 65536, .int .i32 100, .int .i32 0, .int .i32 0, .int .i32 0, .int .i32 0, .int .i32 0, .int .i32 0, .int .i32 0]) ?_ 7 _ rfl; (with_reducible repeat first | apply bN | apply bD | apply bA); refine bP (cs := #[.int .u32 5, .int .i32 65536, .int .i32 100, .int .i32 0, .int .i32 0, .int .i32 0, .int .i32 0, .int .i32 0, .int .i32 0, .int .i32 0]) ?_ 6 _ rfl; (with_reducible repeat first | apply bN | apply bD | apply bA); refine bP (cs := #[.int .u32 5, .int .i32 65536, .int .i32 100, .int .i32 0, .int .i32 0, .int .i32 0, .int .i32 0, .int .i32 0, .int .i32 0, .int .i32 0]) ?_ 5 _ rfl; (with_reducible repeat first | apply bN | apply bD | apply bA); refine bP (cs := #[.int .u32 5, .int .i32 65536, .int .i32 100, .int .i32 0, .int .i32 0, .int .i32 0, .int .i32 0, .int .i32 0, .int .i32 0, .int .i32 0]) ?_ 4 _ rfl; (with_reducible repeat first | apply bN | apply bD | apply bA); refine bP (cs := #[.int .u32 5, .int .i32 65536, .int .i32 100, .int .i32 0, .int .i32 0, .int .i32 0, .int .i32 0, .int .i32 0, .int .i32 0, .int .i32 0]) ?_ 3 _ rfl; (with_reducible repeat first | apply bN | apply bD | apply bA); refine bP (cs := #[.int .u32 5, .int .i32 65536, .int .i32 0, .int .i32 0, .int .i32 0, .int .i32 0, .int .i32 0, .int .i32 0, .int .i32 0, .int .i32 0]) ?_ 2 _ rfl; (with_reducible repeat first | apply bN | apply bD | apply bA); refine bP (cs := #[.int .u32 5, .int .i32 0, .int .i32 0, .int .i32 0, .int .i32 0, .int .i32 0, .int .i32 0, .int .i32 0, .int .i32 0, .int .i32 0]) ?_ 1 _ rfl; (with_reducible repeat first | apply bN | apply bD | apply bA); refine bP (cs := #[.int .u32 0, .int .i32 0, .int .i32 0, .int .i32 0, .int .i32 0, .int .i32 0, .int .i32 0, .int .i32 0, .int .i32 0, .int .i32 0]) ?_ 0 _ rfl; (with_reducible repeat first | apply bN | apply bD | apply bA); exact BK193.out) hb); have n3_ := aM (lT (by repeat (first | (with_reducible first | exact HB.out | apply lA | apply lN | apply lD | refine lS ?_ GE192.out | refine lS ?_ GE193.out) | exact HB.out)) hb); clear BK192; clear BK193; clear HB; have HO196 := n0_; have BK192 := n1_; have BK193 := n2_; have HB := n3_; clear n0_ n1_ n2_ n3_; clear hb ho25; obtain ⟨Ao26, co26, eo26⟩ := Kd.R_slice HO196.out; subst eo26) | ((with_reducible refine gate_callee (f := 19) rfl ?_); refine goesL_ (some 20) rfl rfl Try.func19 (by kernel_rfl) rfl #[.slice Ao26 y194.length co26, .agg #[.int .i32 0, .int .i32 100000]] rfl (by (try simp only [List.map_toArray, List.map_cons, List.map_nil]); first | done | rfl | (simp only [List.length_drop, List.length_take]; rfl)) ?_; (with_reducible refine (query_Closest.calls _ _ y194 0 100000 t197 t198 true _ ?side1 ?side2 A1.out).mono ?_); (case side1 => repeat (first | exact (Kd.R_reads' HO196.out).2.2 | (with_reducible refine Kd.C_alloc ?_ _) | (with_reducible refine Kd.C_drewN ?_ _) | (with_reducible refine Kd.C_drew ?_))); (case side2 => exact (Kd.R_reads' HO196.out).2.1); rintro e w27 ⟨rfl, hb⟩; refine ⟨_, rfl, ?_⟩; have n0_ := aM (Kd.R_below (by (with_reducible repeat (first | apply Kd.R_alloc | apply Kd.R_drewN | apply Kd.R_drew)); exact HO196.out) hb); have n1_ := aM (bB (by (with_reducible repeat first | apply bN | apply bD | apply bA); exact BK192.out) hb); have n2_ := aM (bB (by (with_reducible repeat first | apply bN | apply bD | apply bA); exact BK193.out) hb); have n3_ := aM (lT (by repeat (first | (with_reducible first | exact HB.out | apply lA | apply lN | apply lD | refine lS ?_ GE192.out | refine lS ?_ GE193.out) | exact HB.out)) hb); clear HO196; clear BK192; clear BK193; clear HB; have HO196 := n0_; have BK192 := n1_; have BK193 := n2_; have HB := n3_; clear n0_ n1_ n2_ n3_; (try clear hb); (try clear hb2); (try clear hk); (try clear hi)) | ((with_reducible refine gate_callee (f := 19) rfl ?_); refine goesL_ (some 26) rfl rfl Try.func19 (by kernel_rfl) rfl #[.slice none 0 0, .agg #[.int .i32 0, .int .i32 0]] rfl (by (try simp only [List.map_toArray, List.map_cons, List.map_nil]); first | done | rfl | (simp only [List.length_drop, List.length_take]; rfl)) ?_; (refine (query_Closest.calls _ _ ([] : List (S32)) 0 0 t200 t201 false _ ?side1 ?side2 A2.out).mono ?_); (case side1 => exact Kd.C_nil _ _); (case side2 => exact Nat.le_refl _); rintro e w28 ⟨rfl, hb⟩; refine ⟨_, rfl, ?_⟩; have n0_ := aM (Kd.R_below (by (with_reducible repeat (first | apply Kd.R_alloc | apply Kd.R_drewN | apply Kd.R_drew)); exact HO196.out) hb); have n1_ := aM (bB (by (with_reducible repeat first | apply bN | apply bD | apply bA); exact BK192.out) hb); have n2_ := aM (bB (by (with_reducible repeat first | apply bN | apply bD | apply bA); exact BK193.out) hb); have n3_ := aM (lT (by repeat (first | (with_reducible first | exact HB.out | apply lA | apply lN | apply lD | refine lS ?_ GE192.out | refine lS ?_ GE193.out) | exact HB.out)) hb); clear HO196; clear BK192; clear BK193; clear HB; have HO196 := n0_; have BK192 := n1_; have BK193 := n2_; have HB := n3_; clear n0_ n1_ n2_ n3_; (try clear hb); (try clear hb2); (try clear hk); (try clear hi); have hcz29_0 : w28.cell? ⟨b192, 0, none⟩ = some (.int .u32 3) := (bC BK192.out 0).trans rfl; have hcz29_1 : w28.cell? ⟨b192, 1, none⟩ = some (.int .i32 65536) := (bC BK192.out 1).trans rfl; have hcz29_2 : w28.cell? ⟨b192, 2, none⟩ = some (.int .i32 0) := (bC BK192.out 2).trans rfl; have hcz29_3 : w28.cell? ⟨b192, 3, none⟩ = some (.int .i32 0) := (bC BK192.out 3).trans rfl; have hcz29_4 : w28.cell? ⟨b192, 4, none⟩ = some (.int .i32 0) := (bC BK192.out 4).trans rfl; have hcz29_5 : w28.cell? ⟨b192, 5, none⟩ = some (.int .i32 0) := (bC BK192.out 5).trans rfl; have hcz29_6 : w28.cell? ⟨b192, 6, none⟩ = some (.int .i32 0) := (bC BK192.out 6).trans rfl; have hcz29_7 : w28.cell? ⟨b192, 7, none⟩ = some (.int .i32 0) := (bC BK192.out 7).trans rfl; have hcz29_8 : w28.cell? ⟨b192, 8, none⟩ = some (.int .i32 0) := (bC BK192.out 8).trans rfl; have hcz29_9 : w28.cell? ⟨b192, 9, none⟩ = some (.int .i32 0) := (bC BK192.out 9).trans rfl; have hfz29_0 := bF BK192.out 0; have hfz29_1 := bF BK192.out 1; have hfz29_2 := bF BK192.out 2; have hfz29_3 := bF BK192.out 3; have hfz29_4 := bF BK192.out 4; have hfz29_5 := bF BK192.out 5; have hfz29_6 := bF BK192.out 6; have hfz29_7 := bF BK192.out 7; have hfz29_8 := bF BK192.out 8; have hfz29_9 := bF BK192.out 9) | ((with_reducible refine gate_callee (f := 10) rfl ?_); refine goesL_ (some 32) rfl rfl Try.func10 (by kernel_rfl) rfl #[.agg #[.int .u32 3, .int .i32 65536, .int .i32 0, .int .i32 0, .int .i32 0, .int .i32 0, .int .i32 0, .int .i32 0, .int .i32 0, .int .i32 0], .agg #[.int .i32 0, .int .i32 100000]] rfl (by (try simp only [List.map_toArray, List.map_cons, List.map_nil]); first | done | rfl | (simp only [List.length_drop, List.length_take]; rfl)) ?_; (with_reducible refine (query_Distance.calls k 3 65536 0 0 0 0 0 0 0 0 0 100000 t203 _ A3.out).mono ?_); rintro e w30 ⟨rfl, hb⟩; refine ⟨_, rfl, ?_⟩; have n0_ := aM (Kd.R_below (by (with_reducible repeat (first | apply Kd.R_alloc | apply Kd.R_drewN | apply Kd.R_drew)); exact HO196.out) hb); have n1_ := aM (bB (by (with_reducible repeat first | apply bN | apply bD | apply bA); exact BK192.out) hb); have n2_ := aM (bB (by (with_reducible repeat first | apply bN | apply bD | apply bA); exact BK193.out) hb); have n3_ := aM (lT (by repeat (first | (with_reducible first | exact HB.out | apply lA | apply lN | apply lD | refine lS ?_ GE192.out | refine lS ?_ GE193.out) | exact HB.out)) hb); clear HO196; clear BK192; clear BK193; clear HB; have HO196 := n0_; have BK192 := n1_; have BK193 := n2_; have HB := n3_; clear n0_ n1_ n2_ n3_; (try clear hb); (try clear hb2); (try clear hk); (try clear hi); have hcz31_0 : w30.cell? ⟨b192, 0, none⟩ = some (.int .u32 3) := (bC BK192.out 0).trans rfl; have hcz31_1 : w30.cell? ⟨b192, 1, none⟩ = some (.int .i32 65536) := (bC BK192.out 1).trans rfl; have hcz31_2 : w30.cell? ⟨b192, 2, none⟩ = some (.int .i32 0) := (bC BK192.out 2).trans rfl; have hcz31_3 : w30.cell? ⟨b192, 3, none⟩ = some (.int .i32 0) := (bC BK192.out 3).trans rfl; have hcz31_4 : w30.cell? ⟨b192, 4, none⟩ = some (.int .i32 0) := (bC BK192.out 4).trans rfl; have hcz31_5 : w30.cell? ⟨b192, 5, none⟩ = some (.int .i32 0) := (bC BK192.out 5).trans rfl; have hcz31_6 : w30.cell? ⟨b192, 6, none⟩ = some (.int .i32 0) := (bC BK192.out 6).trans rfl; have hcz31_7 : w30.cell? ⟨b192, 7, none⟩ = some (.int .i32 0) := (bC BK192.out 7).trans rfl; have hcz31_8 : w30.cell? ⟨b192, 8, none⟩ = some (.int .i32 0) := (bC BK192.out 8).trans rfl; have hcz31_9 : w30.cell? ⟨b192, 9, none⟩ = some (.int .i32 0) := (bC BK192.out 9).trans rfl; have hfz31_0 := bF BK192.out 0; have hfz31_1 := bF BK192.out 1; have hfz31_2 := bF BK192.out 2; have hfz31_3 := bF BK192.out 3; have hfz31_4 := bF BK192.out 4; have hfz31_5 := bF BK192.out 5; have hfz31_6 := bF BK192.out 6; have hfz31_7 := bF BK192.out 7; have hfz31_8 := bF BK192.out 8; have hfz31_9 := bF BK192.out 9) | (go_at_call 12; (with_reducible refine (query_In.calls 3 65536 0 0 0 0 0 0 0 0 65536 0 true _ A5.out).mono ?_); rintro e w32 ⟨rfl, hb⟩; have n0_ := aM (Kd.R_below (by (with_reducible repeat (first | apply Kd.R_alloc | apply Kd.R_drewN | apply Kd.R_drew)); exact HO196.out) hb); have n1_ := aM (bB (by (with_reducible repeat first | apply bN | apply bD | apply bA); exact BK192.out) hb); have n2_ := aM (bB (by (with_reducible repeat first | apply bN | apply bD | apply bA); exact BK193.out) hb); have n3_ := aM (lT (by repeat (first | (with_reducible first | exact HB.out | apply lA | apply lN | apply lD | refine lS ?_ GE192.out | refine lS ?_ GE193.out) | exact HB.out)) hb); clear HO196; clear BK192; clear BK193; clear HB; have HO196 := n0_; have BK192 := n1_; have BK193 := n2_; have HB := n3_; clear n0_ n1_ n2_ n3_; (try clear hb); (try clear hb2); (try clear hk); (try clear hi); have hcz33_0 : w32.cell? ⟨b192, 0, none⟩ = some (.int .u32 3) := (bC BK192.out 0).trans rfl; have hcz33_1 : w32.cell? ⟨b192, 1, none⟩ = some (.int .i32 65536) := (bC BK192.out 1).trans rfl; have hcz33_2 : w32.cell? ⟨b192, 2, none⟩ = some (.int .i32 0) := (bC BK192.out 2).trans rfl; have hcz33_3 : w32.cell? ⟨b192, 3, none⟩ = some (.int .i32 0) := (bC BK192.out 3).trans rfl; have hcz33_4 : w32.cell? ⟨b192, 4, none⟩ = some (.int .i32 0) := (bC BK192.out 4).trans rfl; have hcz33_5 : w32.cell? ⟨b192, 5, none⟩ = some (.int .i32 0) := (bC BK192.out 5).trans rfl; have hcz33_6 : w32.cell? ⟨b192, 6, none⟩ = some (.int .i32 0) := (bC BK192.out 6).trans rfl; have hcz33_7 : w32.cell? ⟨b192, 7, none⟩ = some (.int .i32 0) := (bC BK192.out 7).trans rfl; have hcz33_8 : w32.cell? ⟨b192, 8, none⟩ = some (.int .i32 0) := (bC BK192.out 8).trans rfl; have hcz33_9 : w32.cell? ⟨b192, 9, none⟩ = some (.int .i32 0) := (bC BK192.out 9).trans rfl; have hfz33_0 := bF BK192.out 0; have hfz33_1 := bF BK192.out 1; have hfz33_2 := bF BK192.out 2; have hfz33_3 := bF BK192.out 3; have hfz33_4 := bF BK192.out 4; have hfz33_5 := bF BK192.out 5; have hfz33_6 := bF BK192.out 6; have hfz33_7 := bF BK192.out 7; have hfz33_8 := bF BK192.out 8; have hfz33_9 := bF BK192.out 9) | (go_at_call 12; (with_reducible refine (query_In.calls 3 65536 0 0 0 0 0 0 0 0 65537 0 false _ A7.out).mono ?_); rintro e w34 ⟨rfl, hb⟩; have n0_ := aM (Kd.R_below (by (with_reducible repeat (first | apply Kd.R_alloc | apply Kd.R_drewN | apply Kd.R_drew)); exact HO196.out) hb); have n1_ := aM (bB (by (with_reducible repeat first | apply bN | apply bD | apply bA); exact BK192.out) hb); have n2_ := aM (bB (by (with_reducible repeat first | apply bN | apply bD | apply bA); exact BK193.out) hb); have n3_ := aM (lT (by repeat (first | (with_reducible first | exact HB.out | apply lA | apply lN | apply lD | refine lS ?_ GE192.out | refine lS ?_ GE193.out) | exact HB.out)) hb); clear HO196; clear BK192; clear BK193; clear HB; have HO196 := n0_; have BK192 := n1_; have BK193 := n2_; have HB := n3_; clear n0_ n1_ n2_ n3_; (try clear hb); (try clear hb2); (try clear hk); (try clear hi)) | (go_at_call 15; (with_reducible refine (query_At.calls _ _ y194 0 0 t206 _ ?side1 ?side2 A13.out).mono ?_); (case side1 => repeat (first | exact (Kd.R_reads' HO196.out).2.2 | (with_reducible refine Kd.C_alloc ?_ _) | (with_reducible refine Kd.C_drewN ?_ _) | (with_reducible refine Kd.C_drew ?_))); (case side2 => exact (Kd.R_reads' HO196.out).2.1); rintro e w35 ⟨v207, rfl, ho0, hb⟩; have n0_ := aM (Kd.R_below (by (with_reducible repeat (first | apply Kd.R_alloc | apply Kd.R_drewN | apply Kd.R_drew)); exact HO196.out) hb); have n1_ := aM (Kd.R_lower ho0 (lZ (by repeat (first | (with_reducible first | exact HB.out | apply lA | apply lN | apply lD | refine lS ?_ GE192.out | refine lS ?_ GE193.out) | exact HB.out)))); have n2_ := aM (bB (by (with_reducible repeat first | apply bN | apply bD | apply bA); exact BK192.out) hb); have n3_ := aM (bB (by (with_reducible repeat first | apply bN | apply bD | apply bA); exact BK193.out) hb); have n4_ := aM (lT (by repeat (first | (with_reducible first | exact HB.out | apply lA | apply lN | apply lD | refine lS ?_ GE192.out | refine lS ?_ GE193.out) | exact HB.out)) hb); clear HO196; clear BK192; clear BK193; clear HB; have HO196 := n0_; have HO208 := n1_; have BK192 := n2_; have BK193 := n3_; have HB := n4_; clear n0_ n1_ n2_ n3_ n4_; (try clear hb); (try clear hb2); (try clear hk); (try clear hi); (try clear ho0)) | ((with_reducible refine gate_dst (N := 64) rfl ?_); (try (refine gate_guard (by rfl) ?_; dsimp only)); refine Kd.R_lit (Kd.int .u32) _ 30 ?hg (N := 64) ?hd (xs := ([3, 5] : List Int)) (inner := [.int .u32 3, .int .u32 5]) (ok := fun _ => True) (okp := fun _ => True) ?hr ?hp (fun _ hk => hk) trivial (Below.refl _ _) (Nat.le_refl _) (by simp) ?_; (case hd => rfl); (case hg => rfl); (case hr => first | (go_simp; done) | (go_simp; rfl)); (case hp => exact (Reps.one (show Kd.M (Kd.int .u32) _ _ _ 3 [.int .u32 3] from rfl) (Reps.one (show Kd.M (Kd.int .u32) _ _ _ 5 [.int .u32 5] from rfl) (Reps.none _ _)))); intro v210 w36 ho37 hb hg_ hnew_; clear hg_ hnew_; (first | rw [← Ny209.out] at ho37 | (simp only [Int.reduceToNat] at ho37; rw [← Ny209.out] at ho37)); have n0_ := aM (Kd.R_below (by (with_reducible repeat (first | apply Kd.R_alloc | apply Kd.R_drewN | apply Kd.R_drew)); exact HO196.out) hb); have n1_ := aM (Kd.R_elder' (by (with_reducible repeat (first | apply Kd.R_alloc | apply Kd.R_drewN | apply Kd.R_drew)); exact HO208.out) (Kd.R_base ho37) hb); have n2_ := aM (Kd.R_lower (Kd.R_new' ho37 (Kd.R_lt (by (with_reducible repeat (first | apply Kd.R_alloc | apply Kd.R_drewN | apply Kd.R_drew)); exact HO208.out))) (lZ (by repeat (first | (with_reducible first | exact HB.out | apply lA | apply lN | apply lD | refine lS ?_ GE192.out | refine lS ?_ GE193.out) | exact HB.out)))); have n3_ := aM (bB (by (with_reducible repeat first | apply bN | apply bD | apply bA); exact BK192.out) hb); have n4_ := aM (bB (by (with_reducible repeat first | apply bN | apply bD | apply bA); exact BK193.out) hb); have n5_ := aM (lT (by repeat (first | (with_reducible first | exact HB.out | apply lA | apply lN | apply lD | refine lS ?_ GE192.out | refine lS ?_ GE193.out) | exact HB.out)) hb); clear HO196; clear HO208; clear BK192; clear BK193; clear HB; have HO196 := n0_; have HO208 := n1_; have HO211 := n2_; have BK192 := n3_; have BK193 := n4_; have HB := n5_; clear n0_ n1_ n2_ n3_ n4_ n5_; clear hb ho37; obtain ⟨Ao38, co38, eo38⟩ := Kd.R_slice HO208.out; subst eo38; obtain ⟨Ao39, co39, eo39⟩ := Kd.R_slice HO211.out; subst eo39) | (go_at_call 14; (with_reducible refine (billiardref07_Keys.calls k _ _ t206 _ _ y209 true _ ?side1 ?side2 ?side3 ?side4 A14.out).mono ?_); (case side1 => repeat (first | exact (Kd.R_reads' HO208.out).2.2 | (with_reducible refine Kd.C_alloc ?_ _) | (with_reducible refine Kd.C_drewN ?_ _) | (with_reducible refine Kd.C_drew ?_))); (case side2 => exact (Kd.R_reads' HO208.out).2.1); (case side3 => repeat (first | exact (Kd.R_reads' HO211.out).2.2 | (with_reducible refine Kd.C_alloc ?_ _) | (with_reducible refine Kd.C_drewN ?_ _) | (with_reducible refine Kd.C_drew ?_))); (case side4 => exact (Kd.R_reads' HO211.out).2.1); rintro e w' ⟨rfl, ⟨nd, rfl⟩⟩) | (go_at_call 17; (with_reducible refine (query_Near.calls _ _ y194 0 200000 70000 t213 _ ?side1 ?side2 A16.out).mono ?_); (case side1 => repeat (first | exact (Kd.R_reads' HO196.out).2.2 | (with_reducible refine Kd.C_alloc ?_ _) | (with_reducible refine Kd.C_drewN ?_ _) | (with_reducible refine Kd.C_drew ?_))); (case side2 => exact (Kd.R_reads' HO196.out).2.1); rintro e w40 ⟨v214, rfl, ho0, hb⟩; have n0_ := aM (Kd.R_below (by (with_reducible repeat (first | apply Kd.R_alloc | apply Kd.R_drewN | apply Kd.R_drew)); exact HO196.out) hb); have n1_ := aM (Kd.R_elder' (by (with_reducible repeat (first | apply Kd.R_alloc | apply Kd.R_drewN | apply Kd.R_drew)); exact HO208.out) (Kd.R_base ho0) hb); have n2_ := aM (Kd.R_elder' (by (with_reducible repeat (first | apply Kd.R_alloc | apply Kd.R_drewN | apply Kd.R_drew)); exact HO211.out) (Kd.R_base ho0) hb); have n3_ := aM (Kd.R_lower (Kd.R_new' (Kd.R_new' ho0 (Kd.R_lt (by (with_reducible repeat (first | apply Kd.R_alloc | apply Kd.R_drewN | apply Kd.R_drew)); exact HO208.out))) (Kd.R_lt (by (with_reducible repeat (first | apply Kd.R_alloc | apply Kd.R_drewN | apply Kd.R_drew)); exact HO211.out))) (lZ (by repeat (first | (with_reducible first | exact HB.out | apply lA | apply lN | apply lD | refine lS ?_ GE192.out | refine lS ?_ GE193.out) | exact HB.out)))); have n4_ := aM (bB (by (with_reducible repeat first | apply bN | apply bD | apply bA); exact BK192.out) hb); have n5_ := aM (bB (by (with_reducible repeat first | apply bN | apply bD | apply bA); exact BK193.out) hb); have n6_ := aM (lT (by repeat (first | (with_reducible first | exact HB.out | apply lA | apply lN | apply lD | refine lS ?_ GE192.out | refine lS ?_ GE193.out) | exact HB.out)) hb); clear HO196; clear HO208; clear HO211; clear BK192; clear BK193; clear HB; have HO196 := n0_; have HO208 := n1_; have HO211 := n2_; have HO215 := n3_; have BK192 := n4_; have BK193 := n5_; have HB := n6_; clear n0_ n1_ n2_ n3_ n4_ n5_ n6_; (try clear hb); (try clear hb2); (try clear hk); (try clear hi); (try clear ho0)) | ((with_reducible refine gate_dst (N := 71) rfl ?_); (try (refine gate_guard (by rfl) ?_; dsimp only)); refine Kd.R_lit (Kd.int .u32) _ 30 ?hg (N := 71) ?hd (xs := ([5] : List Int)) (inner := [.int .u32 5]) (ok := fun _ => True) (okp := fun _ => True) ?hr ?hp (fun _ hk => hk) trivial (Below.refl _ _) (Nat.le_refl _) (by simp) ?_; (case hd => rfl); (case hg => rfl); (case hr => first | (go_simp; done) | (go_simp; rfl)); (case hp => exact (Reps.one (show Kd.M (Kd.int .u32) _ _ _ 5 [.int .u32 5] from rfl) (Reps.none _ _))); intro v217 w41 ho42 hb hg_ hnew_; clear hg_ hnew_; (first | rw [← Ny216.out] at ho42 | (simp only [Int.reduceToNat] at ho42; rw [← Ny216.out] at ho42)); have n0_ := aM (Kd.R_below (by (with_reducible repeat (first | apply Kd.R_alloc | apply Kd.R_drewN | apply Kd.R_drew)); exact HO196.out) hb); have n1_ := aM (Kd.R_elder' (by (with_reducible repeat (first | apply Kd.R_alloc | apply Kd.R_drewN | apply Kd.R_drew)); exact HO208.out) (Kd.R_base ho42) hb); have n2_ := aM (Kd.R_elder' (by (with_reducible repeat (first | apply Kd.R_alloc | apply Kd.R_drewN | apply Kd.R_drew)); exact HO211.out) (Kd.R_base ho42) hb); have n3_ := aM (Kd.R_elder' (by (with_reducible repeat (first | apply Kd.R_alloc | apply Kd.R_drewN | apply Kd.R_drew)); exact HO215.out) (Kd.R_base ho42) hb); have n4_ := aM (Kd.R_lower (Kd.R_new' (Kd.R_new' (Kd.R_new' ho42 (Kd.R_lt (by (with_reducible repeat (first | apply Kd.R_alloc | apply Kd.R_drewN | apply Kd.R_drew)); exact HO208.out))) (Kd.R_lt (by (with_reducible repeat (first | apply Kd.R_alloc | apply Kd.R_drewN | apply Kd.R_drew)); exact HO211.out))) (Kd.R_lt (by (with_reducible repeat (first | apply Kd.R_alloc | apply Kd.R_drewN | apply Kd.R_drew)); exact HO215.out))) (lZ (by repeat (first | (with_reducible first | exact HB.out | apply lA | apply lN | apply lD | refine lS ?_ GE192.out | refine lS ?_ GE193.out) | exact HB.out)))); have n5_ := aM (bB (by (with_reducible repeat first | apply bN | apply bD | apply bA); exact BK192.out) hb); have n6_ := aM (bB (by (with_reducible repeat first | apply bN | apply bD | apply bA); exact BK193.out) hb); have n7_ := aM (lT (by repeat (first | (with_reducible first | exact HB.out | apply lA | apply lN | apply lD | refine lS ?_ GE192.out | refine lS ?_ GE193.out) | exact HB.out)) hb); clear HO196; clear HO208; clear HO211; clear HO215; clear BK192; clear BK193; clear HB; have HO196 := n0_; have HO208 := n1_; have HO211 := n2_; have HO215 := n3_; have HO218 := n4_; have BK192 := n5_; have BK193 := n6_; have HB := n7_; clear n0_ n1_ n2_ n3_ n4_ n5_ n6_ n7_; clear hb ho42; obtain ⟨Ao43, co43, eo43⟩ := Kd.R_slice HO215.out; subst eo43; obtain ⟨Ao44, co44, eo44⟩ := Kd.R_slice HO218.out; subst eo44) | (go_at_call 14; (with_reducible refine (billiardref07_Keys.calls k _ _ t213 _ _ y216 t219 _ ?side1 ?side2 ?side3 ?side4 A17.out).mono ?_); (case side1 => repeat (first | exact (Kd.R_reads' HO215.out).2.2 | (with_reducible refine Kd.C_alloc ?_ _) | (with_reducible refine Kd.C_drewN ?_ _) | (with_reducible refine Kd.C_drew ?_))); (case side2 => exact (Kd.R_reads' HO215.out).2.1); (case side3 => repeat (first | exact (Kd.R_reads' HO218.out).2.2 | (with_reducible refine Kd.C_alloc ?_ _) | (with_reducible refine Kd.C_drewN ?_ _) | (with_reducible refine Kd.C_drew ?_))); (case side4 => exact (Kd.R_reads' HO218.out).2.1); rintro e w' ⟨rfl, ⟨nd, rfl⟩⟩))
         go_ret
         exact ⟨by first | rfl | (simp [errW_none, errW_some] <;> rfl) | (simp [*, errW_none, errW_some] <;> rfl), by repeat (first | (with_reducible first | exact HB.out | apply lA | apply lN | apply lD | refine lS ?_ GE192.out | refine lS ?_ GE193.out) | exact HB.out)⟩
        ·replace c15 := Bool.eq_false_iff.mpr c15
         subst c15
         rw [if_neg (show ¬ (false = true) by decide)] at H
         exact absurd ((Option.some.inj H).trans HR.out) (by decide)
      ·replace c11 := Bool.eq_false_iff.mpr c11
       subst c11
       rw [if_neg (show ¬ (false = true) by decide)] at H
       exact absurd ((Option.some.inj H).trans HR.out) (by decide)
     ·rw [if_neg c10] at H
      have c10b0 : (t198 == (-31072)) = false := beq_eq_false_iff_ne.mpr c10
      have c10b1 : (t198 != (-31072)) = true := bne_iff_ne.mpr c10
      exact absurd ((Option.some.inj H).trans HR.out) (by decide)
    ·rw [if_neg c9] at H
     have c9b0 : (t197 == 5) = false := beq_eq_false_iff_ne.mpr c9
     have c9b1 : (t197 != 5) = true := bne_iff_ne.mpr c9
     exact absurd ((Option.some.inj H).trans HR.out) (by decide)
  ·replace c6 := Bool.eq_false_iff.mpr c6
   subst c6
   rw [if_neg (show ¬ (false = true) by decide)] at H
   exact absurd ((Option.some.inj H).trans HR.out) (by decide)
 ·rw [if_neg c4] at H
  have c4b0 : (t203 == 34464) = false := beq_eq_false_iff_ne.mpr c4
  have c4b1 : (t203 != 34464) = true := bne_iff_ne.mpr c4
  exact absurd ((Option.some.inj H).trans HR.out) (by decide)

/-! ### billiardlaw24_within: function 26 -/
mutual
def billiardlaw24_within.l0 : Nat → List Int → List Int → Int → Int → Option (Bool)
 | 0, _, _, _, _ => none
 | k + 1, x0, x1, x5, x6 => if x6 < (x1.length : Int) then (billiardlaw24_within.j1 k x0 x1 x5 x6 (decide (x5 < (x0.length : Int)))) else (billiardlaw24_within.j1 k x0 x1 x5 x6 false)
def billiardlaw24_within.j1 : Nat → List Int → List Int → Int → Int → Bool → Option (Bool)
 | 0, _, _, _, _, _ => none
 | k + 1, x0, x1, x5, x6, x16 => if x16 = true then (if 0 ≤ x6 then (if x6 < (x1.length : Int) then (if 0 ≤ x5 then (if x5 < (x0.length : Int) then (if (rd x1 x6) = (rd x0 x5) then (billiardlaw24_within.l0 k x0 x1 (wrap64 (x5 + 1)) (wrap64 (x6 + 1))) else (billiardlaw24_within.l0 k x0 x1 x5 (wrap64 (x6 + 1)))) else (none)) else (none)) else (none)) else (none)) else (some (x5 == (x0.length : Int)))
end
def billiardlaw24_within.f (k : Nat) (l0 : List Int) (l1 : List Int) : Option (Bool) := billiardlaw24_within.l0 k l0 l1 0 0
theorem billiardlaw24_within.mono_l : ∀ k, (∀ y0 y1 y2 y3, LeO (billiardlaw24_within.l0 k y0 y1 y2 y3) (billiardlaw24_within.l0 (k + 1) y0 y1 y2 y3)) ∧ (∀ y0 y1 y2 y3 y4, LeO (billiardlaw24_within.j1 k y0 y1 y2 y3 y4) (billiardlaw24_within.j1 (k + 1) y0 y1 y2 y3 y4))
 | 0 => ⟨fun _ _ _ _ r h => by simp [billiardlaw24_within.l0] at h, fun _ _ _ _ _ r h => by simp [billiardlaw24_within.j1] at h⟩
 | k + 1 => by
  obtain ⟨ih0, ih1⟩ := billiardlaw24_within.mono_l k
  refine ⟨?_, ?_⟩
  ·intro y0 y1 y2 y3
   unfold billiardlaw24_within.l0
   repeat' first
   | (with_reducible exact ih0 _ _ _ _)
   | (with_reducible exact ih1 _ _ _ _ _)
   | (with_reducible exact LeO.refl _)
   | (with_reducible exact LeO.none _)
   | (with_reducible refine LeO.ite ?_ ?_)
   | (with_reducible refine LeO.bind ?_ (fun _ => ?_))
   | exact ih0 _ _ _ _
   | exact ih1 _ _ _ _ _
   | exact LeO.none _
   | refine LeO.ite ?_ ?_
   | refine LeO.bind ?_ (fun _ => ?_)
  ·intro y0 y1 y2 y3 y4
   unfold billiardlaw24_within.j1
   repeat' first
   | (with_reducible exact ih0 _ _ _ _)
   | (with_reducible exact ih1 _ _ _ _ _)
   | (with_reducible exact LeO.refl _)
   | (with_reducible exact LeO.none _)
   | (with_reducible refine LeO.ite ?_ ?_)
   | (with_reducible refine LeO.bind ?_ (fun _ => ?_))
   | exact ih0 _ _ _ _
   | exact ih1 _ _ _ _ _
   | exact LeO.none _
   | refine LeO.ite ?_ ?_
   | refine LeO.bind ?_ (fun _ => ?_)
theorem billiardlaw24_within.mono : ∀ a0 a1 k, LeO (billiardlaw24_within.f k a0 a1) (billiardlaw24_within.f (k + 1) a0 a1) := by
 intro a0 a1 k
 obtain ⟨ih0, ih1⟩ := billiardlaw24_within.mono_l k
 unfold billiardlaw24_within.f
 repeat' first
   | (with_reducible exact ih0 _ _ _ _)
   | (with_reducible exact ih1 _ _ _ _ _)
   | (with_reducible exact LeO.refl _)
   | (with_reducible exact LeO.none _)
   | (with_reducible refine LeO.ite ?_ ?_)
   | (with_reducible refine LeO.bind ?_ (fun _ => ?_))
   | exact ih0 _ _ _ _
   | exact ih1 _ _ _ _ _
   | exact LeO.none _
   | refine LeO.ite ?_ ?_
   | refine LeO.bind ?_ (fun _ => ?_)
set_option maxHeartbeats 8000000 in
set_option maxRecDepth 100000 in
theorem billiardlaw24_within.calls (k : Nat) (A0 : Option Addr) (c0 : Nat) (l0 : List Int) (A1 : Option Addr) (c1 : Nat) (l1 : List Int) (r : Bool) (w : World) (hr0 : Kd.C (Kd.int .u32) w A0 l0.length l0) (hc0 : l0.length ≤ c0) (hr1 : Kd.C (Kd.int .u32) w A1 l1.length l1) (hc1 : l1.length ≤ c1) (h : billiardlaw24_within.f k l0 l1 = some r) :
  Calls Try.prog 26 #[.slice A0 l0.length c0, .slice A1 l1.length c1] w fun e w' => e = .returned (.bool r) ∧ Drawn0 w w' := by
 have HR0 := aM hr0
 have HC0 := aM hc0
 clear hr0 hc0
 have HR1 := aM hr1
 have HC1 := aM hc1
 clear hr1 hc1
 have H : (billiardlaw24_within.l0 k l0 l1 0 0) = some r := h
 clear h
 have H' := aM H
 clear H
 go_enter Try.func26, Try.ntmps26
 go_wp2
 repeat (go_quiet (fail); try go_wp2)
 go_loopg [5, 6] k (fun kq v5 v6 w' => ∃ (x5_1 : Int) (x6_1 : Int), v5 = .int .i64 x5_1 ∧ v6 = .int .i64 x6_1 ∧ Aside0 (billiardlaw24_within.l0 kq l0 l1 x5_1 x6_1 = some r) ∧ Aside0 (kq ≤ k) ∧ Drawn0 w w')
 case atStart => exact ⟨(0), (0), (by first | rfl | (simp; done) | (simp [*]; done)), (by first | rfl | (simp; done) | (simp [*]; done)), H', ⟨Nat.le_refl _⟩, by repeat (first | exact Drawn0.refl _ | apply Drawn0.step)⟩
 case round =>
  clear H'
  try clear c1
  try clear c2
  try clear p2
  obtain ⟨x5_1, x6_1, rfl, rfl, HA, HK1, ⟨m1, rfl⟩⟩ := hrel
  cases gk with
  | zero => exact absurd HA.out (by simp [billiardlaw24_within.l0])
  | succ k1 =>
   have H := HA.out
   clear HA
   simp only [billiardlaw24_within.l0] at H
   have HC3 := aM H
   clear H
   go_upto_region 3 with (fail)
   repeat (go_quiet (fail); go_upto_region 3 with (fail))
   go_cut [16] (fun v16 wc => ∃ (kq : Nat) (x16_2 : Bool), v16 = .bool x16_2 ∧ Aside0 (billiardlaw24_within.j1 kq l0 l1 x5_1 x6_1 x16_2 = some r) ∧ Aside0 (kq ≤ k1) ∧ Drawn0 w wc)
   case first =>
    have H := HC3.out
    clear HC3
    by_cases c4 : x6_1 < (l1.length : Int)
    ·rw [if_pos c4] at H
     have c4b0 : decide (x6_1 < (l1.length : Int)) = true := decide_eq_true c4
     clear c4
     (first | rw [c4b0] | (simp only [i64_w, i32_w]; rw [c4b0]) | skip)
     have H' := aM H
     clear H
     go_wp2
     repeat (go_quiet (fail); try go_wp2)
     go_meet
     case rel => exact ⟨_, (decide (x5_1 < (l0.length : Int))), (by first | rfl | (simp; done) | (simp [*]; done)), H', ⟨by have := HK1.out; first | omega | exact Nat.le_refl _⟩, by repeat (first | exact Drawn0.refl _ | apply Drawn0.step)⟩
    ·rw [if_neg c4] at H
     have c4b0 : decide (x6_1 < (l1.length : Int)) = false := decide_eq_false c4
     clear c4
     (first | rw [c4b0] | (simp only [i64_w, i32_w]; rw [c4b0]) | skip)
     have H' := aM H
     clear H
     go_wp2
     repeat (go_quiet (fail); try go_wp2)
     go_meet
     case rel => exact ⟨_, (false), (by first | rfl | (simp; done) | (simp [*]; done)), H', ⟨by have := HK1.out; first | omega | exact Nat.le_refl _⟩, by repeat (first | exact Drawn0.refl _ | apply Drawn0.step)⟩
   case rest =>
    clear HC3
    try clear c1
    try clear c2
    try clear p2
    try clear c4
    try clear c4b0
    try clear p2
    obtain ⟨kq, x16_2, rfl, HA, HJ2, ⟨mc2, rfl⟩⟩ := hcut
    cases kq with
    | zero => exact absurd HA.out (by simp [billiardlaw24_within.j1])
    | succ kj2 =>
     have H := HA.out
     clear HA
     simp only [billiardlaw24_within.j1] at H
     by_cases c5 : x16_2 = true
     ·subst c5
      rw [if_pos rfl] at H
      by_cases c6 : 0 ≤ x6_1
      ·rw [if_pos c6] at H
       have c6b0 : decide (0 ≤ x6_1) = true := decide_eq_true c6
       clear c6
       by_cases c7 : x6_1 < (l1.length : Int)
       ·rw [if_pos c7] at H
        have c7b0 : decide (x6_1 < (l1.length : Int)) = true := decide_eq_true c7
        clear c7
        by_cases c8 : 0 ≤ x5_1
        ·rw [if_pos c8] at H
         have c8b0 : decide (0 ≤ x5_1) = true := decide_eq_true c8
         clear c8
         by_cases c9 : x5_1 < (l0.length : Int)
         ·rw [if_pos c9] at H
          have c9b0 : decide (x5_1 < (l0.length : Int)) = true := decide_eq_true c9
          clear c9
          by_cases c10 : (rd l1 x6_1) = (rd l0 x5_1)
          ·rw [if_pos c10] at H
           have c10b0 : ((rd l1 x6_1) == (rd l0 x5_1)) = true := beq_iff_eq.mpr c10
           have c10b1 : ((rd l1 x6_1) != (rd l0 x5_1)) = false := bne_eq_false_iff_eq.mpr c10
           clear c10
           have H' := aM H
           clear H
           have p358 : 0 ≤ (x6_1 : Int) := of_decide_eq_true (by first | (with_reducible assumption) | assumption)
           have q358 : x6_1 < (l1.length : Int) := of_decide_eq_true (by first | (with_reducible assumption) | assumption)
           obtain ⟨ad358, e358, hx358_0⟩ := Kd.at_int HR1.out x6_1 p358 q358
           cases e358
           replace p358 := eq_true p358
           replace q358 := eq_true q358
           have p359 : 0 ≤ (x5_1 : Int) := of_decide_eq_true (by first | (with_reducible assumption) | assumption)
           have q359 : x5_1 < (l0.length : Int) := of_decide_eq_true (by first | (with_reducible assumption) | assumption)
           obtain ⟨ad359, e359, hx359_0⟩ := Kd.at_int HR0.out x5_1 p359 q359
           cases e359
           replace p359 := eq_true p359
           replace q359 := eq_true q359
           go_wp2
           repeat (go_quiet (fail); try go_wp2)
           go_roundg kj2
           case measure => have := HK1.out; have := HJ2.out; omega
           case rel => exact ⟨(wrap64 (x5_1 + 1)), (wrap64 (x6_1 + 1)), (by first | rfl | (simp; done) | (simp [*]; done)), (by first | rfl | (simp; done) | (simp [*]; done)), H', ⟨by have := HK1.out; have := HJ2.out; omega⟩, by repeat (first | exact Drawn0.refl _ | apply Drawn0.step)⟩
          ·rw [if_neg c10] at H
           have c10b0 : ((rd l1 x6_1) == (rd l0 x5_1)) = false := beq_eq_false_iff_ne.mpr c10
           have c10b1 : ((rd l1 x6_1) != (rd l0 x5_1)) = true := bne_iff_ne.mpr c10
           have H' := aM H
           clear H
           have p358 : 0 ≤ (x6_1 : Int) := of_decide_eq_true (by first | (with_reducible assumption) | assumption)
           have q358 : x6_1 < (l1.length : Int) := of_decide_eq_true (by first | (with_reducible assumption) | assumption)
           obtain ⟨ad358, e358, hx358_0⟩ := Kd.at_int HR1.out x6_1 p358 q358
           cases e358
           replace p358 := eq_true p358
           replace q358 := eq_true q358
           have p359 : 0 ≤ (x5_1 : Int) := of_decide_eq_true (by first | (with_reducible assumption) | assumption)
           have q359 : x5_1 < (l0.length : Int) := of_decide_eq_true (by first | (with_reducible assumption) | assumption)
           obtain ⟨ad359, e359, hx359_0⟩ := Kd.at_int HR0.out x5_1 p359 q359
           cases e359
           replace p359 := eq_true p359
           replace q359 := eq_true q359
           go_wp2
           repeat (go_quiet (fail); try go_wp2)
           go_roundg kj2
           case measure => have := HK1.out; have := HJ2.out; omega
           case rel => exact ⟨(x5_1), (wrap64 (x6_1 + 1)), (by first | rfl | (simp; done) | (simp [*]; done)), (by first | rfl | (simp; done) | (simp [*]; done)), H', ⟨by have := HK1.out; have := HJ2.out; omega⟩, by repeat (first | exact Drawn0.refl _ | apply Drawn0.step)⟩
         ·rw [if_neg c9] at H
          exact absurd H (by simp)
        ·rw [if_neg c8] at H
         exact absurd H (by simp)
       ·rw [if_neg c7] at H
        exact absurd H (by simp)
      ·rw [if_neg c6] at H
       exact absurd H (by simp)
     ·replace c5 := Bool.eq_false_iff.mpr c5
      subst c5
      rw [if_neg (show ¬ (false = true) by decide)] at H
      obtain rfl := Option.some.inj H
      go_wp2
      repeat (go_quiet (fail); try go_wp2)
      go_ret
      exact ⟨by first | rfl | (simp; done) | (simp [*]; done), by repeat (first | exact Drawn0.refl _ | apply Drawn0.step)⟩

end Go.Proofs.Ytabcnaceffpekaa.Q
