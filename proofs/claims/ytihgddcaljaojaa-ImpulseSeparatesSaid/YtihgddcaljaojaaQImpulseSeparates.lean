-- PRINTED by print.py (a twelfth state) out of the translation. Not trusted: Lean checks it.
import Derived.Test.YtihgddcaljaojaaQ0
import Derived.Test.YtihgddcaljaojaaQbilliardlaw16
import Derived.Test.YtihgddcaljaojaaQbilliardref16
import Derived.Test.YtihgddcaljaojaaQimpulse
namespace Go.Proofs.Ytihgddcaljaojaa.Q
open Go.RowKit Go.Proofs.YtihgddcaljaojaaW.PrintWords Go.Proofs.YtihgddcaljaojaaW.PrintLast Go.Proofs.YtihgddcaljaojaaW.PrintMore
attribute [local go_sem] max2_int min2_int max_two min_two max_three min_three max_four min_four   -- for this text's walks alone
set_option linter.unusedVariables false
set_option linter.unusedSimpArgs false

/-! ### billiardlaw16_ImpulseSeparates: function 4 -/
mutual
def billiardlaw16_ImpulseSeparates.j0 : Nat → Bool → Int → Int → Int → Int → Int → Int → Int → Int → Int → Int → Int → Int → Int → Int → Int → Int → Int → Int → Int → Int → Int → Int → Int → Int → Int → Option (Bool)
  | 0, _, _, _, _, _, _, _, _, _, _, _, _, _, _, _, _, _, _, _, _, _, _, _, _, _, _ => none
  | k + 1, x20, x172000, x172001, x172002, x172003, x172004, x173000, x173001, x173002, x173003, x173004, x173005, x173006, x173007, x173008, x173009, x174000, x174001, x174002, x174003, x174004, x174005, x174006, x174007, x174008, x174009 => if x20 = true then ((billiardlaw16_awake.f k).bind fun t176 => (some t176)) else ((impulse_Strength.f k x172000 x172001 x172002 x172003 x172004 x173000 x173001 x173002 x173003 x173004 x173005 x173006 x173007 x173008 x173009 x174000 x174001 x174002 x174003 x174004 x174005 x174006 x174007 x174008 x174009).bind fun t177 => (if t177 < 0 then (billiardlaw16_ImpulseSeparates.j1 k t177 true x172000 x172001 x172002 x172003 x172004 x173000 x173001 x173002 x173003 x173004 x173005 x173006 x173007 x173008 x173009 x174000 x174001 x174002 x174003 x174004 x174005 x174006 x174007 x174008 x174009) else (if t177 > 8796093022208 then (billiardlaw16_ImpulseSeparates.j1 k t177 true x172000 x172001 x172002 x172003 x172004 x173000 x173001 x173002 x173003 x173004 x173005 x173006 x173007 x173008 x173009 x174000 x174001 x174002 x174003 x174004 x174005 x174006 x174007 x174008 x174009) else (if t177 > 0 then ((billiardref16_Approach.f x172000 x172001 x172002 x172003 x172004 x173000 x173001 x173002 x173003 x173004 x173005 x173006 x173007 x173008 x173009 x174000 x174001 x174002 x174003 x174004 x174005 x174006 x174007 x174008 x174009).bind fun t178 => (if t178 ≥ 0 then (billiardlaw16_ImpulseSeparates.j1 k t177 true x172000 x172001 x172002 x172003 x172004 x173000 x173001 x173002 x173003 x173004 x173005 x173006 x173007 x173008 x173009 x174000 x174001 x174002 x174003 x174004 x174005 x174006 x174007 x174008 x174009) else (billiardlaw16_ImpulseSeparates.j1 k t177 ((wrap32 (x173004 + x174004)) == 0) x172000 x172001 x172002 x172003 x172004 x173000 x173001 x173002 x173003 x173004 x173005 x173006 x173007 x173008 x173009 x174000 x174001 x174002 x174003 x174004 x174005 x174006 x174007 x174008 x174009))) else (billiardlaw16_ImpulseSeparates.j1 k t177 false x172000 x172001 x172002 x172003 x172004 x173000 x173001 x173002 x173003 x173004 x173005 x173006 x173007 x173008 x173009 x174000 x174001 x174002 x174003 x174004 x174005 x174006 x174007 x174008 x174009)))))
def billiardlaw16_ImpulseSeparates.j1 : Nat → Int → Bool → Int → Int → Int → Int → Int → Int → Int → Int → Int → Int → Int → Int → Int → Int → Int → Int → Int → Int → Int → Int → Int → Int → Int → Int → Int → Option (Bool)
  | 0, _, _, _, _, _, _, _, _, _, _, _, _, _, _, _, _, _, _, _, _, _, _, _, _, _, _, _ => none
  | k + 1, x7, x50, x172000, x172001, x172002, x172003, x172004, x173000, x173001, x173002, x173003, x173004, x173005, x173006, x173007, x173008, x173009, x174000, x174001, x174002, x174003, x174004, x174005, x174006, x174007, x174008, x174009 => if x50 = true then (some false) else ((impulse_Change.f x7 x173004 x172002 x172003).bind fun bt179 => ((impulse_Change.f x7 x174004 x172002 x172003).bind fun bt181 => (if x173004 = 0 then (if bt179.1 = 0 then (if bt179.2 = 0 then (if x174004 = 0 then (if bt181.1 = 0 then (billiardlaw16_ImpulseSeparates.j2 k bt179.1 bt179.2 bt181.1 bt181.2 (bt181.2 != 0)) else (billiardlaw16_ImpulseSeparates.j2 k bt179.1 bt179.2 bt181.1 bt181.2 true)) else (billiardlaw16_ImpulseSeparates.j2 k bt179.1 bt179.2 bt181.1 bt181.2 false)) else (billiardlaw16_ImpulseSeparates.j2 k bt179.1 bt179.2 bt181.1 bt181.2 true)) else (billiardlaw16_ImpulseSeparates.j2 k bt179.1 bt179.2 bt181.1 bt181.2 true)) else (if x174004 = 0 then (if bt181.1 = 0 then (billiardlaw16_ImpulseSeparates.j2 k bt179.1 bt179.2 bt181.1 bt181.2 (bt181.2 != 0)) else (billiardlaw16_ImpulseSeparates.j2 k bt179.1 bt179.2 bt181.1 bt181.2 true)) else (billiardlaw16_ImpulseSeparates.j2 k bt179.1 bt179.2 bt181.1 bt181.2 false)))))
def billiardlaw16_ImpulseSeparates.j2 : Nat → Int → Int → Int → Int → Bool → Option (Bool)
  | 0, _, _, _, _, _ => none
  | k + 1, x8, x9, x10, x11, x92 => if x92 = true then (some false) else ((billiardlaw16_within.f x8).bind fun t183 => (if t183 = true then ((billiardlaw16_within.f x9).bind fun t184 => (if t184 = true then ((billiardlaw16_within.f x10).bind fun t185 => (if t185 = true then ((billiardlaw16_within.f x11).bind fun t186 => (some t186)) else (some false))) else (some false))) else (some false)))
end
def billiardlaw16_ImpulseSeparates.f (k : Nat) (a0_0 : Int) (a0_1 : Int) (a0_2 : Int) (a0_3 : Int) (a0_4 : Int) (a1_0 : Int) (a1_1 : Int) (a1_2 : Int) (a1_3 : Int) (a1_4 : Int) (a1_5 : Int) (a1_6 : Int) (a1_7 : Int) (a1_8 : Int) (a1_9 : Int) (a2_0 : Int) (a2_1 : Int) (a2_2 : Int) (a2_3 : Int) (a2_4 : Int) (a2_5 : Int) (a2_6 : Int) (a2_7 : Int) (a2_8 : Int) (a2_9 : Int) : Option (Bool) := (billiardlaw16_awake.f k).bind fun t174 => (if t174 = true then ((billiardref16_Right.f k a0_0 a0_1 a0_2 a0_3 a0_4 a1_0 a1_1 a1_2 a1_3 a1_4 a1_5 a1_6 a1_7 a1_8 a1_9 a2_0 a2_1 a2_2 a2_3 a2_4 a2_5 a2_6 a2_7 a2_8 a2_9).bind fun t175 => (billiardlaw16_ImpulseSeparates.j0 k (!t175) a0_0 a0_1 a0_2 a0_3 a0_4 a1_0 a1_1 a1_2 a1_3 a1_4 a1_5 a1_6 a1_7 a1_8 a1_9 a2_0 a2_1 a2_2 a2_3 a2_4 a2_5 a2_6 a2_7 a2_8 a2_9)) else (billiardlaw16_ImpulseSeparates.j0 k true a0_0 a0_1 a0_2 a0_3 a0_4 a1_0 a1_1 a1_2 a1_3 a1_4 a1_5 a1_6 a1_7 a1_8 a1_9 a2_0 a2_1 a2_2 a2_3 a2_4 a2_5 a2_6 a2_7 a2_8 a2_9))
theorem billiardlaw16_ImpulseSeparates.mono_l : ∀ k, (∀ y0 y1 y2 y3 y4 y5 y6 y7 y8 y9 y10 y11 y12 y13 y14 y15 y16 y17 y18 y19 y20 y21 y22 y23 y24 y25, LeO (billiardlaw16_ImpulseSeparates.j0 k y0 y1 y2 y3 y4 y5 y6 y7 y8 y9 y10 y11 y12 y13 y14 y15 y16 y17 y18 y19 y20 y21 y22 y23 y24 y25) (billiardlaw16_ImpulseSeparates.j0 (k + 1) y0 y1 y2 y3 y4 y5 y6 y7 y8 y9 y10 y11 y12 y13 y14 y15 y16 y17 y18 y19 y20 y21 y22 y23 y24 y25)) ∧ (∀ y0 y1 y2 y3 y4 y5 y6 y7 y8 y9 y10 y11 y12 y13 y14 y15 y16 y17 y18 y19 y20 y21 y22 y23 y24 y25 y26, LeO (billiardlaw16_ImpulseSeparates.j1 k y0 y1 y2 y3 y4 y5 y6 y7 y8 y9 y10 y11 y12 y13 y14 y15 y16 y17 y18 y19 y20 y21 y22 y23 y24 y25 y26) (billiardlaw16_ImpulseSeparates.j1 (k + 1) y0 y1 y2 y3 y4 y5 y6 y7 y8 y9 y10 y11 y12 y13 y14 y15 y16 y17 y18 y19 y20 y21 y22 y23 y24 y25 y26)) ∧ (∀ y0 y1 y2 y3 y4, LeO (billiardlaw16_ImpulseSeparates.j2 k y0 y1 y2 y3 y4) (billiardlaw16_ImpulseSeparates.j2 (k + 1) y0 y1 y2 y3 y4))
  | 0 => ⟨fun _ _ _ _ _ _ _ _ _ _ _ _ _ _ _ _ _ _ _ _ _ _ _ _ _ _ r h => by simp [billiardlaw16_ImpulseSeparates.j0] at h, fun _ _ _ _ _ _ _ _ _ _ _ _ _ _ _ _ _ _ _ _ _ _ _ _ _ _ _ r h => by simp [billiardlaw16_ImpulseSeparates.j1] at h, fun _ _ _ _ _ r h => by simp [billiardlaw16_ImpulseSeparates.j2] at h⟩
  | k + 1 => by
    obtain ⟨ih0, ih1, ih2⟩ := billiardlaw16_ImpulseSeparates.mono_l k
    refine ⟨?_, ?_, ?_⟩
    · intro y0 y1 y2 y3 y4 y5 y6 y7 y8 y9 y10 y11 y12 y13 y14 y15 y16 y17 y18 y19 y20 y21 y22 y23 y24 y25
      unfold billiardlaw16_ImpulseSeparates.j0
      repeat' first
      | (with_reducible exact ih0 _ _ _ _ _ _ _ _ _ _ _ _ _ _ _ _ _ _ _ _ _ _ _ _ _ _)
      | (with_reducible exact ih1 _ _ _ _ _ _ _ _ _ _ _ _ _ _ _ _ _ _ _ _ _ _ _ _ _ _ _)
      | (with_reducible exact ih2 _ _ _ _ _)
      | (with_reducible exact billiardlaw16_awake.mono _)
      | (with_reducible exact billiardref16_Right.mono _ _ _ _ _ _ _ _ _ _ _ _ _ _ _ _ _ _ _ _ _ _ _ _ _ _)
      | (with_reducible exact impulse_Strength.mono _ _ _ _ _ _ _ _ _ _ _ _ _ _ _ _ _ _ _ _ _ _ _ _ _ _)
      | (with_reducible exact LeO.refl _)
      | (with_reducible exact LeO.none _)
      | (with_reducible refine LeO.ite ?_ ?_)
      | (with_reducible refine LeO.bind ?_ (fun _ => ?_))
      | exact ih0 _ _ _ _ _ _ _ _ _ _ _ _ _ _ _ _ _ _ _ _ _ _ _ _ _ _
      | exact ih1 _ _ _ _ _ _ _ _ _ _ _ _ _ _ _ _ _ _ _ _ _ _ _ _ _ _ _
      | exact ih2 _ _ _ _ _
      | exact billiardlaw16_awake.mono _
      | exact billiardref16_Right.mono _ _ _ _ _ _ _ _ _ _ _ _ _ _ _ _ _ _ _ _ _ _ _ _ _ _
      | exact impulse_Strength.mono _ _ _ _ _ _ _ _ _ _ _ _ _ _ _ _ _ _ _ _ _ _ _ _ _ _
      | exact LeO.none _
      | refine LeO.ite ?_ ?_
      | refine LeO.bind ?_ (fun _ => ?_)
    · intro y0 y1 y2 y3 y4 y5 y6 y7 y8 y9 y10 y11 y12 y13 y14 y15 y16 y17 y18 y19 y20 y21 y22 y23 y24 y25 y26
      unfold billiardlaw16_ImpulseSeparates.j1
      repeat' first
      | (with_reducible exact ih0 _ _ _ _ _ _ _ _ _ _ _ _ _ _ _ _ _ _ _ _ _ _ _ _ _ _)
      | (with_reducible exact ih1 _ _ _ _ _ _ _ _ _ _ _ _ _ _ _ _ _ _ _ _ _ _ _ _ _ _ _)
      | (with_reducible exact ih2 _ _ _ _ _)
      | (with_reducible exact billiardlaw16_awake.mono _)
      | (with_reducible exact billiardref16_Right.mono _ _ _ _ _ _ _ _ _ _ _ _ _ _ _ _ _ _ _ _ _ _ _ _ _ _)
      | (with_reducible exact impulse_Strength.mono _ _ _ _ _ _ _ _ _ _ _ _ _ _ _ _ _ _ _ _ _ _ _ _ _ _)
      | (with_reducible exact LeO.refl _)
      | (with_reducible exact LeO.none _)
      | (with_reducible refine LeO.ite ?_ ?_)
      | (with_reducible refine LeO.bind ?_ (fun _ => ?_))
      | exact ih0 _ _ _ _ _ _ _ _ _ _ _ _ _ _ _ _ _ _ _ _ _ _ _ _ _ _
      | exact ih1 _ _ _ _ _ _ _ _ _ _ _ _ _ _ _ _ _ _ _ _ _ _ _ _ _ _ _
      | exact ih2 _ _ _ _ _
      | exact billiardlaw16_awake.mono _
      | exact billiardref16_Right.mono _ _ _ _ _ _ _ _ _ _ _ _ _ _ _ _ _ _ _ _ _ _ _ _ _ _
      | exact impulse_Strength.mono _ _ _ _ _ _ _ _ _ _ _ _ _ _ _ _ _ _ _ _ _ _ _ _ _ _
      | exact LeO.none _
      | refine LeO.ite ?_ ?_
      | refine LeO.bind ?_ (fun _ => ?_)
    · intro y0 y1 y2 y3 y4
      unfold billiardlaw16_ImpulseSeparates.j2
      repeat' first
      | (with_reducible exact ih0 _ _ _ _ _ _ _ _ _ _ _ _ _ _ _ _ _ _ _ _ _ _ _ _ _ _)
      | (with_reducible exact ih1 _ _ _ _ _ _ _ _ _ _ _ _ _ _ _ _ _ _ _ _ _ _ _ _ _ _ _)
      | (with_reducible exact ih2 _ _ _ _ _)
      | (with_reducible exact billiardlaw16_awake.mono _)
      | (with_reducible exact billiardref16_Right.mono _ _ _ _ _ _ _ _ _ _ _ _ _ _ _ _ _ _ _ _ _ _ _ _ _ _)
      | (with_reducible exact impulse_Strength.mono _ _ _ _ _ _ _ _ _ _ _ _ _ _ _ _ _ _ _ _ _ _ _ _ _ _)
      | (with_reducible exact LeO.refl _)
      | (with_reducible exact LeO.none _)
      | (with_reducible refine LeO.ite ?_ ?_)
      | (with_reducible refine LeO.bind ?_ (fun _ => ?_))
      | exact ih0 _ _ _ _ _ _ _ _ _ _ _ _ _ _ _ _ _ _ _ _ _ _ _ _ _ _
      | exact ih1 _ _ _ _ _ _ _ _ _ _ _ _ _ _ _ _ _ _ _ _ _ _ _ _ _ _ _
      | exact ih2 _ _ _ _ _
      | exact billiardlaw16_awake.mono _
      | exact billiardref16_Right.mono _ _ _ _ _ _ _ _ _ _ _ _ _ _ _ _ _ _ _ _ _ _ _ _ _ _
      | exact impulse_Strength.mono _ _ _ _ _ _ _ _ _ _ _ _ _ _ _ _ _ _ _ _ _ _ _ _ _ _
      | exact LeO.none _
      | refine LeO.ite ?_ ?_
      | refine LeO.bind ?_ (fun _ => ?_)
theorem billiardlaw16_ImpulseSeparates.mono : ∀ a0 a1 a2 a3 a4 a5 a6 a7 a8 a9 a10 a11 a12 a13 a14 a15 a16 a17 a18 a19 a20 a21 a22 a23 a24 k, LeO (billiardlaw16_ImpulseSeparates.f k a0 a1 a2 a3 a4 a5 a6 a7 a8 a9 a10 a11 a12 a13 a14 a15 a16 a17 a18 a19 a20 a21 a22 a23 a24) (billiardlaw16_ImpulseSeparates.f (k + 1) a0 a1 a2 a3 a4 a5 a6 a7 a8 a9 a10 a11 a12 a13 a14 a15 a16 a17 a18 a19 a20 a21 a22 a23 a24) := by
  intro a0 a1 a2 a3 a4 a5 a6 a7 a8 a9 a10 a11 a12 a13 a14 a15 a16 a17 a18 a19 a20 a21 a22 a23 a24 k
  obtain ⟨ih0, ih1, ih2⟩ := billiardlaw16_ImpulseSeparates.mono_l k
  unfold billiardlaw16_ImpulseSeparates.f
  repeat' first
      | (with_reducible exact ih0 _ _ _ _ _ _ _ _ _ _ _ _ _ _ _ _ _ _ _ _ _ _ _ _ _ _)
      | (with_reducible exact ih1 _ _ _ _ _ _ _ _ _ _ _ _ _ _ _ _ _ _ _ _ _ _ _ _ _ _ _)
      | (with_reducible exact ih2 _ _ _ _ _)
      | (with_reducible exact billiardlaw16_awake.mono _)
      | (with_reducible exact billiardref16_Right.mono _ _ _ _ _ _ _ _ _ _ _ _ _ _ _ _ _ _ _ _ _ _ _ _ _ _)
      | (with_reducible exact impulse_Strength.mono _ _ _ _ _ _ _ _ _ _ _ _ _ _ _ _ _ _ _ _ _ _ _ _ _ _)
      | (with_reducible exact LeO.refl _)
      | (with_reducible exact LeO.none _)
      | (with_reducible refine LeO.ite ?_ ?_)
      | (with_reducible refine LeO.bind ?_ (fun _ => ?_))
      | exact ih0 _ _ _ _ _ _ _ _ _ _ _ _ _ _ _ _ _ _ _ _ _ _ _ _ _ _
      | exact ih1 _ _ _ _ _ _ _ _ _ _ _ _ _ _ _ _ _ _ _ _ _ _ _ _ _ _ _
      | exact ih2 _ _ _ _ _
      | exact billiardlaw16_awake.mono _
      | exact billiardref16_Right.mono _ _ _ _ _ _ _ _ _ _ _ _ _ _ _ _ _ _ _ _ _ _ _ _ _ _
      | exact impulse_Strength.mono _ _ _ _ _ _ _ _ _ _ _ _ _ _ _ _ _ _ _ _ _ _ _ _ _ _
      | exact LeO.none _
      | refine LeO.ite ?_ ?_
      | refine LeO.bind ?_ (fun _ => ?_)
set_option maxHeartbeats 8000000 in
set_option maxRecDepth 100000 in
theorem billiardlaw16_ImpulseSeparates.calls (k : Nat) (a0_0 : Int) (a0_1 : Int) (a0_2 : Int) (a0_3 : Int) (a0_4 : Int) (a1_0 : Int) (a1_1 : Int) (a1_2 : Int) (a1_3 : Int) (a1_4 : Int) (a1_5 : Int) (a1_6 : Int) (a1_7 : Int) (a1_8 : Int) (a1_9 : Int) (a2_0 : Int) (a2_1 : Int) (a2_2 : Int) (a2_3 : Int) (a2_4 : Int) (a2_5 : Int) (a2_6 : Int) (a2_7 : Int) (a2_8 : Int) (a2_9 : Int) (r : Bool) (w : World) (h : billiardlaw16_ImpulseSeparates.f k a0_0 a0_1 a0_2 a0_3 a0_4 a1_0 a1_1 a1_2 a1_3 a1_4 a1_5 a1_6 a1_7 a1_8 a1_9 a2_0 a2_1 a2_2 a2_3 a2_4 a2_5 a2_6 a2_7 a2_8 a2_9 = some r) (hr : r = true) :
    Calls Try.prog 4 #[.agg #[.int .u32 a0_0, .int .u32 a0_1, .int .i32 a0_2, .int .i32 a0_3, .int .i32 a0_4], .agg #[.int .u32 a1_0, .int .i32 a1_1, .int .i32 a1_2, .int .i32 a1_3, .int .i32 a1_4, .int .i32 a1_5, .int .i32 a1_6, .int .i32 a1_7, .int .i32 a1_8, .int .i32 a1_9], .agg #[.int .u32 a2_0, .int .i32 a2_1, .int .i32 a2_2, .int .i32 a2_3, .int .i32 a2_4, .int .i32 a2_5, .int .i32 a2_6, .int .i32 a2_7, .int .i32 a2_8, .int .i32 a2_9]] w fun e w' => e = .returned (.bool r) ∧ Below w.heap.size w w' := by
  have HR := Aside0.mk hr
  clear hr
  have hu28 := Try.underlying28
  have hu30 := Try.underlying30
  have hu26 := Try.underlying26
  have HB := Aside0.mk (Below.refl w.heap.size w)
  have H : ((billiardlaw16_awake.f k).bind fun t174 => (if t174 = true then ((billiardref16_Right.f k a0_0 a0_1 a0_2 a0_3 a0_4 a1_0 a1_1 a1_2 a1_3 a1_4 a1_5 a1_6 a1_7 a1_8 a1_9 a2_0 a2_1 a2_2 a2_3 a2_4 a2_5 a2_6 a2_7 a2_8 a2_9).bind fun t175 => (billiardlaw16_ImpulseSeparates.j0 k (!t175) a0_0 a0_1 a0_2 a0_3 a0_4 a1_0 a1_1 a1_2 a1_3 a1_4 a1_5 a1_6 a1_7 a1_8 a1_9 a2_0 a2_1 a2_2 a2_3 a2_4 a2_5 a2_6 a2_7 a2_8 a2_9)) else (billiardlaw16_ImpulseSeparates.j0 k true a0_0 a0_1 a0_2 a0_3 a0_4 a1_0 a1_1 a1_2 a1_3 a1_4 a1_5 a1_6 a1_7 a1_8 a1_9 a2_0 a2_1 a2_2 a2_3 a2_4 a2_5 a2_6 a2_7 a2_8 a2_9))) = some r := h
  clear h
  have HC4 := Aside0.mk H
  clear H
  go_enter Try.func4, Try.ntmps4
  go_upto_region 1 with (first | ((with_reducible refine gate_dst (N := 3) rfl ?_); refine box_event ?hg (N := 3) ?hd (cs := #[.int .u32 a0_0, .int .u32 a0_1, .int .i32 a0_2, .int .i32 a0_3, .int .i32 a0_4]) (t := 28) ?hr ?_; (case hd => rfl); (case hg => rfl); (case hr => first | (go_simp; done) | (go_simp; rfl)); intro gb171 hg w5 hbox hb; have n0_ := Aside0.mk (below_step (by repeat (first | (with_reducible first | exact HB.out | apply below_alloc | apply pw_below_drewN | apply below_drew1) | exact HB.out)) hb); have n1_ := Aside0.mk (hbox); have n2_ := Aside0.mk ((by rw [hg]; exact (below_size (by repeat (first | (with_reducible first | exact HB.out | apply below_alloc | apply pw_below_drewN | apply below_drew1) | exact HB.out))) : w.heap.size ≤ gb171)); have n3_ := Aside0.mk ((by rw [hg]; exact (below_size (by repeat (first | (with_reducible first | exact HB.out | apply below_alloc | apply pw_below_drewN | apply below_drew1) | exact HB.out))) : w.heap.size ≤ gb171)); clear HB; have HB := n0_; have BK171 := n1_; have GW171 := n2_; have GE171 := n3_; clear n0_ n1_ n2_ n3_; clear hb hbox hg) | ((with_reducible refine gate_dst (N := 4) rfl ?_); refine box_event ?hg (N := 4) ?hd (cs := #[.int .u32 a1_0, .int .i32 a1_1, .int .i32 a1_2, .int .i32 a1_3, .int .i32 a1_4, .int .i32 a1_5, .int .i32 a1_6, .int .i32 a1_7, .int .i32 a1_8, .int .i32 a1_9]) (t := 30) ?hr ?_; (case hd => rfl); (case hg => rfl); (case hr => first | (go_simp; done) | (go_simp; rfl)); intro gb172 hg w6 hbox hb; have n0_ := Aside0.mk (blk_below (g := gb171) (o := .cells #[.int .u32 a0_0, .int .u32 a0_1, .int .i32 a0_2, .int .i32 a0_3, .int .i32 a0_4] 28 (0, 0)) (by (with_reducible repeat (first | refine blk_drewN ?_ _ | refine blk_drew ?_ | refine blk_alloc ?_ _)); exact BK171.out) hb); have n1_ := Aside0.mk (below_step (by repeat (first | (with_reducible first | exact HB.out | apply below_alloc | apply pw_below_drewN | apply below_drew1 | refine below_set ?_ GE171.out) | exact HB.out)) hb); have n2_ := Aside0.mk (hbox); have n3_ := Aside0.mk ((by rw [hg]; exact (below_size (by repeat (first | (with_reducible first | exact HB.out | apply below_alloc | apply pw_below_drewN | apply below_drew1 | refine below_set ?_ GE171.out) | exact HB.out))) : w.heap.size ≤ gb172)); have n4_ := Aside0.mk ((by rw [hg]; exact (below_size (by repeat (first | (with_reducible first | exact HB.out | apply below_alloc | apply pw_below_drewN | apply below_drew1 | refine below_set ?_ GE171.out) | exact HB.out))) : w.heap.size ≤ gb172)); have n5_ := Aside0.mk ((by rw [hg]; exact Nat.ne_of_lt (blk_lt (g := gb171) (o := .cells #[.int .u32 a0_0, .int .u32 a0_1, .int .i32 a0_2, .int .i32 a0_3, .int .i32 a0_4] 28 (0, 0)) (by (with_reducible repeat (first | refine blk_drewN ?_ _ | refine blk_drew ?_ | refine blk_alloc ?_ _)); exact BK171.out)) : gb171 ≠ gb172)); have n6_ := Aside0.mk ((by rw [hg]; exact Nat.ne_of_gt (blk_lt (g := gb171) (o := .cells #[.int .u32 a0_0, .int .u32 a0_1, .int .i32 a0_2, .int .i32 a0_3, .int .i32 a0_4] 28 (0, 0)) (by (with_reducible repeat (first | refine blk_drewN ?_ _ | refine blk_drew ?_ | refine blk_alloc ?_ _)); exact BK171.out)) : gb172 ≠ gb171)); clear BK171; clear HB; have BK171 := n0_; have HB := n1_; have BK172 := n2_; have GW172 := n3_; have GE172 := n4_; have NB171_172 := n5_; have NB172_171 := n6_; clear n0_ n1_ n2_ n3_ n4_ n5_ n6_; clear hb hbox hg) | ((with_reducible refine gate_dst (N := 5) rfl ?_); refine box_event ?hg (N := 5) ?hd (cs := #[.int .u32 a2_0, .int .i32 a2_1, .int .i32 a2_2, .int .i32 a2_3, .int .i32 a2_4, .int .i32 a2_5, .int .i32 a2_6, .int .i32 a2_7, .int .i32 a2_8, .int .i32 a2_9]) (t := 30) ?hr ?_; (case hd => rfl); (case hg => rfl); (case hr => first | (go_simp; done) | (go_simp; rfl)); intro gb173 hg w7 hbox hb; have n0_ := Aside0.mk (blk_below (g := gb171) (o := .cells #[.int .u32 a0_0, .int .u32 a0_1, .int .i32 a0_2, .int .i32 a0_3, .int .i32 a0_4] 28 (0, 0)) (by (with_reducible repeat (first | refine blk_drewN ?_ _ | refine blk_drew ?_ | refine blk_alloc ?_ _)); exact BK171.out) hb); have n1_ := Aside0.mk (blk_below (g := gb172) (o := .cells #[.int .u32 a1_0, .int .i32 a1_1, .int .i32 a1_2, .int .i32 a1_3, .int .i32 a1_4, .int .i32 a1_5, .int .i32 a1_6, .int .i32 a1_7, .int .i32 a1_8, .int .i32 a1_9] 30 (0, 0)) (by (with_reducible repeat (first | refine blk_drewN ?_ _ | refine blk_drew ?_ | refine blk_alloc ?_ _)); exact BK172.out) hb); have n2_ := Aside0.mk (below_step (by repeat (first | (with_reducible first | exact HB.out | apply below_alloc | apply pw_below_drewN | apply below_drew1 | refine below_set ?_ GE171.out | refine below_set ?_ GE172.out) | exact HB.out)) hb); have n3_ := Aside0.mk (hbox); have n4_ := Aside0.mk ((by rw [hg]; exact (below_size (by repeat (first | (with_reducible first | exact HB.out | apply below_alloc | apply pw_below_drewN | apply below_drew1 | refine below_set ?_ GE171.out | refine below_set ?_ GE172.out) | exact HB.out))) : w.heap.size ≤ gb173)); have n5_ := Aside0.mk ((by rw [hg]; exact (below_size (by repeat (first | (with_reducible first | exact HB.out | apply below_alloc | apply pw_below_drewN | apply below_drew1 | refine below_set ?_ GE171.out | refine below_set ?_ GE172.out) | exact HB.out))) : w.heap.size ≤ gb173)); have n6_ := Aside0.mk ((by rw [hg]; exact Nat.ne_of_lt (blk_lt (g := gb171) (o := .cells #[.int .u32 a0_0, .int .u32 a0_1, .int .i32 a0_2, .int .i32 a0_3, .int .i32 a0_4] 28 (0, 0)) (by (with_reducible repeat (first | refine blk_drewN ?_ _ | refine blk_drew ?_ | refine blk_alloc ?_ _)); exact BK171.out)) : gb171 ≠ gb173)); have n7_ := Aside0.mk ((by rw [hg]; exact Nat.ne_of_gt (blk_lt (g := gb171) (o := .cells #[.int .u32 a0_0, .int .u32 a0_1, .int .i32 a0_2, .int .i32 a0_3, .int .i32 a0_4] 28 (0, 0)) (by (with_reducible repeat (first | refine blk_drewN ?_ _ | refine blk_drew ?_ | refine blk_alloc ?_ _)); exact BK171.out)) : gb173 ≠ gb171)); have n8_ := Aside0.mk ((by rw [hg]; exact Nat.ne_of_lt (blk_lt (g := gb172) (o := .cells #[.int .u32 a1_0, .int .i32 a1_1, .int .i32 a1_2, .int .i32 a1_3, .int .i32 a1_4, .int .i32 a1_5, .int .i32 a1_6, .int .i32 a1_7, .int .i32 a1_8, .int .i32 a1_9] 30 (0, 0)) (by (with_reducible repeat (first | refine blk_drewN ?_ _ | refine blk_drew ?_ | refine blk_alloc ?_ _)); exact BK172.out)) : gb172 ≠ gb173)); have n9_ := Aside0.mk ((by rw [hg]; exact Nat.ne_of_gt (blk_lt (g := gb172) (o := .cells #[.int .u32 a1_0, .int .i32 a1_1, .int .i32 a1_2, .int .i32 a1_3, .int .i32 a1_4, .int .i32 a1_5, .int .i32 a1_6, .int .i32 a1_7, .int .i32 a1_8, .int .i32 a1_9] 30 (0, 0)) (by (with_reducible repeat (first | refine blk_drewN ?_ _ | refine blk_drew ?_ | refine blk_alloc ?_ _)); exact BK172.out)) : gb173 ≠ gb172)); clear BK171; clear BK172; clear HB; have BK171 := n0_; have BK172 := n1_; have HB := n2_; have BK173 := n3_; have GW173 := n4_; have GE173 := n5_; have NB171_173 := n6_; have NB173_171 := n7_; have NB172_173 := n8_; have NB173_172 := n9_; clear n0_ n1_ n2_ n3_ n4_ n5_ n6_ n7_ n8_ n9_; clear hb hbox hg))
  (try simp only [Act.put, List.setIfInBounds_toArray, List.set_cons_zero, List.set_cons_succ])
  go_cut [20] (fun v20 wc => ∃ (kq : Nat) (x20_3 : Bool), v20 = .bool x20_3 ∧ Aside0 (billiardlaw16_ImpulseSeparates.j0 kq x20_3 a0_0 a0_1 a0_2 a0_3 a0_4 a1_0 a1_1 a1_2 a1_3 a1_4 a1_5 a1_6 a1_7 a1_8 a1_9 a2_0 a2_1 a2_2 a2_3 a2_4 a2_5 a2_6 a2_7 a2_8 a2_9 = some r) ∧ Aside0 (kq ≤ k) ∧ Aside0 (wc.heap[gb171]? = some (.cells #[.int .u32 a0_0, .int .u32 a0_1, .int .i32 a0_2, .int .i32 a0_3, .int .i32 a0_4] 28 (0, 0))) ∧ Aside0 (wc.heap[gb172]? = some (.cells #[.int .u32 a1_0, .int .i32 a1_1, .int .i32 a1_2, .int .i32 a1_3, .int .i32 a1_4, .int .i32 a1_5, .int .i32 a1_6, .int .i32 a1_7, .int .i32 a1_8, .int .i32 a1_9] 30 (0, 0))) ∧ Aside0 (wc.heap[gb173]? = some (.cells #[.int .u32 a2_0, .int .i32 a2_1, .int .i32 a2_2, .int .i32 a2_3, .int .i32 a2_4, .int .i32 a2_5, .int .i32 a2_6, .int .i32 a2_7, .int .i32 a2_8, .int .i32 a2_9] 30 (0, 0))) ∧ Aside0 (Below w.heap.size w wc))
  case first =>
    have H := HC4.out
    clear HC4
    replace H := Option.bind_eq_some_iff.mp H
    obtain ⟨t174, A80, H⟩ := H
    replace H : (if t174 = true then ((billiardref16_Right.f k a0_0 a0_1 a0_2 a0_3 a0_4 a1_0 a1_1 a1_2 a1_3 a1_4 a1_5 a1_6 a1_7 a1_8 a1_9 a2_0 a2_1 a2_2 a2_3 a2_4 a2_5 a2_6 a2_7 a2_8 a2_9).bind fun t175 => (billiardlaw16_ImpulseSeparates.j0 k (!t175) a0_0 a0_1 a0_2 a0_3 a0_4 a1_0 a1_1 a1_2 a1_3 a1_4 a1_5 a1_6 a1_7 a1_8 a1_9 a2_0 a2_1 a2_2 a2_3 a2_4 a2_5 a2_6 a2_7 a2_8 a2_9)) else (billiardlaw16_ImpulseSeparates.j0 k true a0_0 a0_1 a0_2 a0_3 a0_4 a1_0 a1_1 a1_2 a1_3 a1_4 a1_5 a1_6 a1_7 a1_8 a1_9 a2_0 a2_1 a2_2 a2_3 a2_4 a2_5 a2_6 a2_7 a2_8 a2_9)) = some r := H
    have A8 := Aside0.mk A80
    clear A80
    by_cases c9 : t174 = true
    · subst c9
      have H1 : ((billiardref16_Right.f k a0_0 a0_1 a0_2 a0_3 a0_4 a1_0 a1_1 a1_2 a1_3 a1_4 a1_5 a1_6 a1_7 a1_8 a1_9 a2_0 a2_1 a2_2 a2_3 a2_4 a2_5 a2_6 a2_7 a2_8 a2_9).bind fun t175 => (billiardlaw16_ImpulseSeparates.j0 k (!t175) a0_0 a0_1 a0_2 a0_3 a0_4 a1_0 a1_1 a1_2 a1_3 a1_4 a1_5 a1_6 a1_7 a1_8 a1_9 a2_0 a2_1 a2_2 a2_3 a2_4 a2_5 a2_6 a2_7 a2_8 a2_9)) = some r := by rw [if_pos rfl] at H; exact H
      clear H
      have H := H1
      clear H1
      replace H := Option.bind_eq_some_iff.mp H
      obtain ⟨t175, A100, H⟩ := H
      replace H : (billiardlaw16_ImpulseSeparates.j0 k (!t175) a0_0 a0_1 a0_2 a0_3 a0_4 a1_0 a1_1 a1_2 a1_3 a1_4 a1_5 a1_6 a1_7 a1_8 a1_9 a2_0 a2_1 a2_2 a2_3 a2_4 a2_5 a2_6 a2_7 a2_8 a2_9) = some r := H
      have A10 := Aside0.mk A100
      clear A100
      have H' := Aside0.mk H
      clear H
      go_wp2_with (first | ((with_reducible refine gate_callee (f := 8) rfl ?_); refine goesL_ (some 12) rfl rfl Try.func8 (by kernel_rfl) rfl #[] rfl (by (try simp only [List.map_toArray, List.map_cons, List.map_nil]); first | done | rfl | (simp only [List.length_drop, List.length_take]; rfl)) ?_; (with_reducible refine (billiardlaw16_awake.calls k  true _ A8.out).mono ?_); rintro e w11 ⟨rfl, hb⟩; refine ⟨_, rfl, ?_⟩; have n0_ := Aside0.mk (blk_below (g := gb171) (o := .cells #[.int .u32 a0_0, .int .u32 a0_1, .int .i32 a0_2, .int .i32 a0_3, .int .i32 a0_4] 28 (0, 0)) (by (with_reducible repeat (first | refine blk_drewN ?_ _ | refine blk_drew ?_ | refine blk_alloc ?_ _)); exact BK171.out) hb); have n1_ := Aside0.mk (blk_below (g := gb172) (o := .cells #[.int .u32 a1_0, .int .i32 a1_1, .int .i32 a1_2, .int .i32 a1_3, .int .i32 a1_4, .int .i32 a1_5, .int .i32 a1_6, .int .i32 a1_7, .int .i32 a1_8, .int .i32 a1_9] 30 (0, 0)) (by (with_reducible repeat (first | refine blk_drewN ?_ _ | refine blk_drew ?_ | refine blk_alloc ?_ _)); exact BK172.out) hb); have n2_ := Aside0.mk (blk_below (g := gb173) (o := .cells #[.int .u32 a2_0, .int .i32 a2_1, .int .i32 a2_2, .int .i32 a2_3, .int .i32 a2_4, .int .i32 a2_5, .int .i32 a2_6, .int .i32 a2_7, .int .i32 a2_8, .int .i32 a2_9] 30 (0, 0)) (by (with_reducible repeat (first | refine blk_drewN ?_ _ | refine blk_drew ?_ | refine blk_alloc ?_ _)); exact BK173.out) hb); have n3_ := Aside0.mk (below_step (by repeat (first | (with_reducible first | exact HB.out | apply below_alloc | apply pw_below_drewN | apply below_drew1 | refine below_set ?_ GE171.out | refine below_set ?_ GE172.out | refine below_set ?_ GE173.out) | exact HB.out)) hb); clear BK171; clear BK172; clear BK173; clear HB; have BK171 := n0_; have BK172 := n1_; have BK173 := n2_; have HB := n3_; clear n0_ n1_ n2_ n3_; (try clear hb); (try clear hb2); (try clear hk); (try clear hi); have hnb12 := NB171_172.out; have hnc12 := NB172_171.out; have hnb13 := NB171_173.out; have hnc13 := NB173_171.out; have hcz14_0 : w11.cell? ⟨gb171, 0, none⟩ = some (.int .u32 a0_0) := (blk_cell BK171.out 0).trans rfl; have hcz14_1 : w11.cell? ⟨gb171, 1, none⟩ = some (.int .u32 a0_1) := (blk_cell BK171.out 1).trans rfl; have hcz14_2 : w11.cell? ⟨gb171, 2, none⟩ = some (.int .i32 a0_2) := (blk_cell BK171.out 2).trans rfl; have hcz14_3 : w11.cell? ⟨gb171, 3, none⟩ = some (.int .i32 a0_3) := (blk_cell BK171.out 3).trans rfl; have hcz14_4 : w11.cell? ⟨gb171, 4, none⟩ = some (.int .i32 a0_4) := (blk_cell BK171.out 4).trans rfl; have hfz14_0 := blk_frozen BK171.out 0; have hfz14_1 := blk_frozen BK171.out 1; have hfz14_2 := blk_frozen BK171.out 2; have hfz14_3 := blk_frozen BK171.out 3; have hfz14_4 := blk_frozen BK171.out 4; have hnb15 := NB172_173.out; have hnc15 := NB173_172.out; have hcz16_0 : w11.cell? ⟨gb172, 0, none⟩ = some (.int .u32 a1_0) := (blk_cell BK172.out 0).trans rfl; have hcz16_1 : w11.cell? ⟨gb172, 1, none⟩ = some (.int .i32 a1_1) := (blk_cell BK172.out 1).trans rfl; have hcz16_2 : w11.cell? ⟨gb172, 2, none⟩ = some (.int .i32 a1_2) := (blk_cell BK172.out 2).trans rfl; have hcz16_3 : w11.cell? ⟨gb172, 3, none⟩ = some (.int .i32 a1_3) := (blk_cell BK172.out 3).trans rfl; have hcz16_4 : w11.cell? ⟨gb172, 4, none⟩ = some (.int .i32 a1_4) := (blk_cell BK172.out 4).trans rfl; have hcz16_5 : w11.cell? ⟨gb172, 5, none⟩ = some (.int .i32 a1_5) := (blk_cell BK172.out 5).trans rfl; have hcz16_6 : w11.cell? ⟨gb172, 6, none⟩ = some (.int .i32 a1_6) := (blk_cell BK172.out 6).trans rfl; have hcz16_7 : w11.cell? ⟨gb172, 7, none⟩ = some (.int .i32 a1_7) := (blk_cell BK172.out 7).trans rfl; have hcz16_8 : w11.cell? ⟨gb172, 8, none⟩ = some (.int .i32 a1_8) := (blk_cell BK172.out 8).trans rfl; have hcz16_9 : w11.cell? ⟨gb172, 9, none⟩ = some (.int .i32 a1_9) := (blk_cell BK172.out 9).trans rfl; have hfz16_0 := blk_frozen BK172.out 0; have hfz16_1 := blk_frozen BK172.out 1; have hfz16_2 := blk_frozen BK172.out 2; have hfz16_3 := blk_frozen BK172.out 3; have hfz16_4 := blk_frozen BK172.out 4; have hfz16_5 := blk_frozen BK172.out 5; have hfz16_6 := blk_frozen BK172.out 6; have hfz16_7 := blk_frozen BK172.out 7; have hfz16_8 := blk_frozen BK172.out 8; have hfz16_9 := blk_frozen BK172.out 9; have hcz17_0 : w11.cell? ⟨gb173, 0, none⟩ = some (.int .u32 a2_0) := (blk_cell BK173.out 0).trans rfl; have hcz17_1 : w11.cell? ⟨gb173, 1, none⟩ = some (.int .i32 a2_1) := (blk_cell BK173.out 1).trans rfl; have hcz17_2 : w11.cell? ⟨gb173, 2, none⟩ = some (.int .i32 a2_2) := (blk_cell BK173.out 2).trans rfl; have hcz17_3 : w11.cell? ⟨gb173, 3, none⟩ = some (.int .i32 a2_3) := (blk_cell BK173.out 3).trans rfl; have hcz17_4 : w11.cell? ⟨gb173, 4, none⟩ = some (.int .i32 a2_4) := (blk_cell BK173.out 4).trans rfl; have hcz17_5 : w11.cell? ⟨gb173, 5, none⟩ = some (.int .i32 a2_5) := (blk_cell BK173.out 5).trans rfl; have hcz17_6 : w11.cell? ⟨gb173, 6, none⟩ = some (.int .i32 a2_6) := (blk_cell BK173.out 6).trans rfl; have hcz17_7 : w11.cell? ⟨gb173, 7, none⟩ = some (.int .i32 a2_7) := (blk_cell BK173.out 7).trans rfl; have hcz17_8 : w11.cell? ⟨gb173, 8, none⟩ = some (.int .i32 a2_8) := (blk_cell BK173.out 8).trans rfl; have hcz17_9 : w11.cell? ⟨gb173, 9, none⟩ = some (.int .i32 a2_9) := (blk_cell BK173.out 9).trans rfl; have hfz17_0 := blk_frozen BK173.out 0; have hfz17_1 := blk_frozen BK173.out 1; have hfz17_2 := blk_frozen BK173.out 2; have hfz17_3 := blk_frozen BK173.out 3; have hfz17_4 := blk_frozen BK173.out 4; have hfz17_5 := blk_frozen BK173.out 5; have hfz17_6 := blk_frozen BK173.out 6; have hfz17_7 := blk_frozen BK173.out 7; have hfz17_8 := blk_frozen BK173.out 8; have hfz17_9 := blk_frozen BK173.out 9) | (go_at_call 9; (with_reducible refine (billiardref16_Right.calls k a0_0 a0_1 a0_2 a0_3 a0_4 a1_0 a1_1 a1_2 a1_3 a1_4 a1_5 a1_6 a1_7 a1_8 a1_9 a2_0 a2_1 a2_2 a2_3 a2_4 a2_5 a2_6 a2_7 a2_8 a2_9 t175 _ A10.out).mono ?_); rintro e w18 ⟨rfl, hb⟩; have n0_ := Aside0.mk (blk_below (g := gb171) (o := .cells #[.int .u32 a0_0, .int .u32 a0_1, .int .i32 a0_2, .int .i32 a0_3, .int .i32 a0_4] 28 (0, 0)) (by (with_reducible repeat (first | refine blk_drewN ?_ _ | refine blk_drew ?_ | refine blk_alloc ?_ _)); exact BK171.out) hb); have n1_ := Aside0.mk (blk_below (g := gb172) (o := .cells #[.int .u32 a1_0, .int .i32 a1_1, .int .i32 a1_2, .int .i32 a1_3, .int .i32 a1_4, .int .i32 a1_5, .int .i32 a1_6, .int .i32 a1_7, .int .i32 a1_8, .int .i32 a1_9] 30 (0, 0)) (by (with_reducible repeat (first | refine blk_drewN ?_ _ | refine blk_drew ?_ | refine blk_alloc ?_ _)); exact BK172.out) hb); have n2_ := Aside0.mk (blk_below (g := gb173) (o := .cells #[.int .u32 a2_0, .int .i32 a2_1, .int .i32 a2_2, .int .i32 a2_3, .int .i32 a2_4, .int .i32 a2_5, .int .i32 a2_6, .int .i32 a2_7, .int .i32 a2_8, .int .i32 a2_9] 30 (0, 0)) (by (with_reducible repeat (first | refine blk_drewN ?_ _ | refine blk_drew ?_ | refine blk_alloc ?_ _)); exact BK173.out) hb); have n3_ := Aside0.mk (below_step (by repeat (first | (with_reducible first | exact HB.out | apply below_alloc | apply pw_below_drewN | apply below_drew1 | refine below_set ?_ GE171.out | refine below_set ?_ GE172.out | refine below_set ?_ GE173.out) | exact HB.out)) hb); clear BK171; clear BK172; clear BK173; clear HB; have BK171 := n0_; have BK172 := n1_; have BK173 := n2_; have HB := n3_; clear n0_ n1_ n2_ n3_; (try clear hb); (try clear hb2); (try clear hk); (try clear hi)))
      go_meet
      case rel => exact ⟨_, (!t175), (by first | rfl | (simp; done) | (simp [*]; done)), H', ⟨by first | omega | exact Nat.le_refl _⟩, ⟨by (with_reducible repeat (first | refine blk_drewN ?_ _ | refine blk_drew ?_ | refine blk_alloc ?_ _)); exact BK171.out⟩, ⟨by (with_reducible repeat (first | refine blk_drewN ?_ _ | refine blk_drew ?_ | refine blk_alloc ?_ _)); exact BK172.out⟩, ⟨by (with_reducible repeat (first | refine blk_drewN ?_ _ | refine blk_drew ?_ | refine blk_alloc ?_ _)); exact BK173.out⟩, ⟨by repeat (first | (with_reducible first | exact HB.out | apply below_alloc | apply pw_below_drewN | apply below_drew1 | refine below_set ?_ GE171.out | refine below_set ?_ GE172.out | refine below_set ?_ GE173.out) | exact HB.out)⟩⟩
    · replace c9 := Bool.eq_false_iff.mpr c9
      subst c9
      exact absurd (billiardlaw16_awake.only A8.out) (by decide)
  case rest =>
    clear HC4
    try clear c1
    try clear p2
    try clear c4
    try clear c8
    try clear c9
    try clear c12
    try clear c13
    try clear c15
    try clear hcz14_0
    try clear hcz14_1
    try clear hcz14_2
    try clear hcz14_3
    try clear hcz14_4
    try clear hcz16_0
    try clear hcz16_1
    try clear hcz16_2
    try clear hcz16_3
    try clear hcz16_4
    try clear hcz16_5
    try clear hcz16_6
    try clear hcz16_7
    try clear hcz16_8
    try clear hcz16_9
    try clear hcz17_0
    try clear hcz17_1
    try clear hcz17_2
    try clear hcz17_3
    try clear hcz17_4
    try clear hcz17_5
    try clear hcz17_6
    try clear hcz17_7
    try clear hcz17_8
    try clear hcz17_9
    try clear hfz14_0
    try clear hfz14_1
    try clear hfz14_2
    try clear hfz14_3
    try clear hfz14_4
    try clear hfz16_0
    try clear hfz16_1
    try clear hfz16_2
    try clear hfz16_3
    try clear hfz16_4
    try clear hfz16_5
    try clear hfz16_6
    try clear hfz16_7
    try clear hfz16_8
    try clear hfz16_9
    try clear hfz17_0
    try clear hfz17_1
    try clear hfz17_2
    try clear hfz17_3
    try clear hfz17_4
    try clear hfz17_5
    try clear hfz17_6
    try clear hfz17_7
    try clear hfz17_8
    try clear hfz17_9
    obtain ⟨kq, x20_3, rfl, HA, HJ3, BK171, BK172, BK173, HB⟩ := hcut
    cases kq with
    | zero => exact absurd HA.out (by simp [billiardlaw16_ImpulseSeparates.j0])
    | succ kj3 =>
      have H := HA.out
      clear HA
      simp only [billiardlaw16_ImpulseSeparates.j0] at H
      by_cases c19 : x20_3 = true
      · subst c19
        have H1 : ((billiardlaw16_awake.f kj3).bind fun t176 => (some t176)) = some r := by rw [if_pos rfl] at H; exact H
        clear H
        have H := H1
        clear H1
        replace H := Option.bind_eq_some_iff.mp H
        obtain ⟨t176, A200, H⟩ := H
        replace H : (some t176) = some r := H
        have A20 := Aside0.mk A200
        clear A200
        obtain rfl := Option.some.inj H
        go_wp2_with (first | ((with_reducible refine gate_callee (f := 8) rfl ?_); refine goesL_ (some 21) rfl rfl Try.func8 (by kernel_rfl) rfl #[] rfl (by (try simp only [List.map_toArray, List.map_cons, List.map_nil]); first | done | rfl | (simp only [List.length_drop, List.length_take]; rfl)) ?_; (with_reducible refine (billiardlaw16_awake.calls kj3  t176 _ A20.out).mono ?_); rintro e w21 ⟨rfl, hb⟩; refine ⟨_, rfl, ?_⟩; have n0_ := Aside0.mk (blk_below (g := gb171) (o := .cells #[.int .u32 a0_0, .int .u32 a0_1, .int .i32 a0_2, .int .i32 a0_3, .int .i32 a0_4] 28 (0, 0)) (by (with_reducible repeat (first | refine blk_drewN ?_ _ | refine blk_drew ?_ | refine blk_alloc ?_ _)); exact BK171.out) hb); have n1_ := Aside0.mk (blk_below (g := gb172) (o := .cells #[.int .u32 a1_0, .int .i32 a1_1, .int .i32 a1_2, .int .i32 a1_3, .int .i32 a1_4, .int .i32 a1_5, .int .i32 a1_6, .int .i32 a1_7, .int .i32 a1_8, .int .i32 a1_9] 30 (0, 0)) (by (with_reducible repeat (first | refine blk_drewN ?_ _ | refine blk_drew ?_ | refine blk_alloc ?_ _)); exact BK172.out) hb); have n2_ := Aside0.mk (blk_below (g := gb173) (o := .cells #[.int .u32 a2_0, .int .i32 a2_1, .int .i32 a2_2, .int .i32 a2_3, .int .i32 a2_4, .int .i32 a2_5, .int .i32 a2_6, .int .i32 a2_7, .int .i32 a2_8, .int .i32 a2_9] 30 (0, 0)) (by (with_reducible repeat (first | refine blk_drewN ?_ _ | refine blk_drew ?_ | refine blk_alloc ?_ _)); exact BK173.out) hb); have n3_ := Aside0.mk (below_step (by repeat (first | (with_reducible first | exact HB.out | apply below_alloc | apply pw_below_drewN | apply below_drew1 | refine below_set ?_ GE171.out | refine below_set ?_ GE172.out | refine below_set ?_ GE173.out) | exact HB.out)) hb); clear BK171; clear BK172; clear BK173; clear HB; have BK171 := n0_; have BK172 := n1_; have BK173 := n2_; have HB := n3_; clear n0_ n1_ n2_ n3_; (try clear hb); (try clear hb2); (try clear hk); (try clear hi)))
        go_ret
        exact ⟨by first | rfl | (simp [errW_none, errW_some] <;> rfl) | (simp [*, errW_none, errW_some] <;> rfl), by repeat (first | (with_reducible first | exact HB.out | apply below_alloc | apply pw_below_drewN | apply below_drew1 | refine below_set ?_ GE171.out | refine below_set ?_ GE172.out | refine below_set ?_ GE173.out) | exact HB.out)⟩
      · replace c19 := Bool.eq_false_iff.mpr c19
        subst c19
        have H1 : ((impulse_Strength.f kj3 a0_0 a0_1 a0_2 a0_3 a0_4 a1_0 a1_1 a1_2 a1_3 a1_4 a1_5 a1_6 a1_7 a1_8 a1_9 a2_0 a2_1 a2_2 a2_3 a2_4 a2_5 a2_6 a2_7 a2_8 a2_9).bind fun t177 => (if t177 < 0 then (billiardlaw16_ImpulseSeparates.j1 kj3 t177 true a0_0 a0_1 a0_2 a0_3 a0_4 a1_0 a1_1 a1_2 a1_3 a1_4 a1_5 a1_6 a1_7 a1_8 a1_9 a2_0 a2_1 a2_2 a2_3 a2_4 a2_5 a2_6 a2_7 a2_8 a2_9) else (if t177 > 8796093022208 then (billiardlaw16_ImpulseSeparates.j1 kj3 t177 true a0_0 a0_1 a0_2 a0_3 a0_4 a1_0 a1_1 a1_2 a1_3 a1_4 a1_5 a1_6 a1_7 a1_8 a1_9 a2_0 a2_1 a2_2 a2_3 a2_4 a2_5 a2_6 a2_7 a2_8 a2_9) else (if t177 > 0 then ((billiardref16_Approach.f a0_0 a0_1 a0_2 a0_3 a0_4 a1_0 a1_1 a1_2 a1_3 a1_4 a1_5 a1_6 a1_7 a1_8 a1_9 a2_0 a2_1 a2_2 a2_3 a2_4 a2_5 a2_6 a2_7 a2_8 a2_9).bind fun t178 => (if t178 ≥ 0 then (billiardlaw16_ImpulseSeparates.j1 kj3 t177 true a0_0 a0_1 a0_2 a0_3 a0_4 a1_0 a1_1 a1_2 a1_3 a1_4 a1_5 a1_6 a1_7 a1_8 a1_9 a2_0 a2_1 a2_2 a2_3 a2_4 a2_5 a2_6 a2_7 a2_8 a2_9) else (billiardlaw16_ImpulseSeparates.j1 kj3 t177 ((wrap32 (a1_4 + a2_4)) == 0) a0_0 a0_1 a0_2 a0_3 a0_4 a1_0 a1_1 a1_2 a1_3 a1_4 a1_5 a1_6 a1_7 a1_8 a1_9 a2_0 a2_1 a2_2 a2_3 a2_4 a2_5 a2_6 a2_7 a2_8 a2_9))) else (billiardlaw16_ImpulseSeparates.j1 kj3 t177 false a0_0 a0_1 a0_2 a0_3 a0_4 a1_0 a1_1 a1_2 a1_3 a1_4 a1_5 a1_6 a1_7 a1_8 a1_9 a2_0 a2_1 a2_2 a2_3 a2_4 a2_5 a2_6 a2_7 a2_8 a2_9))))) = some r := by rw [if_neg (show ¬ (false = true) by decide)] at H; exact H
        clear H
        have H := H1
        clear H1
        replace H := Option.bind_eq_some_iff.mp H
        obtain ⟨t177, A220, H⟩ := H
        replace H : (if t177 < 0 then (billiardlaw16_ImpulseSeparates.j1 kj3 t177 true a0_0 a0_1 a0_2 a0_3 a0_4 a1_0 a1_1 a1_2 a1_3 a1_4 a1_5 a1_6 a1_7 a1_8 a1_9 a2_0 a2_1 a2_2 a2_3 a2_4 a2_5 a2_6 a2_7 a2_8 a2_9) else (if t177 > 8796093022208 then (billiardlaw16_ImpulseSeparates.j1 kj3 t177 true a0_0 a0_1 a0_2 a0_3 a0_4 a1_0 a1_1 a1_2 a1_3 a1_4 a1_5 a1_6 a1_7 a1_8 a1_9 a2_0 a2_1 a2_2 a2_3 a2_4 a2_5 a2_6 a2_7 a2_8 a2_9) else (if t177 > 0 then ((billiardref16_Approach.f a0_0 a0_1 a0_2 a0_3 a0_4 a1_0 a1_1 a1_2 a1_3 a1_4 a1_5 a1_6 a1_7 a1_8 a1_9 a2_0 a2_1 a2_2 a2_3 a2_4 a2_5 a2_6 a2_7 a2_8 a2_9).bind fun t178 => (if t178 ≥ 0 then (billiardlaw16_ImpulseSeparates.j1 kj3 t177 true a0_0 a0_1 a0_2 a0_3 a0_4 a1_0 a1_1 a1_2 a1_3 a1_4 a1_5 a1_6 a1_7 a1_8 a1_9 a2_0 a2_1 a2_2 a2_3 a2_4 a2_5 a2_6 a2_7 a2_8 a2_9) else (billiardlaw16_ImpulseSeparates.j1 kj3 t177 ((wrap32 (a1_4 + a2_4)) == 0) a0_0 a0_1 a0_2 a0_3 a0_4 a1_0 a1_1 a1_2 a1_3 a1_4 a1_5 a1_6 a1_7 a1_8 a1_9 a2_0 a2_1 a2_2 a2_3 a2_4 a2_5 a2_6 a2_7 a2_8 a2_9))) else (billiardlaw16_ImpulseSeparates.j1 kj3 t177 false a0_0 a0_1 a0_2 a0_3 a0_4 a1_0 a1_1 a1_2 a1_3 a1_4 a1_5 a1_6 a1_7 a1_8 a1_9 a2_0 a2_1 a2_2 a2_3 a2_4 a2_5 a2_6 a2_7 a2_8 a2_9)))) = some r := H
        have A22 := Aside0.mk A220
        clear A220
        have HC23 := Aside0.mk H
        clear H
        have hnb24 := NB171_172.out
        have hnc24 := NB172_171.out
        have hnb25 := NB171_173.out
        have hnc25 := NB173_171.out
        have hcz26_0 : wc.cell? ⟨gb171, 0, none⟩ = some (.int .u32 a0_0) := (blk_cell BK171.out 0).trans rfl
        have hcz26_1 : wc.cell? ⟨gb171, 1, none⟩ = some (.int .u32 a0_1) := (blk_cell BK171.out 1).trans rfl
        have hcz26_2 : wc.cell? ⟨gb171, 2, none⟩ = some (.int .i32 a0_2) := (blk_cell BK171.out 2).trans rfl
        have hcz26_3 : wc.cell? ⟨gb171, 3, none⟩ = some (.int .i32 a0_3) := (blk_cell BK171.out 3).trans rfl
        have hcz26_4 : wc.cell? ⟨gb171, 4, none⟩ = some (.int .i32 a0_4) := (blk_cell BK171.out 4).trans rfl
        have hfz26_0 := blk_frozen BK171.out 0
        have hfz26_1 := blk_frozen BK171.out 1
        have hfz26_2 := blk_frozen BK171.out 2
        have hfz26_3 := blk_frozen BK171.out 3
        have hfz26_4 := blk_frozen BK171.out 4
        have hnb27 := NB172_173.out
        have hnc27 := NB173_172.out
        have hcz28_0 : wc.cell? ⟨gb172, 0, none⟩ = some (.int .u32 a1_0) := (blk_cell BK172.out 0).trans rfl
        have hcz28_1 : wc.cell? ⟨gb172, 1, none⟩ = some (.int .i32 a1_1) := (blk_cell BK172.out 1).trans rfl
        have hcz28_2 : wc.cell? ⟨gb172, 2, none⟩ = some (.int .i32 a1_2) := (blk_cell BK172.out 2).trans rfl
        have hcz28_3 : wc.cell? ⟨gb172, 3, none⟩ = some (.int .i32 a1_3) := (blk_cell BK172.out 3).trans rfl
        have hcz28_4 : wc.cell? ⟨gb172, 4, none⟩ = some (.int .i32 a1_4) := (blk_cell BK172.out 4).trans rfl
        have hcz28_5 : wc.cell? ⟨gb172, 5, none⟩ = some (.int .i32 a1_5) := (blk_cell BK172.out 5).trans rfl
        have hcz28_6 : wc.cell? ⟨gb172, 6, none⟩ = some (.int .i32 a1_6) := (blk_cell BK172.out 6).trans rfl
        have hcz28_7 : wc.cell? ⟨gb172, 7, none⟩ = some (.int .i32 a1_7) := (blk_cell BK172.out 7).trans rfl
        have hcz28_8 : wc.cell? ⟨gb172, 8, none⟩ = some (.int .i32 a1_8) := (blk_cell BK172.out 8).trans rfl
        have hcz28_9 : wc.cell? ⟨gb172, 9, none⟩ = some (.int .i32 a1_9) := (blk_cell BK172.out 9).trans rfl
        have hfz28_0 := blk_frozen BK172.out 0
        have hfz28_1 := blk_frozen BK172.out 1
        have hfz28_2 := blk_frozen BK172.out 2
        have hfz28_3 := blk_frozen BK172.out 3
        have hfz28_4 := blk_frozen BK172.out 4
        have hfz28_5 := blk_frozen BK172.out 5
        have hfz28_6 := blk_frozen BK172.out 6
        have hfz28_7 := blk_frozen BK172.out 7
        have hfz28_8 := blk_frozen BK172.out 8
        have hfz28_9 := blk_frozen BK172.out 9
        have hcz29_0 : wc.cell? ⟨gb173, 0, none⟩ = some (.int .u32 a2_0) := (blk_cell BK173.out 0).trans rfl
        have hcz29_1 : wc.cell? ⟨gb173, 1, none⟩ = some (.int .i32 a2_1) := (blk_cell BK173.out 1).trans rfl
        have hcz29_2 : wc.cell? ⟨gb173, 2, none⟩ = some (.int .i32 a2_2) := (blk_cell BK173.out 2).trans rfl
        have hcz29_3 : wc.cell? ⟨gb173, 3, none⟩ = some (.int .i32 a2_3) := (blk_cell BK173.out 3).trans rfl
        have hcz29_4 : wc.cell? ⟨gb173, 4, none⟩ = some (.int .i32 a2_4) := (blk_cell BK173.out 4).trans rfl
        have hcz29_5 : wc.cell? ⟨gb173, 5, none⟩ = some (.int .i32 a2_5) := (blk_cell BK173.out 5).trans rfl
        have hcz29_6 : wc.cell? ⟨gb173, 6, none⟩ = some (.int .i32 a2_6) := (blk_cell BK173.out 6).trans rfl
        have hcz29_7 : wc.cell? ⟨gb173, 7, none⟩ = some (.int .i32 a2_7) := (blk_cell BK173.out 7).trans rfl
        have hcz29_8 : wc.cell? ⟨gb173, 8, none⟩ = some (.int .i32 a2_8) := (blk_cell BK173.out 8).trans rfl
        have hcz29_9 : wc.cell? ⟨gb173, 9, none⟩ = some (.int .i32 a2_9) := (blk_cell BK173.out 9).trans rfl
        have hfz29_0 := blk_frozen BK173.out 0
        have hfz29_1 := blk_frozen BK173.out 1
        have hfz29_2 := blk_frozen BK173.out 2
        have hfz29_3 := blk_frozen BK173.out 3
        have hfz29_4 := blk_frozen BK173.out 4
        have hfz29_5 := blk_frozen BK173.out 5
        have hfz29_6 := blk_frozen BK173.out 6
        have hfz29_7 := blk_frozen BK173.out 7
        have hfz29_8 := blk_frozen BK173.out 8
        have hfz29_9 := blk_frozen BK173.out 9
        go_upto_region 4 with (first | ((with_reducible refine gate_callee (f := 13) rfl ?_); refine goesL_ (some 25) rfl rfl Try.func13 (by kernel_rfl) rfl #[.agg #[.int .u32 a0_0, .int .u32 a0_1, .int .i32 a0_2, .int .i32 a0_3, .int .i32 a0_4], .agg #[.int .u32 a1_0, .int .i32 a1_1, .int .i32 a1_2, .int .i32 a1_3, .int .i32 a1_4, .int .i32 a1_5, .int .i32 a1_6, .int .i32 a1_7, .int .i32 a1_8, .int .i32 a1_9], .agg #[.int .u32 a2_0, .int .i32 a2_1, .int .i32 a2_2, .int .i32 a2_3, .int .i32 a2_4, .int .i32 a2_5, .int .i32 a2_6, .int .i32 a2_7, .int .i32 a2_8, .int .i32 a2_9]] rfl (by (try simp only [List.map_toArray, List.map_cons, List.map_nil]); first | done | rfl | (simp only [List.length_drop, List.length_take]; rfl)) ?_; (with_reducible refine (impulse_Strength.calls kj3 a0_0 a0_1 a0_2 a0_3 a0_4 a1_0 a1_1 a1_2 a1_3 a1_4 a1_5 a1_6 a1_7 a1_8 a1_9 a2_0 a2_1 a2_2 a2_3 a2_4 a2_5 a2_6 a2_7 a2_8 a2_9 t177 _ A22.out).mono ?_); rintro e w30 ⟨rfl, hb⟩; refine ⟨_, rfl, ?_⟩; have n0_ := Aside0.mk (blk_below (g := gb171) (o := .cells #[.int .u32 a0_0, .int .u32 a0_1, .int .i32 a0_2, .int .i32 a0_3, .int .i32 a0_4] 28 (0, 0)) (by (with_reducible repeat (first | refine blk_drewN ?_ _ | refine blk_drew ?_ | refine blk_alloc ?_ _)); exact BK171.out) hb); have n1_ := Aside0.mk (blk_below (g := gb172) (o := .cells #[.int .u32 a1_0, .int .i32 a1_1, .int .i32 a1_2, .int .i32 a1_3, .int .i32 a1_4, .int .i32 a1_5, .int .i32 a1_6, .int .i32 a1_7, .int .i32 a1_8, .int .i32 a1_9] 30 (0, 0)) (by (with_reducible repeat (first | refine blk_drewN ?_ _ | refine blk_drew ?_ | refine blk_alloc ?_ _)); exact BK172.out) hb); have n2_ := Aside0.mk (blk_below (g := gb173) (o := .cells #[.int .u32 a2_0, .int .i32 a2_1, .int .i32 a2_2, .int .i32 a2_3, .int .i32 a2_4, .int .i32 a2_5, .int .i32 a2_6, .int .i32 a2_7, .int .i32 a2_8, .int .i32 a2_9] 30 (0, 0)) (by (with_reducible repeat (first | refine blk_drewN ?_ _ | refine blk_drew ?_ | refine blk_alloc ?_ _)); exact BK173.out) hb); have n3_ := Aside0.mk (below_step (by repeat (first | (with_reducible first | exact HB.out | apply below_alloc | apply pw_below_drewN | apply below_drew1 | refine below_set ?_ GE171.out | refine below_set ?_ GE172.out | refine below_set ?_ GE173.out) | exact HB.out)) hb); clear BK171; clear BK172; clear BK173; clear HB; have BK171 := n0_; have BK172 := n1_; have BK173 := n2_; have HB := n3_; clear n0_ n1_ n2_ n3_; (try clear hb); (try clear hb2); (try clear hk); (try clear hi)))
        (try simp only [Act.put, List.setIfInBounds_toArray, List.set_cons_zero, List.set_cons_succ])
        go_cut [50] (fun v50 wc => ∃ (kq : Nat) (x50_22 : Bool), v50 = .bool x50_22 ∧ Aside0 (billiardlaw16_ImpulseSeparates.j1 kq t177 x50_22 a0_0 a0_1 a0_2 a0_3 a0_4 a1_0 a1_1 a1_2 a1_3 a1_4 a1_5 a1_6 a1_7 a1_8 a1_9 a2_0 a2_1 a2_2 a2_3 a2_4 a2_5 a2_6 a2_7 a2_8 a2_9 = some r) ∧ Aside0 (kq ≤ kj3) ∧ Aside0 (wc.heap[gb171]? = some (.cells #[.int .u32 a0_0, .int .u32 a0_1, .int .i32 a0_2, .int .i32 a0_3, .int .i32 a0_4] 28 (0, 0))) ∧ Aside0 (wc.heap[gb172]? = some (.cells #[.int .u32 a1_0, .int .i32 a1_1, .int .i32 a1_2, .int .i32 a1_3, .int .i32 a1_4, .int .i32 a1_5, .int .i32 a1_6, .int .i32 a1_7, .int .i32 a1_8, .int .i32 a1_9] 30 (0, 0))) ∧ Aside0 (wc.heap[gb173]? = some (.cells #[.int .u32 a2_0, .int .i32 a2_1, .int .i32 a2_2, .int .i32 a2_3, .int .i32 a2_4, .int .i32 a2_5, .int .i32 a2_6, .int .i32 a2_7, .int .i32 a2_8, .int .i32 a2_9] 30 (0, 0))) ∧ Aside0 (Below w.heap.size w wc))
        case first =>
          have H := HC23.out
          clear HC23
          by_cases c31 : t177 < 0
          · rw [if_pos c31] at H
            have c31b0 : decide (t177 < 0) = true := decide_eq_true c31
            clear c31
            (first | rw [c31b0] | (simp only [i64_w, i32_w]; rw [c31b0]) | skip)
            have H' := Aside0.mk H
            clear H
            go_wp2
            go_meet
            case rel => exact ⟨_, (true), (by first | rfl | (simp; done) | (simp [*]; done)), H', ⟨by have := HJ3.out; first | omega | exact Nat.le_refl _⟩, ⟨by (with_reducible repeat (first | refine blk_drewN ?_ _ | refine blk_drew ?_ | refine blk_alloc ?_ _)); exact BK171.out⟩, ⟨by (with_reducible repeat (first | refine blk_drewN ?_ _ | refine blk_drew ?_ | refine blk_alloc ?_ _)); exact BK172.out⟩, ⟨by (with_reducible repeat (first | refine blk_drewN ?_ _ | refine blk_drew ?_ | refine blk_alloc ?_ _)); exact BK173.out⟩, ⟨by repeat (first | (with_reducible first | exact HB.out | apply below_alloc | apply pw_below_drewN | apply below_drew1 | refine below_set ?_ GE171.out | refine below_set ?_ GE172.out | refine below_set ?_ GE173.out) | exact HB.out)⟩⟩
          · rw [if_neg c31] at H
            have c31b0 : decide (t177 < 0) = false := decide_eq_false c31
            clear c31
            (first | rw [c31b0] | (simp only [i64_w, i32_w]; rw [c31b0]) | skip)
            by_cases c32 : t177 > 8796093022208
            · rw [if_pos c32] at H
              have c32b0 : decide (8796093022208 < t177) = true := decide_eq_true c32
              clear c32
              have H' := Aside0.mk H
              clear H
              go_wp2
              go_meet
              case rel => exact ⟨_, (true), (by first | rfl | (simp; done) | (simp [*]; done)), H', ⟨by have := HJ3.out; first | omega | exact Nat.le_refl _⟩, ⟨by (with_reducible repeat (first | refine blk_drewN ?_ _ | refine blk_drew ?_ | refine blk_alloc ?_ _)); exact BK171.out⟩, ⟨by (with_reducible repeat (first | refine blk_drewN ?_ _ | refine blk_drew ?_ | refine blk_alloc ?_ _)); exact BK172.out⟩, ⟨by (with_reducible repeat (first | refine blk_drewN ?_ _ | refine blk_drew ?_ | refine blk_alloc ?_ _)); exact BK173.out⟩, ⟨by repeat (first | (with_reducible first | exact HB.out | apply below_alloc | apply pw_below_drewN | apply below_drew1 | refine below_set ?_ GE171.out | refine below_set ?_ GE172.out | refine below_set ?_ GE173.out) | exact HB.out)⟩⟩
            · rw [if_neg c32] at H
              have c32b0 : decide (8796093022208 < t177) = false := decide_eq_false c32
              clear c32
              by_cases c33 : t177 > 0
              · rw [if_pos c33] at H
                have c33b0 : decide (0 < t177) = true := decide_eq_true c33
                clear c33
                replace H := Option.bind_eq_some_iff.mp H
                obtain ⟨t178, A340, H⟩ := H
                replace H : (if t178 ≥ 0 then (billiardlaw16_ImpulseSeparates.j1 kj3 t177 true a0_0 a0_1 a0_2 a0_3 a0_4 a1_0 a1_1 a1_2 a1_3 a1_4 a1_5 a1_6 a1_7 a1_8 a1_9 a2_0 a2_1 a2_2 a2_3 a2_4 a2_5 a2_6 a2_7 a2_8 a2_9) else (billiardlaw16_ImpulseSeparates.j1 kj3 t177 ((wrap32 (a1_4 + a2_4)) == 0) a0_0 a0_1 a0_2 a0_3 a0_4 a1_0 a1_1 a1_2 a1_3 a1_4 a1_5 a1_6 a1_7 a1_8 a1_9 a2_0 a2_1 a2_2 a2_3 a2_4 a2_5 a2_6 a2_7 a2_8 a2_9)) = some r := H
                have A34 := Aside0.mk A340
                clear A340
                by_cases c35 : t178 ≥ 0
                · rw [if_pos c35] at H
                  have c35b0 : decide (0 ≤ t178) = true := decide_eq_true c35
                  clear c35
                  have H' := Aside0.mk H
                  clear H
                  have hnb36 := NB171_172.out
                  have hnc36 := NB172_171.out
                  have hnb37 := NB171_173.out
                  have hnc37 := NB173_171.out
                  have hcz38_0 : w30.cell? ⟨gb171, 0, none⟩ = some (.int .u32 a0_0) := (blk_cell BK171.out 0).trans rfl
                  have hcz38_1 : w30.cell? ⟨gb171, 1, none⟩ = some (.int .u32 a0_1) := (blk_cell BK171.out 1).trans rfl
                  have hcz38_2 : w30.cell? ⟨gb171, 2, none⟩ = some (.int .i32 a0_2) := (blk_cell BK171.out 2).trans rfl
                  have hcz38_3 : w30.cell? ⟨gb171, 3, none⟩ = some (.int .i32 a0_3) := (blk_cell BK171.out 3).trans rfl
                  have hcz38_4 : w30.cell? ⟨gb171, 4, none⟩ = some (.int .i32 a0_4) := (blk_cell BK171.out 4).trans rfl
                  have hfz38_0 := blk_frozen BK171.out 0
                  have hfz38_1 := blk_frozen BK171.out 1
                  have hfz38_2 := blk_frozen BK171.out 2
                  have hfz38_3 := blk_frozen BK171.out 3
                  have hfz38_4 := blk_frozen BK171.out 4
                  have hnb39 := NB172_173.out
                  have hnc39 := NB173_172.out
                  have hcz40_0 : w30.cell? ⟨gb172, 0, none⟩ = some (.int .u32 a1_0) := (blk_cell BK172.out 0).trans rfl
                  have hcz40_1 : w30.cell? ⟨gb172, 1, none⟩ = some (.int .i32 a1_1) := (blk_cell BK172.out 1).trans rfl
                  have hcz40_2 : w30.cell? ⟨gb172, 2, none⟩ = some (.int .i32 a1_2) := (blk_cell BK172.out 2).trans rfl
                  have hcz40_3 : w30.cell? ⟨gb172, 3, none⟩ = some (.int .i32 a1_3) := (blk_cell BK172.out 3).trans rfl
                  have hcz40_4 : w30.cell? ⟨gb172, 4, none⟩ = some (.int .i32 a1_4) := (blk_cell BK172.out 4).trans rfl
                  have hcz40_5 : w30.cell? ⟨gb172, 5, none⟩ = some (.int .i32 a1_5) := (blk_cell BK172.out 5).trans rfl
                  have hcz40_6 : w30.cell? ⟨gb172, 6, none⟩ = some (.int .i32 a1_6) := (blk_cell BK172.out 6).trans rfl
                  have hcz40_7 : w30.cell? ⟨gb172, 7, none⟩ = some (.int .i32 a1_7) := (blk_cell BK172.out 7).trans rfl
                  have hcz40_8 : w30.cell? ⟨gb172, 8, none⟩ = some (.int .i32 a1_8) := (blk_cell BK172.out 8).trans rfl
                  have hcz40_9 : w30.cell? ⟨gb172, 9, none⟩ = some (.int .i32 a1_9) := (blk_cell BK172.out 9).trans rfl
                  have hfz40_0 := blk_frozen BK172.out 0
                  have hfz40_1 := blk_frozen BK172.out 1
                  have hfz40_2 := blk_frozen BK172.out 2
                  have hfz40_3 := blk_frozen BK172.out 3
                  have hfz40_4 := blk_frozen BK172.out 4
                  have hfz40_5 := blk_frozen BK172.out 5
                  have hfz40_6 := blk_frozen BK172.out 6
                  have hfz40_7 := blk_frozen BK172.out 7
                  have hfz40_8 := blk_frozen BK172.out 8
                  have hfz40_9 := blk_frozen BK172.out 9
                  have hcz41_0 : w30.cell? ⟨gb173, 0, none⟩ = some (.int .u32 a2_0) := (blk_cell BK173.out 0).trans rfl
                  have hcz41_1 : w30.cell? ⟨gb173, 1, none⟩ = some (.int .i32 a2_1) := (blk_cell BK173.out 1).trans rfl
                  have hcz41_2 : w30.cell? ⟨gb173, 2, none⟩ = some (.int .i32 a2_2) := (blk_cell BK173.out 2).trans rfl
                  have hcz41_3 : w30.cell? ⟨gb173, 3, none⟩ = some (.int .i32 a2_3) := (blk_cell BK173.out 3).trans rfl
                  have hcz41_4 : w30.cell? ⟨gb173, 4, none⟩ = some (.int .i32 a2_4) := (blk_cell BK173.out 4).trans rfl
                  have hcz41_5 : w30.cell? ⟨gb173, 5, none⟩ = some (.int .i32 a2_5) := (blk_cell BK173.out 5).trans rfl
                  have hcz41_6 : w30.cell? ⟨gb173, 6, none⟩ = some (.int .i32 a2_6) := (blk_cell BK173.out 6).trans rfl
                  have hcz41_7 : w30.cell? ⟨gb173, 7, none⟩ = some (.int .i32 a2_7) := (blk_cell BK173.out 7).trans rfl
                  have hcz41_8 : w30.cell? ⟨gb173, 8, none⟩ = some (.int .i32 a2_8) := (blk_cell BK173.out 8).trans rfl
                  have hcz41_9 : w30.cell? ⟨gb173, 9, none⟩ = some (.int .i32 a2_9) := (blk_cell BK173.out 9).trans rfl
                  have hfz41_0 := blk_frozen BK173.out 0
                  have hfz41_1 := blk_frozen BK173.out 1
                  have hfz41_2 := blk_frozen BK173.out 2
                  have hfz41_3 := blk_frozen BK173.out 3
                  have hfz41_4 := blk_frozen BK173.out 4
                  have hfz41_5 := blk_frozen BK173.out 5
                  have hfz41_6 := blk_frozen BK173.out 6
                  have hfz41_7 := blk_frozen BK173.out 7
                  have hfz41_8 := blk_frozen BK173.out 8
                  have hfz41_9 := blk_frozen BK173.out 9
                  go_wp2_with (first | (go_at_call 11; (with_reducible refine (billiardref16_Approach.calls a0_0 a0_1 a0_2 a0_3 a0_4 a1_0 a1_1 a1_2 a1_3 a1_4 a1_5 a1_6 a1_7 a1_8 a1_9 a2_0 a2_1 a2_2 a2_3 a2_4 a2_5 a2_6 a2_7 a2_8 a2_9 t178 _ A34.out).mono ?_); rintro e w42 ⟨rfl, hb⟩; have n0_ := Aside0.mk (blk_below (g := gb171) (o := .cells #[.int .u32 a0_0, .int .u32 a0_1, .int .i32 a0_2, .int .i32 a0_3, .int .i32 a0_4] 28 (0, 0)) (by (with_reducible repeat (first | refine blk_drewN ?_ _ | refine blk_drew ?_ | refine blk_alloc ?_ _)); exact BK171.out) hb); have n1_ := Aside0.mk (blk_below (g := gb172) (o := .cells #[.int .u32 a1_0, .int .i32 a1_1, .int .i32 a1_2, .int .i32 a1_3, .int .i32 a1_4, .int .i32 a1_5, .int .i32 a1_6, .int .i32 a1_7, .int .i32 a1_8, .int .i32 a1_9] 30 (0, 0)) (by (with_reducible repeat (first | refine blk_drewN ?_ _ | refine blk_drew ?_ | refine blk_alloc ?_ _)); exact BK172.out) hb); have n2_ := Aside0.mk (blk_below (g := gb173) (o := .cells #[.int .u32 a2_0, .int .i32 a2_1, .int .i32 a2_2, .int .i32 a2_3, .int .i32 a2_4, .int .i32 a2_5, .int .i32 a2_6, .int .i32 a2_7, .int .i32 a2_8, .int .i32 a2_9] 30 (0, 0)) (by (with_reducible repeat (first | refine blk_drewN ?_ _ | refine blk_drew ?_ | refine blk_alloc ?_ _)); exact BK173.out) hb); have n3_ := Aside0.mk (below_step (by repeat (first | (with_reducible first | exact HB.out | apply below_alloc | apply pw_below_drewN | apply below_drew1 | refine below_set ?_ GE171.out | refine below_set ?_ GE172.out | refine below_set ?_ GE173.out) | exact HB.out)) hb); clear BK171; clear BK172; clear BK173; clear HB; have BK171 := n0_; have BK172 := n1_; have BK173 := n2_; have HB := n3_; clear n0_ n1_ n2_ n3_; (try clear hb); (try clear hb2); (try clear hk); (try clear hi)))
                  go_meet
                  case rel => exact ⟨_, (true), (by first | rfl | (simp; done) | (simp [*]; done)), H', ⟨by have := HJ3.out; first | omega | exact Nat.le_refl _⟩, ⟨by (with_reducible repeat (first | refine blk_drewN ?_ _ | refine blk_drew ?_ | refine blk_alloc ?_ _)); exact BK171.out⟩, ⟨by (with_reducible repeat (first | refine blk_drewN ?_ _ | refine blk_drew ?_ | refine blk_alloc ?_ _)); exact BK172.out⟩, ⟨by (with_reducible repeat (first | refine blk_drewN ?_ _ | refine blk_drew ?_ | refine blk_alloc ?_ _)); exact BK173.out⟩, ⟨by repeat (first | (with_reducible first | exact HB.out | apply below_alloc | apply pw_below_drewN | apply below_drew1 | refine below_set ?_ GE171.out | refine below_set ?_ GE172.out | refine below_set ?_ GE173.out) | exact HB.out)⟩⟩
                · rw [if_neg c35] at H
                  have c35b0 : decide (0 ≤ t178) = false := decide_eq_false c35
                  clear c35
                  have H' := Aside0.mk H
                  clear H
                  have hnb43 := NB171_172.out
                  have hnc43 := NB172_171.out
                  have hnb44 := NB171_173.out
                  have hnc44 := NB173_171.out
                  have hcz45_0 : w30.cell? ⟨gb171, 0, none⟩ = some (.int .u32 a0_0) := (blk_cell BK171.out 0).trans rfl
                  have hcz45_1 : w30.cell? ⟨gb171, 1, none⟩ = some (.int .u32 a0_1) := (blk_cell BK171.out 1).trans rfl
                  have hcz45_2 : w30.cell? ⟨gb171, 2, none⟩ = some (.int .i32 a0_2) := (blk_cell BK171.out 2).trans rfl
                  have hcz45_3 : w30.cell? ⟨gb171, 3, none⟩ = some (.int .i32 a0_3) := (blk_cell BK171.out 3).trans rfl
                  have hcz45_4 : w30.cell? ⟨gb171, 4, none⟩ = some (.int .i32 a0_4) := (blk_cell BK171.out 4).trans rfl
                  have hfz45_0 := blk_frozen BK171.out 0
                  have hfz45_1 := blk_frozen BK171.out 1
                  have hfz45_2 := blk_frozen BK171.out 2
                  have hfz45_3 := blk_frozen BK171.out 3
                  have hfz45_4 := blk_frozen BK171.out 4
                  have hnb46 := NB172_173.out
                  have hnc46 := NB173_172.out
                  have hcz47_0 : w30.cell? ⟨gb172, 0, none⟩ = some (.int .u32 a1_0) := (blk_cell BK172.out 0).trans rfl
                  have hcz47_1 : w30.cell? ⟨gb172, 1, none⟩ = some (.int .i32 a1_1) := (blk_cell BK172.out 1).trans rfl
                  have hcz47_2 : w30.cell? ⟨gb172, 2, none⟩ = some (.int .i32 a1_2) := (blk_cell BK172.out 2).trans rfl
                  have hcz47_3 : w30.cell? ⟨gb172, 3, none⟩ = some (.int .i32 a1_3) := (blk_cell BK172.out 3).trans rfl
                  have hcz47_4 : w30.cell? ⟨gb172, 4, none⟩ = some (.int .i32 a1_4) := (blk_cell BK172.out 4).trans rfl
                  have hcz47_5 : w30.cell? ⟨gb172, 5, none⟩ = some (.int .i32 a1_5) := (blk_cell BK172.out 5).trans rfl
                  have hcz47_6 : w30.cell? ⟨gb172, 6, none⟩ = some (.int .i32 a1_6) := (blk_cell BK172.out 6).trans rfl
                  have hcz47_7 : w30.cell? ⟨gb172, 7, none⟩ = some (.int .i32 a1_7) := (blk_cell BK172.out 7).trans rfl
                  have hcz47_8 : w30.cell? ⟨gb172, 8, none⟩ = some (.int .i32 a1_8) := (blk_cell BK172.out 8).trans rfl
                  have hcz47_9 : w30.cell? ⟨gb172, 9, none⟩ = some (.int .i32 a1_9) := (blk_cell BK172.out 9).trans rfl
                  have hfz47_0 := blk_frozen BK172.out 0
                  have hfz47_1 := blk_frozen BK172.out 1
                  have hfz47_2 := blk_frozen BK172.out 2
                  have hfz47_3 := blk_frozen BK172.out 3
                  have hfz47_4 := blk_frozen BK172.out 4
                  have hfz47_5 := blk_frozen BK172.out 5
                  have hfz47_6 := blk_frozen BK172.out 6
                  have hfz47_7 := blk_frozen BK172.out 7
                  have hfz47_8 := blk_frozen BK172.out 8
                  have hfz47_9 := blk_frozen BK172.out 9
                  have hcz48_0 : w30.cell? ⟨gb173, 0, none⟩ = some (.int .u32 a2_0) := (blk_cell BK173.out 0).trans rfl
                  have hcz48_1 : w30.cell? ⟨gb173, 1, none⟩ = some (.int .i32 a2_1) := (blk_cell BK173.out 1).trans rfl
                  have hcz48_2 : w30.cell? ⟨gb173, 2, none⟩ = some (.int .i32 a2_2) := (blk_cell BK173.out 2).trans rfl
                  have hcz48_3 : w30.cell? ⟨gb173, 3, none⟩ = some (.int .i32 a2_3) := (blk_cell BK173.out 3).trans rfl
                  have hcz48_4 : w30.cell? ⟨gb173, 4, none⟩ = some (.int .i32 a2_4) := (blk_cell BK173.out 4).trans rfl
                  have hcz48_5 : w30.cell? ⟨gb173, 5, none⟩ = some (.int .i32 a2_5) := (blk_cell BK173.out 5).trans rfl
                  have hcz48_6 : w30.cell? ⟨gb173, 6, none⟩ = some (.int .i32 a2_6) := (blk_cell BK173.out 6).trans rfl
                  have hcz48_7 : w30.cell? ⟨gb173, 7, none⟩ = some (.int .i32 a2_7) := (blk_cell BK173.out 7).trans rfl
                  have hcz48_8 : w30.cell? ⟨gb173, 8, none⟩ = some (.int .i32 a2_8) := (blk_cell BK173.out 8).trans rfl
                  have hcz48_9 : w30.cell? ⟨gb173, 9, none⟩ = some (.int .i32 a2_9) := (blk_cell BK173.out 9).trans rfl
                  have hfz48_0 := blk_frozen BK173.out 0
                  have hfz48_1 := blk_frozen BK173.out 1
                  have hfz48_2 := blk_frozen BK173.out 2
                  have hfz48_3 := blk_frozen BK173.out 3
                  have hfz48_4 := blk_frozen BK173.out 4
                  have hfz48_5 := blk_frozen BK173.out 5
                  have hfz48_6 := blk_frozen BK173.out 6
                  have hfz48_7 := blk_frozen BK173.out 7
                  have hfz48_8 := blk_frozen BK173.out 8
                  have hfz48_9 := blk_frozen BK173.out 9
                  go_wp2_with (first | (go_at_call 11; (with_reducible refine (billiardref16_Approach.calls a0_0 a0_1 a0_2 a0_3 a0_4 a1_0 a1_1 a1_2 a1_3 a1_4 a1_5 a1_6 a1_7 a1_8 a1_9 a2_0 a2_1 a2_2 a2_3 a2_4 a2_5 a2_6 a2_7 a2_8 a2_9 t178 _ A34.out).mono ?_); rintro e w49 ⟨rfl, hb⟩; have n0_ := Aside0.mk (blk_below (g := gb171) (o := .cells #[.int .u32 a0_0, .int .u32 a0_1, .int .i32 a0_2, .int .i32 a0_3, .int .i32 a0_4] 28 (0, 0)) (by (with_reducible repeat (first | refine blk_drewN ?_ _ | refine blk_drew ?_ | refine blk_alloc ?_ _)); exact BK171.out) hb); have n1_ := Aside0.mk (blk_below (g := gb172) (o := .cells #[.int .u32 a1_0, .int .i32 a1_1, .int .i32 a1_2, .int .i32 a1_3, .int .i32 a1_4, .int .i32 a1_5, .int .i32 a1_6, .int .i32 a1_7, .int .i32 a1_8, .int .i32 a1_9] 30 (0, 0)) (by (with_reducible repeat (first | refine blk_drewN ?_ _ | refine blk_drew ?_ | refine blk_alloc ?_ _)); exact BK172.out) hb); have n2_ := Aside0.mk (blk_below (g := gb173) (o := .cells #[.int .u32 a2_0, .int .i32 a2_1, .int .i32 a2_2, .int .i32 a2_3, .int .i32 a2_4, .int .i32 a2_5, .int .i32 a2_6, .int .i32 a2_7, .int .i32 a2_8, .int .i32 a2_9] 30 (0, 0)) (by (with_reducible repeat (first | refine blk_drewN ?_ _ | refine blk_drew ?_ | refine blk_alloc ?_ _)); exact BK173.out) hb); have n3_ := Aside0.mk (below_step (by repeat (first | (with_reducible first | exact HB.out | apply below_alloc | apply pw_below_drewN | apply below_drew1 | refine below_set ?_ GE171.out | refine below_set ?_ GE172.out | refine below_set ?_ GE173.out) | exact HB.out)) hb); clear BK171; clear BK172; clear BK173; clear HB; have BK171 := n0_; have BK172 := n1_; have BK173 := n2_; have HB := n3_; clear n0_ n1_ n2_ n3_; (try clear hb); (try clear hb2); (try clear hk); (try clear hi); have hcz50_0 : w49.cell? ⟨gb172, 0, none⟩ = some (.int .u32 a1_0) := (blk_cell BK172.out 0).trans rfl; have hcz50_1 : w49.cell? ⟨gb172, 1, none⟩ = some (.int .i32 a1_1) := (blk_cell BK172.out 1).trans rfl; have hcz50_2 : w49.cell? ⟨gb172, 2, none⟩ = some (.int .i32 a1_2) := (blk_cell BK172.out 2).trans rfl; have hcz50_3 : w49.cell? ⟨gb172, 3, none⟩ = some (.int .i32 a1_3) := (blk_cell BK172.out 3).trans rfl; have hcz50_4 : w49.cell? ⟨gb172, 4, none⟩ = some (.int .i32 a1_4) := (blk_cell BK172.out 4).trans rfl; have hcz50_5 : w49.cell? ⟨gb172, 5, none⟩ = some (.int .i32 a1_5) := (blk_cell BK172.out 5).trans rfl; have hcz50_6 : w49.cell? ⟨gb172, 6, none⟩ = some (.int .i32 a1_6) := (blk_cell BK172.out 6).trans rfl; have hcz50_7 : w49.cell? ⟨gb172, 7, none⟩ = some (.int .i32 a1_7) := (blk_cell BK172.out 7).trans rfl; have hcz50_8 : w49.cell? ⟨gb172, 8, none⟩ = some (.int .i32 a1_8) := (blk_cell BK172.out 8).trans rfl; have hcz50_9 : w49.cell? ⟨gb172, 9, none⟩ = some (.int .i32 a1_9) := (blk_cell BK172.out 9).trans rfl; have hfz50_0 := blk_frozen BK172.out 0; have hfz50_1 := blk_frozen BK172.out 1; have hfz50_2 := blk_frozen BK172.out 2; have hfz50_3 := blk_frozen BK172.out 3; have hfz50_4 := blk_frozen BK172.out 4; have hfz50_5 := blk_frozen BK172.out 5; have hfz50_6 := blk_frozen BK172.out 6; have hfz50_7 := blk_frozen BK172.out 7; have hfz50_8 := blk_frozen BK172.out 8; have hfz50_9 := blk_frozen BK172.out 9; have hcz51_0 : w49.cell? ⟨gb173, 0, none⟩ = some (.int .u32 a2_0) := (blk_cell BK173.out 0).trans rfl; have hcz51_1 : w49.cell? ⟨gb173, 1, none⟩ = some (.int .i32 a2_1) := (blk_cell BK173.out 1).trans rfl; have hcz51_2 : w49.cell? ⟨gb173, 2, none⟩ = some (.int .i32 a2_2) := (blk_cell BK173.out 2).trans rfl; have hcz51_3 : w49.cell? ⟨gb173, 3, none⟩ = some (.int .i32 a2_3) := (blk_cell BK173.out 3).trans rfl; have hcz51_4 : w49.cell? ⟨gb173, 4, none⟩ = some (.int .i32 a2_4) := (blk_cell BK173.out 4).trans rfl; have hcz51_5 : w49.cell? ⟨gb173, 5, none⟩ = some (.int .i32 a2_5) := (blk_cell BK173.out 5).trans rfl; have hcz51_6 : w49.cell? ⟨gb173, 6, none⟩ = some (.int .i32 a2_6) := (blk_cell BK173.out 6).trans rfl; have hcz51_7 : w49.cell? ⟨gb173, 7, none⟩ = some (.int .i32 a2_7) := (blk_cell BK173.out 7).trans rfl; have hcz51_8 : w49.cell? ⟨gb173, 8, none⟩ = some (.int .i32 a2_8) := (blk_cell BK173.out 8).trans rfl; have hcz51_9 : w49.cell? ⟨gb173, 9, none⟩ = some (.int .i32 a2_9) := (blk_cell BK173.out 9).trans rfl; have hfz51_0 := blk_frozen BK173.out 0; have hfz51_1 := blk_frozen BK173.out 1; have hfz51_2 := blk_frozen BK173.out 2; have hfz51_3 := blk_frozen BK173.out 3; have hfz51_4 := blk_frozen BK173.out 4; have hfz51_5 := blk_frozen BK173.out 5; have hfz51_6 := blk_frozen BK173.out 6; have hfz51_7 := blk_frozen BK173.out 7; have hfz51_8 := blk_frozen BK173.out 8; have hfz51_9 := blk_frozen BK173.out 9))
                  go_meet
                  case rel => exact ⟨_, (((wrap32 (a1_4 + a2_4)) == 0)), (by first | rfl | (simp; done) | (simp [*]; done)), H', ⟨by have := HJ3.out; first | omega | exact Nat.le_refl _⟩, ⟨by (with_reducible repeat (first | refine blk_drewN ?_ _ | refine blk_drew ?_ | refine blk_alloc ?_ _)); exact BK171.out⟩, ⟨by (with_reducible repeat (first | refine blk_drewN ?_ _ | refine blk_drew ?_ | refine blk_alloc ?_ _)); exact BK172.out⟩, ⟨by (with_reducible repeat (first | refine blk_drewN ?_ _ | refine blk_drew ?_ | refine blk_alloc ?_ _)); exact BK173.out⟩, ⟨by repeat (first | (with_reducible first | exact HB.out | apply below_alloc | apply pw_below_drewN | apply below_drew1 | refine below_set ?_ GE171.out | refine below_set ?_ GE172.out | refine below_set ?_ GE173.out) | exact HB.out)⟩⟩
              · rw [if_neg c33] at H
                have c33b0 : decide (0 < t177) = false := decide_eq_false c33
                clear c33
                have H' := Aside0.mk H
                clear H
                go_wp2
                go_meet
                case rel => exact ⟨_, (false), (by first | rfl | (simp; done) | (simp [*]; done)), H', ⟨by have := HJ3.out; first | omega | exact Nat.le_refl _⟩, ⟨by (with_reducible repeat (first | refine blk_drewN ?_ _ | refine blk_drew ?_ | refine blk_alloc ?_ _)); exact BK171.out⟩, ⟨by (with_reducible repeat (first | refine blk_drewN ?_ _ | refine blk_drew ?_ | refine blk_alloc ?_ _)); exact BK172.out⟩, ⟨by (with_reducible repeat (first | refine blk_drewN ?_ _ | refine blk_drew ?_ | refine blk_alloc ?_ _)); exact BK173.out⟩, ⟨by repeat (first | (with_reducible first | exact HB.out | apply below_alloc | apply pw_below_drewN | apply below_drew1 | refine below_set ?_ GE171.out | refine below_set ?_ GE172.out | refine below_set ?_ GE173.out) | exact HB.out)⟩⟩
        case rest =>
          clear HC23
          try clear c1
          try clear c2
          try clear p2
          try clear c3
          try clear p3
          try clear c4
          try clear c8
          try clear c9
          try clear c12
          try clear c13
          try clear c15
          try clear c19
          try clear c24
          try clear c25
          try clear c27
          try clear c31
          try clear c31b0
          try clear c32
          try clear c32b0
          try clear p32
          try clear c33
          try clear c33b0
          try clear c35
          try clear c35b0
          try clear c36
          try clear c37
          try clear c39
          try clear c43
          try clear c44
          try clear c46
          try clear hcz14_0
          try clear hcz14_1
          try clear hcz14_2
          try clear hcz14_3
          try clear hcz14_4
          try clear hcz16_0
          try clear hcz16_1
          try clear hcz16_2
          try clear hcz16_3
          try clear hcz16_4
          try clear hcz16_5
          try clear hcz16_6
          try clear hcz16_7
          try clear hcz16_8
          try clear hcz16_9
          try clear hcz17_0
          try clear hcz17_1
          try clear hcz17_2
          try clear hcz17_3
          try clear hcz17_4
          try clear hcz17_5
          try clear hcz17_6
          try clear hcz17_7
          try clear hcz17_8
          try clear hcz17_9
          try clear hcz26_0
          try clear hcz26_1
          try clear hcz26_2
          try clear hcz26_3
          try clear hcz26_4
          try clear hcz28_0
          try clear hcz28_1
          try clear hcz28_2
          try clear hcz28_3
          try clear hcz28_4
          try clear hcz28_5
          try clear hcz28_6
          try clear hcz28_7
          try clear hcz28_8
          try clear hcz28_9
          try clear hcz29_0
          try clear hcz29_1
          try clear hcz29_2
          try clear hcz29_3
          try clear hcz29_4
          try clear hcz29_5
          try clear hcz29_6
          try clear hcz29_7
          try clear hcz29_8
          try clear hcz29_9
          try clear hcz38_0
          try clear hcz38_1
          try clear hcz38_2
          try clear hcz38_3
          try clear hcz38_4
          try clear hcz40_0
          try clear hcz40_1
          try clear hcz40_2
          try clear hcz40_3
          try clear hcz40_4
          try clear hcz40_5
          try clear hcz40_6
          try clear hcz40_7
          try clear hcz40_8
          try clear hcz40_9
          try clear hcz41_0
          try clear hcz41_1
          try clear hcz41_2
          try clear hcz41_3
          try clear hcz41_4
          try clear hcz41_5
          try clear hcz41_6
          try clear hcz41_7
          try clear hcz41_8
          try clear hcz41_9
          try clear hcz45_0
          try clear hcz45_1
          try clear hcz45_2
          try clear hcz45_3
          try clear hcz45_4
          try clear hcz47_0
          try clear hcz47_1
          try clear hcz47_2
          try clear hcz47_3
          try clear hcz47_4
          try clear hcz47_5
          try clear hcz47_6
          try clear hcz47_7
          try clear hcz47_8
          try clear hcz47_9
          try clear hcz48_0
          try clear hcz48_1
          try clear hcz48_2
          try clear hcz48_3
          try clear hcz48_4
          try clear hcz48_5
          try clear hcz48_6
          try clear hcz48_7
          try clear hcz48_8
          try clear hcz48_9
          try clear hcz50_0
          try clear hcz50_1
          try clear hcz50_2
          try clear hcz50_3
          try clear hcz50_4
          try clear hcz50_5
          try clear hcz50_6
          try clear hcz50_7
          try clear hcz50_8
          try clear hcz50_9
          try clear hcz51_0
          try clear hcz51_1
          try clear hcz51_2
          try clear hcz51_3
          try clear hcz51_4
          try clear hcz51_5
          try clear hcz51_6
          try clear hcz51_7
          try clear hcz51_8
          try clear hcz51_9
          try clear hfz14_0
          try clear hfz14_1
          try clear hfz14_2
          try clear hfz14_3
          try clear hfz14_4
          try clear hfz16_0
          try clear hfz16_1
          try clear hfz16_2
          try clear hfz16_3
          try clear hfz16_4
          try clear hfz16_5
          try clear hfz16_6
          try clear hfz16_7
          try clear hfz16_8
          try clear hfz16_9
          try clear hfz17_0
          try clear hfz17_1
          try clear hfz17_2
          try clear hfz17_3
          try clear hfz17_4
          try clear hfz17_5
          try clear hfz17_6
          try clear hfz17_7
          try clear hfz17_8
          try clear hfz17_9
          try clear hfz26_0
          try clear hfz26_1
          try clear hfz26_2
          try clear hfz26_3
          try clear hfz26_4
          try clear hfz28_0
          try clear hfz28_1
          try clear hfz28_2
          try clear hfz28_3
          try clear hfz28_4
          try clear hfz28_5
          try clear hfz28_6
          try clear hfz28_7
          try clear hfz28_8
          try clear hfz28_9
          try clear hfz29_0
          try clear hfz29_1
          try clear hfz29_2
          try clear hfz29_3
          try clear hfz29_4
          try clear hfz29_5
          try clear hfz29_6
          try clear hfz29_7
          try clear hfz29_8
          try clear hfz29_9
          try clear hfz38_0
          try clear hfz38_1
          try clear hfz38_2
          try clear hfz38_3
          try clear hfz38_4
          try clear hfz40_0
          try clear hfz40_1
          try clear hfz40_2
          try clear hfz40_3
          try clear hfz40_4
          try clear hfz40_5
          try clear hfz40_6
          try clear hfz40_7
          try clear hfz40_8
          try clear hfz40_9
          try clear hfz41_0
          try clear hfz41_1
          try clear hfz41_2
          try clear hfz41_3
          try clear hfz41_4
          try clear hfz41_5
          try clear hfz41_6
          try clear hfz41_7
          try clear hfz41_8
          try clear hfz41_9
          try clear hfz45_0
          try clear hfz45_1
          try clear hfz45_2
          try clear hfz45_3
          try clear hfz45_4
          try clear hfz47_0
          try clear hfz47_1
          try clear hfz47_2
          try clear hfz47_3
          try clear hfz47_4
          try clear hfz47_5
          try clear hfz47_6
          try clear hfz47_7
          try clear hfz47_8
          try clear hfz47_9
          try clear hfz48_0
          try clear hfz48_1
          try clear hfz48_2
          try clear hfz48_3
          try clear hfz48_4
          try clear hfz48_5
          try clear hfz48_6
          try clear hfz48_7
          try clear hfz48_8
          try clear hfz48_9
          try clear hfz50_0
          try clear hfz50_1
          try clear hfz50_2
          try clear hfz50_3
          try clear hfz50_4
          try clear hfz50_5
          try clear hfz50_6
          try clear hfz50_7
          try clear hfz50_8
          try clear hfz50_9
          try clear hfz51_0
          try clear hfz51_1
          try clear hfz51_2
          try clear hfz51_3
          try clear hfz51_4
          try clear hfz51_5
          try clear hfz51_6
          try clear hfz51_7
          try clear hfz51_8
          try clear hfz51_9
          try clear p2
          obtain ⟨kq, x50_22, rfl, HA, HJ22, BK171, BK172, BK173, HB⟩ := hcut
          cases kq with
          | zero => exact absurd HA.out (by simp [billiardlaw16_ImpulseSeparates.j1])
          | succ kj22 =>
            have H := HA.out
            clear HA
            simp only [billiardlaw16_ImpulseSeparates.j1] at H
            by_cases c52 : x50_22 = true
            · subst c52
              have H1 : (some false) = some r := by rw [if_pos rfl] at H; exact H
              clear H
              have H := H1
              clear H1
              exact absurd ((Option.some.inj H).trans HR.out) (by decide)
            · replace c52 := Bool.eq_false_iff.mpr c52
              subst c52
              have H1 : ((impulse_Change.f t177 a1_4 a0_2 a0_3).bind fun bt179 => ((impulse_Change.f t177 a2_4 a0_2 a0_3).bind fun bt181 => (if a1_4 = 0 then (if bt179.1 = 0 then (if bt179.2 = 0 then (if a2_4 = 0 then (if bt181.1 = 0 then (billiardlaw16_ImpulseSeparates.j2 kj22 bt179.1 bt179.2 bt181.1 bt181.2 (bt181.2 != 0)) else (billiardlaw16_ImpulseSeparates.j2 kj22 bt179.1 bt179.2 bt181.1 bt181.2 true)) else (billiardlaw16_ImpulseSeparates.j2 kj22 bt179.1 bt179.2 bt181.1 bt181.2 false)) else (billiardlaw16_ImpulseSeparates.j2 kj22 bt179.1 bt179.2 bt181.1 bt181.2 true)) else (billiardlaw16_ImpulseSeparates.j2 kj22 bt179.1 bt179.2 bt181.1 bt181.2 true)) else (if a2_4 = 0 then (if bt181.1 = 0 then (billiardlaw16_ImpulseSeparates.j2 kj22 bt179.1 bt179.2 bt181.1 bt181.2 (bt181.2 != 0)) else (billiardlaw16_ImpulseSeparates.j2 kj22 bt179.1 bt179.2 bt181.1 bt181.2 true)) else (billiardlaw16_ImpulseSeparates.j2 kj22 bt179.1 bt179.2 bt181.1 bt181.2 false))))) = some r := by rw [if_neg (show ¬ (false = true) by decide)] at H; exact H
              clear H
              have H := H1
              clear H1
              replace H := Option.bind_eq_some_iff.mp H
              obtain ⟨⟨t179, t180⟩, A530, H⟩ := H
              replace H : ((impulse_Change.f t177 a2_4 a0_2 a0_3).bind fun bt181 => (if a1_4 = 0 then (if t179 = 0 then (if t180 = 0 then (if a2_4 = 0 then (if bt181.1 = 0 then (billiardlaw16_ImpulseSeparates.j2 kj22 t179 t180 bt181.1 bt181.2 (bt181.2 != 0)) else (billiardlaw16_ImpulseSeparates.j2 kj22 t179 t180 bt181.1 bt181.2 true)) else (billiardlaw16_ImpulseSeparates.j2 kj22 t179 t180 bt181.1 bt181.2 false)) else (billiardlaw16_ImpulseSeparates.j2 kj22 t179 t180 bt181.1 bt181.2 true)) else (billiardlaw16_ImpulseSeparates.j2 kj22 t179 t180 bt181.1 bt181.2 true)) else (if a2_4 = 0 then (if bt181.1 = 0 then (billiardlaw16_ImpulseSeparates.j2 kj22 t179 t180 bt181.1 bt181.2 (bt181.2 != 0)) else (billiardlaw16_ImpulseSeparates.j2 kj22 t179 t180 bt181.1 bt181.2 true)) else (billiardlaw16_ImpulseSeparates.j2 kj22 t179 t180 bt181.1 bt181.2 false)))) = some r := H
              have A53 := Aside0.mk A530
              clear A530
              replace H := Option.bind_eq_some_iff.mp H
              obtain ⟨⟨t181, t182⟩, A540, H⟩ := H
              replace H : (if a1_4 = 0 then (if t179 = 0 then (if t180 = 0 then (if a2_4 = 0 then (if t181 = 0 then (billiardlaw16_ImpulseSeparates.j2 kj22 t179 t180 t181 t182 (t182 != 0)) else (billiardlaw16_ImpulseSeparates.j2 kj22 t179 t180 t181 t182 true)) else (billiardlaw16_ImpulseSeparates.j2 kj22 t179 t180 t181 t182 false)) else (billiardlaw16_ImpulseSeparates.j2 kj22 t179 t180 t181 t182 true)) else (billiardlaw16_ImpulseSeparates.j2 kj22 t179 t180 t181 t182 true)) else (if a2_4 = 0 then (if t181 = 0 then (billiardlaw16_ImpulseSeparates.j2 kj22 t179 t180 t181 t182 (t182 != 0)) else (billiardlaw16_ImpulseSeparates.j2 kj22 t179 t180 t181 t182 true)) else (billiardlaw16_ImpulseSeparates.j2 kj22 t179 t180 t181 t182 false))) = some r := H
              have A54 := Aside0.mk A540
              clear A540
              have HC55 := Aside0.mk H
              clear H
              have hnb56 := NB172_171.out
              have hnc56 := NB171_172.out
              have hnb57 := NB172_173.out
              have hnc57 := NB173_172.out
              have hcz58_0 : wc.cell? ⟨gb172, 0, none⟩ = some (.int .u32 a1_0) := (blk_cell BK172.out 0).trans rfl
              have hcz58_1 : wc.cell? ⟨gb172, 1, none⟩ = some (.int .i32 a1_1) := (blk_cell BK172.out 1).trans rfl
              have hcz58_2 : wc.cell? ⟨gb172, 2, none⟩ = some (.int .i32 a1_2) := (blk_cell BK172.out 2).trans rfl
              have hcz58_3 : wc.cell? ⟨gb172, 3, none⟩ = some (.int .i32 a1_3) := (blk_cell BK172.out 3).trans rfl
              have hcz58_4 : wc.cell? ⟨gb172, 4, none⟩ = some (.int .i32 a1_4) := (blk_cell BK172.out 4).trans rfl
              have hcz58_5 : wc.cell? ⟨gb172, 5, none⟩ = some (.int .i32 a1_5) := (blk_cell BK172.out 5).trans rfl
              have hcz58_6 : wc.cell? ⟨gb172, 6, none⟩ = some (.int .i32 a1_6) := (blk_cell BK172.out 6).trans rfl
              have hcz58_7 : wc.cell? ⟨gb172, 7, none⟩ = some (.int .i32 a1_7) := (blk_cell BK172.out 7).trans rfl
              have hcz58_8 : wc.cell? ⟨gb172, 8, none⟩ = some (.int .i32 a1_8) := (blk_cell BK172.out 8).trans rfl
              have hcz58_9 : wc.cell? ⟨gb172, 9, none⟩ = some (.int .i32 a1_9) := (blk_cell BK172.out 9).trans rfl
              have hfz58_0 := blk_frozen BK172.out 0
              have hfz58_1 := blk_frozen BK172.out 1
              have hfz58_2 := blk_frozen BK172.out 2
              have hfz58_3 := blk_frozen BK172.out 3
              have hfz58_4 := blk_frozen BK172.out 4
              have hfz58_5 := blk_frozen BK172.out 5
              have hfz58_6 := blk_frozen BK172.out 6
              have hfz58_7 := blk_frozen BK172.out 7
              have hfz58_8 := blk_frozen BK172.out 8
              have hfz58_9 := blk_frozen BK172.out 9
              have hnb59 := NB171_173.out
              have hnc59 := NB173_171.out
              have hcz60_0 : wc.cell? ⟨gb171, 0, none⟩ = some (.int .u32 a0_0) := (blk_cell BK171.out 0).trans rfl
              have hcz60_1 : wc.cell? ⟨gb171, 1, none⟩ = some (.int .u32 a0_1) := (blk_cell BK171.out 1).trans rfl
              have hcz60_2 : wc.cell? ⟨gb171, 2, none⟩ = some (.int .i32 a0_2) := (blk_cell BK171.out 2).trans rfl
              have hcz60_3 : wc.cell? ⟨gb171, 3, none⟩ = some (.int .i32 a0_3) := (blk_cell BK171.out 3).trans rfl
              have hcz60_4 : wc.cell? ⟨gb171, 4, none⟩ = some (.int .i32 a0_4) := (blk_cell BK171.out 4).trans rfl
              have hfz60_0 := blk_frozen BK171.out 0
              have hfz60_1 := blk_frozen BK171.out 1
              have hfz60_2 := blk_frozen BK171.out 2
              have hfz60_3 := blk_frozen BK171.out 3
              have hfz60_4 := blk_frozen BK171.out 4
              go_upto_region 8 with (first | ((with_reducible refine gate_callee (f := 15) rfl ?_); refine goesL_ (some 57) rfl rfl Try.func15 (by kernel_rfl) rfl #[.int .i64 t177, .int .i32 a1_4, .agg #[.int .i32 a0_2, .int .i32 a0_3]] rfl (by (try simp only [List.map_toArray, List.map_cons, List.map_nil]); first | done | rfl | (simp only [List.length_drop, List.length_take]; rfl)) ?_; (with_reducible refine (impulse_Change.calls t177 a1_4 a0_2 a0_3 t179 t180 _ A53.out).mono ?_); rintro e w61 ⟨rfl, hb⟩; refine ⟨_, rfl, ?_⟩; have n0_ := Aside0.mk (blk_below (g := gb171) (o := .cells #[.int .u32 a0_0, .int .u32 a0_1, .int .i32 a0_2, .int .i32 a0_3, .int .i32 a0_4] 28 (0, 0)) (by (with_reducible repeat (first | refine blk_drewN ?_ _ | refine blk_drew ?_ | refine blk_alloc ?_ _)); exact BK171.out) hb); have n1_ := Aside0.mk (blk_below (g := gb172) (o := .cells #[.int .u32 a1_0, .int .i32 a1_1, .int .i32 a1_2, .int .i32 a1_3, .int .i32 a1_4, .int .i32 a1_5, .int .i32 a1_6, .int .i32 a1_7, .int .i32 a1_8, .int .i32 a1_9] 30 (0, 0)) (by (with_reducible repeat (first | refine blk_drewN ?_ _ | refine blk_drew ?_ | refine blk_alloc ?_ _)); exact BK172.out) hb); have n2_ := Aside0.mk (blk_below (g := gb173) (o := .cells #[.int .u32 a2_0, .int .i32 a2_1, .int .i32 a2_2, .int .i32 a2_3, .int .i32 a2_4, .int .i32 a2_5, .int .i32 a2_6, .int .i32 a2_7, .int .i32 a2_8, .int .i32 a2_9] 30 (0, 0)) (by (with_reducible repeat (first | refine blk_drewN ?_ _ | refine blk_drew ?_ | refine blk_alloc ?_ _)); exact BK173.out) hb); have n3_ := Aside0.mk (below_step (by repeat (first | (with_reducible first | exact HB.out | apply below_alloc | apply pw_below_drewN | apply below_drew1 | refine below_set ?_ GE171.out | refine below_set ?_ GE172.out | refine below_set ?_ GE173.out) | exact HB.out)) hb); clear BK171; clear BK172; clear BK173; clear HB; have BK171 := n0_; have BK172 := n1_; have BK173 := n2_; have HB := n3_; clear n0_ n1_ n2_ n3_; (try clear hb); (try clear hb2); (try clear hk); (try clear hi); have hcz62_0 : w61.cell? ⟨gb173, 0, none⟩ = some (.int .u32 a2_0) := (blk_cell BK173.out 0).trans rfl; have hcz62_1 : w61.cell? ⟨gb173, 1, none⟩ = some (.int .i32 a2_1) := (blk_cell BK173.out 1).trans rfl; have hcz62_2 : w61.cell? ⟨gb173, 2, none⟩ = some (.int .i32 a2_2) := (blk_cell BK173.out 2).trans rfl; have hcz62_3 : w61.cell? ⟨gb173, 3, none⟩ = some (.int .i32 a2_3) := (blk_cell BK173.out 3).trans rfl; have hcz62_4 : w61.cell? ⟨gb173, 4, none⟩ = some (.int .i32 a2_4) := (blk_cell BK173.out 4).trans rfl; have hcz62_5 : w61.cell? ⟨gb173, 5, none⟩ = some (.int .i32 a2_5) := (blk_cell BK173.out 5).trans rfl; have hcz62_6 : w61.cell? ⟨gb173, 6, none⟩ = some (.int .i32 a2_6) := (blk_cell BK173.out 6).trans rfl; have hcz62_7 : w61.cell? ⟨gb173, 7, none⟩ = some (.int .i32 a2_7) := (blk_cell BK173.out 7).trans rfl; have hcz62_8 : w61.cell? ⟨gb173, 8, none⟩ = some (.int .i32 a2_8) := (blk_cell BK173.out 8).trans rfl; have hcz62_9 : w61.cell? ⟨gb173, 9, none⟩ = some (.int .i32 a2_9) := (blk_cell BK173.out 9).trans rfl; have hfz62_0 := blk_frozen BK173.out 0; have hfz62_1 := blk_frozen BK173.out 1; have hfz62_2 := blk_frozen BK173.out 2; have hfz62_3 := blk_frozen BK173.out 3; have hfz62_4 := blk_frozen BK173.out 4; have hfz62_5 := blk_frozen BK173.out 5; have hfz62_6 := blk_frozen BK173.out 6; have hfz62_7 := blk_frozen BK173.out 7; have hfz62_8 := blk_frozen BK173.out 8; have hfz62_9 := blk_frozen BK173.out 9; have hcz63_0 : w61.cell? ⟨gb171, 0, none⟩ = some (.int .u32 a0_0) := (blk_cell BK171.out 0).trans rfl; have hcz63_1 : w61.cell? ⟨gb171, 1, none⟩ = some (.int .u32 a0_1) := (blk_cell BK171.out 1).trans rfl; have hcz63_2 : w61.cell? ⟨gb171, 2, none⟩ = some (.int .i32 a0_2) := (blk_cell BK171.out 2).trans rfl; have hcz63_3 : w61.cell? ⟨gb171, 3, none⟩ = some (.int .i32 a0_3) := (blk_cell BK171.out 3).trans rfl; have hcz63_4 : w61.cell? ⟨gb171, 4, none⟩ = some (.int .i32 a0_4) := (blk_cell BK171.out 4).trans rfl; have hfz63_0 := blk_frozen BK171.out 0; have hfz63_1 := blk_frozen BK171.out 1; have hfz63_2 := blk_frozen BK171.out 2; have hfz63_3 := blk_frozen BK171.out 3; have hfz63_4 := blk_frozen BK171.out 4) | ((with_reducible refine gate_callee (f := 15) rfl ?_); refine goesL_ (some 66) rfl rfl Try.func15 (by kernel_rfl) rfl #[.int .i64 t177, .int .i32 a2_4, .agg #[.int .i32 a0_2, .int .i32 a0_3]] rfl (by (try simp only [List.map_toArray, List.map_cons, List.map_nil]); first | done | rfl | (simp only [List.length_drop, List.length_take]; rfl)) ?_; (with_reducible refine (impulse_Change.calls t177 a2_4 a0_2 a0_3 t181 t182 _ A54.out).mono ?_); rintro e w64 ⟨rfl, hb⟩; refine ⟨_, rfl, ?_⟩; have n0_ := Aside0.mk (blk_below (g := gb171) (o := .cells #[.int .u32 a0_0, .int .u32 a0_1, .int .i32 a0_2, .int .i32 a0_3, .int .i32 a0_4] 28 (0, 0)) (by (with_reducible repeat (first | refine blk_drewN ?_ _ | refine blk_drew ?_ | refine blk_alloc ?_ _)); exact BK171.out) hb); have n1_ := Aside0.mk (blk_below (g := gb172) (o := .cells #[.int .u32 a1_0, .int .i32 a1_1, .int .i32 a1_2, .int .i32 a1_3, .int .i32 a1_4, .int .i32 a1_5, .int .i32 a1_6, .int .i32 a1_7, .int .i32 a1_8, .int .i32 a1_9] 30 (0, 0)) (by (with_reducible repeat (first | refine blk_drewN ?_ _ | refine blk_drew ?_ | refine blk_alloc ?_ _)); exact BK172.out) hb); have n2_ := Aside0.mk (blk_below (g := gb173) (o := .cells #[.int .u32 a2_0, .int .i32 a2_1, .int .i32 a2_2, .int .i32 a2_3, .int .i32 a2_4, .int .i32 a2_5, .int .i32 a2_6, .int .i32 a2_7, .int .i32 a2_8, .int .i32 a2_9] 30 (0, 0)) (by (with_reducible repeat (first | refine blk_drewN ?_ _ | refine blk_drew ?_ | refine blk_alloc ?_ _)); exact BK173.out) hb); have n3_ := Aside0.mk (below_step (by repeat (first | (with_reducible first | exact HB.out | apply below_alloc | apply pw_below_drewN | apply below_drew1 | refine below_set ?_ GE171.out | refine below_set ?_ GE172.out | refine below_set ?_ GE173.out) | exact HB.out)) hb); clear BK171; clear BK172; clear BK173; clear HB; have BK171 := n0_; have BK172 := n1_; have BK173 := n2_; have HB := n3_; clear n0_ n1_ n2_ n3_; (try clear hb); (try clear hb2); (try clear hk); (try clear hi)))
              (try simp only [Act.put, List.setIfInBounds_toArray, List.set_cons_zero, List.set_cons_succ])
              go_cut [92] (fun v92 wc => ∃ (kq : Nat) (x92_54 : Bool), v92 = .bool x92_54 ∧ Aside0 (billiardlaw16_ImpulseSeparates.j2 kq t179 t180 t181 t182 x92_54 = some r) ∧ Aside0 (kq ≤ kj22) ∧ Aside0 (wc.heap[gb171]? = some (.cells #[.int .u32 a0_0, .int .u32 a0_1, .int .i32 a0_2, .int .i32 a0_3, .int .i32 a0_4] 28 (0, 0))) ∧ Aside0 (wc.heap[gb172]? = some (.cells #[.int .u32 a1_0, .int .i32 a1_1, .int .i32 a1_2, .int .i32 a1_3, .int .i32 a1_4, .int .i32 a1_5, .int .i32 a1_6, .int .i32 a1_7, .int .i32 a1_8, .int .i32 a1_9] 30 (0, 0))) ∧ Aside0 (wc.heap[gb173]? = some (.cells #[.int .u32 a2_0, .int .i32 a2_1, .int .i32 a2_2, .int .i32 a2_3, .int .i32 a2_4, .int .i32 a2_5, .int .i32 a2_6, .int .i32 a2_7, .int .i32 a2_8, .int .i32 a2_9] 30 (0, 0))) ∧ Aside0 (Below w.heap.size w wc))
              case first =>
                have H := HC55.out
                clear HC55
                by_cases c65 : a1_4 = 0
                · rw [if_pos c65] at H
                  have c65b0 : (a1_4 == 0) = true := beq_iff_eq.mpr c65
                  have c65b1 : (a1_4 != 0) = false := bne_eq_false_iff_eq.mpr c65
                  clear c65
                  (first | rw [c65b0] | (simp only [i64_w, i32_w]; rw [c65b0]) | skip)
                  by_cases c66 : t179 = 0
                  · rw [if_pos c66] at H
                    have c66b0 : (t179 == 0) = true := beq_iff_eq.mpr c66
                    have c66b1 : (t179 != 0) = false := bne_eq_false_iff_eq.mpr c66
                    clear c66
                    by_cases c67 : t180 = 0
                    · rw [if_pos c67] at H
                      have c67b0 : (t180 == 0) = true := beq_iff_eq.mpr c67
                      have c67b1 : (t180 != 0) = false := bne_eq_false_iff_eq.mpr c67
                      clear c67
                      by_cases c68 : a2_4 = 0
                      · rw [if_pos c68] at H
                        have c68b0 : (a2_4 == 0) = true := beq_iff_eq.mpr c68
                        have c68b1 : (a2_4 != 0) = false := bne_eq_false_iff_eq.mpr c68
                        clear c68
                        by_cases c69 : t181 = 0
                        · rw [if_pos c69] at H
                          have c69b0 : (t181 == 0) = true := beq_iff_eq.mpr c69
                          have c69b1 : (t181 != 0) = false := bne_eq_false_iff_eq.mpr c69
                          clear c69
                          have H' := Aside0.mk H
                          clear H
                          have hnb70 := NB172_171.out
                          have hnc70 := NB171_172.out
                          have hnb71 := NB172_173.out
                          have hnc71 := NB173_172.out
                          have hcz72_0 : w64.cell? ⟨gb172, 0, none⟩ = some (.int .u32 a1_0) := (blk_cell BK172.out 0).trans rfl
                          have hcz72_1 : w64.cell? ⟨gb172, 1, none⟩ = some (.int .i32 a1_1) := (blk_cell BK172.out 1).trans rfl
                          have hcz72_2 : w64.cell? ⟨gb172, 2, none⟩ = some (.int .i32 a1_2) := (blk_cell BK172.out 2).trans rfl
                          have hcz72_3 : w64.cell? ⟨gb172, 3, none⟩ = some (.int .i32 a1_3) := (blk_cell BK172.out 3).trans rfl
                          have hcz72_4 : w64.cell? ⟨gb172, 4, none⟩ = some (.int .i32 a1_4) := (blk_cell BK172.out 4).trans rfl
                          have hcz72_5 : w64.cell? ⟨gb172, 5, none⟩ = some (.int .i32 a1_5) := (blk_cell BK172.out 5).trans rfl
                          have hcz72_6 : w64.cell? ⟨gb172, 6, none⟩ = some (.int .i32 a1_6) := (blk_cell BK172.out 6).trans rfl
                          have hcz72_7 : w64.cell? ⟨gb172, 7, none⟩ = some (.int .i32 a1_7) := (blk_cell BK172.out 7).trans rfl
                          have hcz72_8 : w64.cell? ⟨gb172, 8, none⟩ = some (.int .i32 a1_8) := (blk_cell BK172.out 8).trans rfl
                          have hcz72_9 : w64.cell? ⟨gb172, 9, none⟩ = some (.int .i32 a1_9) := (blk_cell BK172.out 9).trans rfl
                          have hfz72_0 := blk_frozen BK172.out 0
                          have hfz72_1 := blk_frozen BK172.out 1
                          have hfz72_2 := blk_frozen BK172.out 2
                          have hfz72_3 := blk_frozen BK172.out 3
                          have hfz72_4 := blk_frozen BK172.out 4
                          have hfz72_5 := blk_frozen BK172.out 5
                          have hfz72_6 := blk_frozen BK172.out 6
                          have hfz72_7 := blk_frozen BK172.out 7
                          have hfz72_8 := blk_frozen BK172.out 8
                          have hfz72_9 := blk_frozen BK172.out 9
                          have hnb73 := NB173_171.out
                          have hnc73 := NB171_173.out
                          have hcz74_0 : w64.cell? ⟨gb173, 0, none⟩ = some (.int .u32 a2_0) := (blk_cell BK173.out 0).trans rfl
                          have hcz74_1 : w64.cell? ⟨gb173, 1, none⟩ = some (.int .i32 a2_1) := (blk_cell BK173.out 1).trans rfl
                          have hcz74_2 : w64.cell? ⟨gb173, 2, none⟩ = some (.int .i32 a2_2) := (blk_cell BK173.out 2).trans rfl
                          have hcz74_3 : w64.cell? ⟨gb173, 3, none⟩ = some (.int .i32 a2_3) := (blk_cell BK173.out 3).trans rfl
                          have hcz74_4 : w64.cell? ⟨gb173, 4, none⟩ = some (.int .i32 a2_4) := (blk_cell BK173.out 4).trans rfl
                          have hcz74_5 : w64.cell? ⟨gb173, 5, none⟩ = some (.int .i32 a2_5) := (blk_cell BK173.out 5).trans rfl
                          have hcz74_6 : w64.cell? ⟨gb173, 6, none⟩ = some (.int .i32 a2_6) := (blk_cell BK173.out 6).trans rfl
                          have hcz74_7 : w64.cell? ⟨gb173, 7, none⟩ = some (.int .i32 a2_7) := (blk_cell BK173.out 7).trans rfl
                          have hcz74_8 : w64.cell? ⟨gb173, 8, none⟩ = some (.int .i32 a2_8) := (blk_cell BK173.out 8).trans rfl
                          have hcz74_9 : w64.cell? ⟨gb173, 9, none⟩ = some (.int .i32 a2_9) := (blk_cell BK173.out 9).trans rfl
                          have hfz74_0 := blk_frozen BK173.out 0
                          have hfz74_1 := blk_frozen BK173.out 1
                          have hfz74_2 := blk_frozen BK173.out 2
                          have hfz74_3 := blk_frozen BK173.out 3
                          have hfz74_4 := blk_frozen BK173.out 4
                          have hfz74_5 := blk_frozen BK173.out 5
                          have hfz74_6 := blk_frozen BK173.out 6
                          have hfz74_7 := blk_frozen BK173.out 7
                          have hfz74_8 := blk_frozen BK173.out 8
                          have hfz74_9 := blk_frozen BK173.out 9
                          go_wp2
                          go_meet
                          case rel => exact ⟨_, ((t182 != 0)), (by first | rfl | (simp; done) | (simp [*]; done)), H', ⟨by have := HJ3.out; have := HJ22.out; first | omega | exact Nat.le_refl _⟩, ⟨by (with_reducible repeat (first | refine blk_drewN ?_ _ | refine blk_drew ?_ | refine blk_alloc ?_ _)); exact BK171.out⟩, ⟨by (with_reducible repeat (first | refine blk_drewN ?_ _ | refine blk_drew ?_ | refine blk_alloc ?_ _)); exact BK172.out⟩, ⟨by (with_reducible repeat (first | refine blk_drewN ?_ _ | refine blk_drew ?_ | refine blk_alloc ?_ _)); exact BK173.out⟩, ⟨by repeat (first | (with_reducible first | exact HB.out | apply below_alloc | apply pw_below_drewN | apply below_drew1 | refine below_set ?_ GE171.out | refine below_set ?_ GE172.out | refine below_set ?_ GE173.out) | exact HB.out)⟩⟩
                        · rw [if_neg c69] at H
                          have c69b0 : (t181 == 0) = false := beq_eq_false_iff_ne.mpr c69
                          have c69b1 : (t181 != 0) = true := bne_iff_ne.mpr c69
                          have H' := Aside0.mk H
                          clear H
                          have hnb75 := NB172_171.out
                          have hnc75 := NB171_172.out
                          have hnb76 := NB172_173.out
                          have hnc76 := NB173_172.out
                          have hcz77_0 : w64.cell? ⟨gb172, 0, none⟩ = some (.int .u32 a1_0) := (blk_cell BK172.out 0).trans rfl
                          have hcz77_1 : w64.cell? ⟨gb172, 1, none⟩ = some (.int .i32 a1_1) := (blk_cell BK172.out 1).trans rfl
                          have hcz77_2 : w64.cell? ⟨gb172, 2, none⟩ = some (.int .i32 a1_2) := (blk_cell BK172.out 2).trans rfl
                          have hcz77_3 : w64.cell? ⟨gb172, 3, none⟩ = some (.int .i32 a1_3) := (blk_cell BK172.out 3).trans rfl
                          have hcz77_4 : w64.cell? ⟨gb172, 4, none⟩ = some (.int .i32 a1_4) := (blk_cell BK172.out 4).trans rfl
                          have hcz77_5 : w64.cell? ⟨gb172, 5, none⟩ = some (.int .i32 a1_5) := (blk_cell BK172.out 5).trans rfl
                          have hcz77_6 : w64.cell? ⟨gb172, 6, none⟩ = some (.int .i32 a1_6) := (blk_cell BK172.out 6).trans rfl
                          have hcz77_7 : w64.cell? ⟨gb172, 7, none⟩ = some (.int .i32 a1_7) := (blk_cell BK172.out 7).trans rfl
                          have hcz77_8 : w64.cell? ⟨gb172, 8, none⟩ = some (.int .i32 a1_8) := (blk_cell BK172.out 8).trans rfl
                          have hcz77_9 : w64.cell? ⟨gb172, 9, none⟩ = some (.int .i32 a1_9) := (blk_cell BK172.out 9).trans rfl
                          have hfz77_0 := blk_frozen BK172.out 0
                          have hfz77_1 := blk_frozen BK172.out 1
                          have hfz77_2 := blk_frozen BK172.out 2
                          have hfz77_3 := blk_frozen BK172.out 3
                          have hfz77_4 := blk_frozen BK172.out 4
                          have hfz77_5 := blk_frozen BK172.out 5
                          have hfz77_6 := blk_frozen BK172.out 6
                          have hfz77_7 := blk_frozen BK172.out 7
                          have hfz77_8 := blk_frozen BK172.out 8
                          have hfz77_9 := blk_frozen BK172.out 9
                          have hnb78 := NB173_171.out
                          have hnc78 := NB171_173.out
                          have hcz79_0 : w64.cell? ⟨gb173, 0, none⟩ = some (.int .u32 a2_0) := (blk_cell BK173.out 0).trans rfl
                          have hcz79_1 : w64.cell? ⟨gb173, 1, none⟩ = some (.int .i32 a2_1) := (blk_cell BK173.out 1).trans rfl
                          have hcz79_2 : w64.cell? ⟨gb173, 2, none⟩ = some (.int .i32 a2_2) := (blk_cell BK173.out 2).trans rfl
                          have hcz79_3 : w64.cell? ⟨gb173, 3, none⟩ = some (.int .i32 a2_3) := (blk_cell BK173.out 3).trans rfl
                          have hcz79_4 : w64.cell? ⟨gb173, 4, none⟩ = some (.int .i32 a2_4) := (blk_cell BK173.out 4).trans rfl
                          have hcz79_5 : w64.cell? ⟨gb173, 5, none⟩ = some (.int .i32 a2_5) := (blk_cell BK173.out 5).trans rfl
                          have hcz79_6 : w64.cell? ⟨gb173, 6, none⟩ = some (.int .i32 a2_6) := (blk_cell BK173.out 6).trans rfl
                          have hcz79_7 : w64.cell? ⟨gb173, 7, none⟩ = some (.int .i32 a2_7) := (blk_cell BK173.out 7).trans rfl
                          have hcz79_8 : w64.cell? ⟨gb173, 8, none⟩ = some (.int .i32 a2_8) := (blk_cell BK173.out 8).trans rfl
                          have hcz79_9 : w64.cell? ⟨gb173, 9, none⟩ = some (.int .i32 a2_9) := (blk_cell BK173.out 9).trans rfl
                          have hfz79_0 := blk_frozen BK173.out 0
                          have hfz79_1 := blk_frozen BK173.out 1
                          have hfz79_2 := blk_frozen BK173.out 2
                          have hfz79_3 := blk_frozen BK173.out 3
                          have hfz79_4 := blk_frozen BK173.out 4
                          have hfz79_5 := blk_frozen BK173.out 5
                          have hfz79_6 := blk_frozen BK173.out 6
                          have hfz79_7 := blk_frozen BK173.out 7
                          have hfz79_8 := blk_frozen BK173.out 8
                          have hfz79_9 := blk_frozen BK173.out 9
                          go_wp2
                          go_meet
                          case rel => exact ⟨_, (true), (by first | rfl | (simp; done) | (simp [*]; done)), H', ⟨by have := HJ3.out; have := HJ22.out; first | omega | exact Nat.le_refl _⟩, ⟨by (with_reducible repeat (first | refine blk_drewN ?_ _ | refine blk_drew ?_ | refine blk_alloc ?_ _)); exact BK171.out⟩, ⟨by (with_reducible repeat (first | refine blk_drewN ?_ _ | refine blk_drew ?_ | refine blk_alloc ?_ _)); exact BK172.out⟩, ⟨by (with_reducible repeat (first | refine blk_drewN ?_ _ | refine blk_drew ?_ | refine blk_alloc ?_ _)); exact BK173.out⟩, ⟨by repeat (first | (with_reducible first | exact HB.out | apply below_alloc | apply pw_below_drewN | apply below_drew1 | refine below_set ?_ GE171.out | refine below_set ?_ GE172.out | refine below_set ?_ GE173.out) | exact HB.out)⟩⟩
                      · rw [if_neg c68] at H
                        have c68b0 : (a2_4 == 0) = false := beq_eq_false_iff_ne.mpr c68
                        have c68b1 : (a2_4 != 0) = true := bne_iff_ne.mpr c68
                        have H' := Aside0.mk H
                        clear H
                        have hnb80 := NB172_171.out
                        have hnc80 := NB171_172.out
                        have hnb81 := NB172_173.out
                        have hnc81 := NB173_172.out
                        have hcz82_0 : w64.cell? ⟨gb172, 0, none⟩ = some (.int .u32 a1_0) := (blk_cell BK172.out 0).trans rfl
                        have hcz82_1 : w64.cell? ⟨gb172, 1, none⟩ = some (.int .i32 a1_1) := (blk_cell BK172.out 1).trans rfl
                        have hcz82_2 : w64.cell? ⟨gb172, 2, none⟩ = some (.int .i32 a1_2) := (blk_cell BK172.out 2).trans rfl
                        have hcz82_3 : w64.cell? ⟨gb172, 3, none⟩ = some (.int .i32 a1_3) := (blk_cell BK172.out 3).trans rfl
                        have hcz82_4 : w64.cell? ⟨gb172, 4, none⟩ = some (.int .i32 a1_4) := (blk_cell BK172.out 4).trans rfl
                        have hcz82_5 : w64.cell? ⟨gb172, 5, none⟩ = some (.int .i32 a1_5) := (blk_cell BK172.out 5).trans rfl
                        have hcz82_6 : w64.cell? ⟨gb172, 6, none⟩ = some (.int .i32 a1_6) := (blk_cell BK172.out 6).trans rfl
                        have hcz82_7 : w64.cell? ⟨gb172, 7, none⟩ = some (.int .i32 a1_7) := (blk_cell BK172.out 7).trans rfl
                        have hcz82_8 : w64.cell? ⟨gb172, 8, none⟩ = some (.int .i32 a1_8) := (blk_cell BK172.out 8).trans rfl
                        have hcz82_9 : w64.cell? ⟨gb172, 9, none⟩ = some (.int .i32 a1_9) := (blk_cell BK172.out 9).trans rfl
                        have hfz82_0 := blk_frozen BK172.out 0
                        have hfz82_1 := blk_frozen BK172.out 1
                        have hfz82_2 := blk_frozen BK172.out 2
                        have hfz82_3 := blk_frozen BK172.out 3
                        have hfz82_4 := blk_frozen BK172.out 4
                        have hfz82_5 := blk_frozen BK172.out 5
                        have hfz82_6 := blk_frozen BK172.out 6
                        have hfz82_7 := blk_frozen BK172.out 7
                        have hfz82_8 := blk_frozen BK172.out 8
                        have hfz82_9 := blk_frozen BK172.out 9
                        have hnb83 := NB173_171.out
                        have hnc83 := NB171_173.out
                        have hcz84_0 : w64.cell? ⟨gb173, 0, none⟩ = some (.int .u32 a2_0) := (blk_cell BK173.out 0).trans rfl
                        have hcz84_1 : w64.cell? ⟨gb173, 1, none⟩ = some (.int .i32 a2_1) := (blk_cell BK173.out 1).trans rfl
                        have hcz84_2 : w64.cell? ⟨gb173, 2, none⟩ = some (.int .i32 a2_2) := (blk_cell BK173.out 2).trans rfl
                        have hcz84_3 : w64.cell? ⟨gb173, 3, none⟩ = some (.int .i32 a2_3) := (blk_cell BK173.out 3).trans rfl
                        have hcz84_4 : w64.cell? ⟨gb173, 4, none⟩ = some (.int .i32 a2_4) := (blk_cell BK173.out 4).trans rfl
                        have hcz84_5 : w64.cell? ⟨gb173, 5, none⟩ = some (.int .i32 a2_5) := (blk_cell BK173.out 5).trans rfl
                        have hcz84_6 : w64.cell? ⟨gb173, 6, none⟩ = some (.int .i32 a2_6) := (blk_cell BK173.out 6).trans rfl
                        have hcz84_7 : w64.cell? ⟨gb173, 7, none⟩ = some (.int .i32 a2_7) := (blk_cell BK173.out 7).trans rfl
                        have hcz84_8 : w64.cell? ⟨gb173, 8, none⟩ = some (.int .i32 a2_8) := (blk_cell BK173.out 8).trans rfl
                        have hcz84_9 : w64.cell? ⟨gb173, 9, none⟩ = some (.int .i32 a2_9) := (blk_cell BK173.out 9).trans rfl
                        have hfz84_0 := blk_frozen BK173.out 0
                        have hfz84_1 := blk_frozen BK173.out 1
                        have hfz84_2 := blk_frozen BK173.out 2
                        have hfz84_3 := blk_frozen BK173.out 3
                        have hfz84_4 := blk_frozen BK173.out 4
                        have hfz84_5 := blk_frozen BK173.out 5
                        have hfz84_6 := blk_frozen BK173.out 6
                        have hfz84_7 := blk_frozen BK173.out 7
                        have hfz84_8 := blk_frozen BK173.out 8
                        have hfz84_9 := blk_frozen BK173.out 9
                        go_wp2
                        go_meet
                        case rel => exact ⟨_, (false), (by first | rfl | (simp; done) | (simp [*]; done)), H', ⟨by have := HJ3.out; have := HJ22.out; first | omega | exact Nat.le_refl _⟩, ⟨by (with_reducible repeat (first | refine blk_drewN ?_ _ | refine blk_drew ?_ | refine blk_alloc ?_ _)); exact BK171.out⟩, ⟨by (with_reducible repeat (first | refine blk_drewN ?_ _ | refine blk_drew ?_ | refine blk_alloc ?_ _)); exact BK172.out⟩, ⟨by (with_reducible repeat (first | refine blk_drewN ?_ _ | refine blk_drew ?_ | refine blk_alloc ?_ _)); exact BK173.out⟩, ⟨by repeat (first | (with_reducible first | exact HB.out | apply below_alloc | apply pw_below_drewN | apply below_drew1 | refine below_set ?_ GE171.out | refine below_set ?_ GE172.out | refine below_set ?_ GE173.out) | exact HB.out)⟩⟩
                    · rw [if_neg c67] at H
                      have c67b0 : (t180 == 0) = false := beq_eq_false_iff_ne.mpr c67
                      have c67b1 : (t180 != 0) = true := bne_iff_ne.mpr c67
                      have H' := Aside0.mk H
                      clear H
                      have hnb85 := NB172_171.out
                      have hnc85 := NB171_172.out
                      have hnb86 := NB172_173.out
                      have hnc86 := NB173_172.out
                      have hcz87_0 : w64.cell? ⟨gb172, 0, none⟩ = some (.int .u32 a1_0) := (blk_cell BK172.out 0).trans rfl
                      have hcz87_1 : w64.cell? ⟨gb172, 1, none⟩ = some (.int .i32 a1_1) := (blk_cell BK172.out 1).trans rfl
                      have hcz87_2 : w64.cell? ⟨gb172, 2, none⟩ = some (.int .i32 a1_2) := (blk_cell BK172.out 2).trans rfl
                      have hcz87_3 : w64.cell? ⟨gb172, 3, none⟩ = some (.int .i32 a1_3) := (blk_cell BK172.out 3).trans rfl
                      have hcz87_4 : w64.cell? ⟨gb172, 4, none⟩ = some (.int .i32 a1_4) := (blk_cell BK172.out 4).trans rfl
                      have hcz87_5 : w64.cell? ⟨gb172, 5, none⟩ = some (.int .i32 a1_5) := (blk_cell BK172.out 5).trans rfl
                      have hcz87_6 : w64.cell? ⟨gb172, 6, none⟩ = some (.int .i32 a1_6) := (blk_cell BK172.out 6).trans rfl
                      have hcz87_7 : w64.cell? ⟨gb172, 7, none⟩ = some (.int .i32 a1_7) := (blk_cell BK172.out 7).trans rfl
                      have hcz87_8 : w64.cell? ⟨gb172, 8, none⟩ = some (.int .i32 a1_8) := (blk_cell BK172.out 8).trans rfl
                      have hcz87_9 : w64.cell? ⟨gb172, 9, none⟩ = some (.int .i32 a1_9) := (blk_cell BK172.out 9).trans rfl
                      have hfz87_0 := blk_frozen BK172.out 0
                      have hfz87_1 := blk_frozen BK172.out 1
                      have hfz87_2 := blk_frozen BK172.out 2
                      have hfz87_3 := blk_frozen BK172.out 3
                      have hfz87_4 := blk_frozen BK172.out 4
                      have hfz87_5 := blk_frozen BK172.out 5
                      have hfz87_6 := blk_frozen BK172.out 6
                      have hfz87_7 := blk_frozen BK172.out 7
                      have hfz87_8 := blk_frozen BK172.out 8
                      have hfz87_9 := blk_frozen BK172.out 9
                      go_wp2
                      go_meet
                      case rel => exact ⟨_, (true), (by first | rfl | (simp; done) | (simp [*]; done)), H', ⟨by have := HJ3.out; have := HJ22.out; first | omega | exact Nat.le_refl _⟩, ⟨by (with_reducible repeat (first | refine blk_drewN ?_ _ | refine blk_drew ?_ | refine blk_alloc ?_ _)); exact BK171.out⟩, ⟨by (with_reducible repeat (first | refine blk_drewN ?_ _ | refine blk_drew ?_ | refine blk_alloc ?_ _)); exact BK172.out⟩, ⟨by (with_reducible repeat (first | refine blk_drewN ?_ _ | refine blk_drew ?_ | refine blk_alloc ?_ _)); exact BK173.out⟩, ⟨by repeat (first | (with_reducible first | exact HB.out | apply below_alloc | apply pw_below_drewN | apply below_drew1 | refine below_set ?_ GE171.out | refine below_set ?_ GE172.out | refine below_set ?_ GE173.out) | exact HB.out)⟩⟩
                  · rw [if_neg c66] at H
                    have c66b0 : (t179 == 0) = false := beq_eq_false_iff_ne.mpr c66
                    have c66b1 : (t179 != 0) = true := bne_iff_ne.mpr c66
                    have H' := Aside0.mk H
                    clear H
                    have hnb88 := NB172_171.out
                    have hnc88 := NB171_172.out
                    have hnb89 := NB172_173.out
                    have hnc89 := NB173_172.out
                    have hcz90_0 : w64.cell? ⟨gb172, 0, none⟩ = some (.int .u32 a1_0) := (blk_cell BK172.out 0).trans rfl
                    have hcz90_1 : w64.cell? ⟨gb172, 1, none⟩ = some (.int .i32 a1_1) := (blk_cell BK172.out 1).trans rfl
                    have hcz90_2 : w64.cell? ⟨gb172, 2, none⟩ = some (.int .i32 a1_2) := (blk_cell BK172.out 2).trans rfl
                    have hcz90_3 : w64.cell? ⟨gb172, 3, none⟩ = some (.int .i32 a1_3) := (blk_cell BK172.out 3).trans rfl
                    have hcz90_4 : w64.cell? ⟨gb172, 4, none⟩ = some (.int .i32 a1_4) := (blk_cell BK172.out 4).trans rfl
                    have hcz90_5 : w64.cell? ⟨gb172, 5, none⟩ = some (.int .i32 a1_5) := (blk_cell BK172.out 5).trans rfl
                    have hcz90_6 : w64.cell? ⟨gb172, 6, none⟩ = some (.int .i32 a1_6) := (blk_cell BK172.out 6).trans rfl
                    have hcz90_7 : w64.cell? ⟨gb172, 7, none⟩ = some (.int .i32 a1_7) := (blk_cell BK172.out 7).trans rfl
                    have hcz90_8 : w64.cell? ⟨gb172, 8, none⟩ = some (.int .i32 a1_8) := (blk_cell BK172.out 8).trans rfl
                    have hcz90_9 : w64.cell? ⟨gb172, 9, none⟩ = some (.int .i32 a1_9) := (blk_cell BK172.out 9).trans rfl
                    have hfz90_0 := blk_frozen BK172.out 0
                    have hfz90_1 := blk_frozen BK172.out 1
                    have hfz90_2 := blk_frozen BK172.out 2
                    have hfz90_3 := blk_frozen BK172.out 3
                    have hfz90_4 := blk_frozen BK172.out 4
                    have hfz90_5 := blk_frozen BK172.out 5
                    have hfz90_6 := blk_frozen BK172.out 6
                    have hfz90_7 := blk_frozen BK172.out 7
                    have hfz90_8 := blk_frozen BK172.out 8
                    have hfz90_9 := blk_frozen BK172.out 9
                    go_wp2
                    go_meet
                    case rel => exact ⟨_, (true), (by first | rfl | (simp; done) | (simp [*]; done)), H', ⟨by have := HJ3.out; have := HJ22.out; first | omega | exact Nat.le_refl _⟩, ⟨by (with_reducible repeat (first | refine blk_drewN ?_ _ | refine blk_drew ?_ | refine blk_alloc ?_ _)); exact BK171.out⟩, ⟨by (with_reducible repeat (first | refine blk_drewN ?_ _ | refine blk_drew ?_ | refine blk_alloc ?_ _)); exact BK172.out⟩, ⟨by (with_reducible repeat (first | refine blk_drewN ?_ _ | refine blk_drew ?_ | refine blk_alloc ?_ _)); exact BK173.out⟩, ⟨by repeat (first | (with_reducible first | exact HB.out | apply below_alloc | apply pw_below_drewN | apply below_drew1 | refine below_set ?_ GE171.out | refine below_set ?_ GE172.out | refine below_set ?_ GE173.out) | exact HB.out)⟩⟩
                · rw [if_neg c65] at H
                  have c65b0 : (a1_4 == 0) = false := beq_eq_false_iff_ne.mpr c65
                  have c65b1 : (a1_4 != 0) = true := bne_iff_ne.mpr c65
                  (first | rw [c65b0] | (simp only [i64_w, i32_w]; rw [c65b0]) | skip)
                  by_cases c91 : a2_4 = 0
                  · rw [if_pos c91] at H
                    have c91b0 : (a2_4 == 0) = true := beq_iff_eq.mpr c91
                    have c91b1 : (a2_4 != 0) = false := bne_eq_false_iff_eq.mpr c91
                    clear c91
                    by_cases c92 : t181 = 0
                    · rw [if_pos c92] at H
                      have c92b0 : (t181 == 0) = true := beq_iff_eq.mpr c92
                      have c92b1 : (t181 != 0) = false := bne_eq_false_iff_eq.mpr c92
                      clear c92
                      have H' := Aside0.mk H
                      clear H
                      have hnb93 := NB172_171.out
                      have hnc93 := NB171_172.out
                      have hnb94 := NB172_173.out
                      have hnc94 := NB173_172.out
                      have hcz95_0 : w64.cell? ⟨gb172, 0, none⟩ = some (.int .u32 a1_0) := (blk_cell BK172.out 0).trans rfl
                      have hcz95_1 : w64.cell? ⟨gb172, 1, none⟩ = some (.int .i32 a1_1) := (blk_cell BK172.out 1).trans rfl
                      have hcz95_2 : w64.cell? ⟨gb172, 2, none⟩ = some (.int .i32 a1_2) := (blk_cell BK172.out 2).trans rfl
                      have hcz95_3 : w64.cell? ⟨gb172, 3, none⟩ = some (.int .i32 a1_3) := (blk_cell BK172.out 3).trans rfl
                      have hcz95_4 : w64.cell? ⟨gb172, 4, none⟩ = some (.int .i32 a1_4) := (blk_cell BK172.out 4).trans rfl
                      have hcz95_5 : w64.cell? ⟨gb172, 5, none⟩ = some (.int .i32 a1_5) := (blk_cell BK172.out 5).trans rfl
                      have hcz95_6 : w64.cell? ⟨gb172, 6, none⟩ = some (.int .i32 a1_6) := (blk_cell BK172.out 6).trans rfl
                      have hcz95_7 : w64.cell? ⟨gb172, 7, none⟩ = some (.int .i32 a1_7) := (blk_cell BK172.out 7).trans rfl
                      have hcz95_8 : w64.cell? ⟨gb172, 8, none⟩ = some (.int .i32 a1_8) := (blk_cell BK172.out 8).trans rfl
                      have hcz95_9 : w64.cell? ⟨gb172, 9, none⟩ = some (.int .i32 a1_9) := (blk_cell BK172.out 9).trans rfl
                      have hfz95_0 := blk_frozen BK172.out 0
                      have hfz95_1 := blk_frozen BK172.out 1
                      have hfz95_2 := blk_frozen BK172.out 2
                      have hfz95_3 := blk_frozen BK172.out 3
                      have hfz95_4 := blk_frozen BK172.out 4
                      have hfz95_5 := blk_frozen BK172.out 5
                      have hfz95_6 := blk_frozen BK172.out 6
                      have hfz95_7 := blk_frozen BK172.out 7
                      have hfz95_8 := blk_frozen BK172.out 8
                      have hfz95_9 := blk_frozen BK172.out 9
                      have hnb96 := NB173_171.out
                      have hnc96 := NB171_173.out
                      have hcz97_0 : w64.cell? ⟨gb173, 0, none⟩ = some (.int .u32 a2_0) := (blk_cell BK173.out 0).trans rfl
                      have hcz97_1 : w64.cell? ⟨gb173, 1, none⟩ = some (.int .i32 a2_1) := (blk_cell BK173.out 1).trans rfl
                      have hcz97_2 : w64.cell? ⟨gb173, 2, none⟩ = some (.int .i32 a2_2) := (blk_cell BK173.out 2).trans rfl
                      have hcz97_3 : w64.cell? ⟨gb173, 3, none⟩ = some (.int .i32 a2_3) := (blk_cell BK173.out 3).trans rfl
                      have hcz97_4 : w64.cell? ⟨gb173, 4, none⟩ = some (.int .i32 a2_4) := (blk_cell BK173.out 4).trans rfl
                      have hcz97_5 : w64.cell? ⟨gb173, 5, none⟩ = some (.int .i32 a2_5) := (blk_cell BK173.out 5).trans rfl
                      have hcz97_6 : w64.cell? ⟨gb173, 6, none⟩ = some (.int .i32 a2_6) := (blk_cell BK173.out 6).trans rfl
                      have hcz97_7 : w64.cell? ⟨gb173, 7, none⟩ = some (.int .i32 a2_7) := (blk_cell BK173.out 7).trans rfl
                      have hcz97_8 : w64.cell? ⟨gb173, 8, none⟩ = some (.int .i32 a2_8) := (blk_cell BK173.out 8).trans rfl
                      have hcz97_9 : w64.cell? ⟨gb173, 9, none⟩ = some (.int .i32 a2_9) := (blk_cell BK173.out 9).trans rfl
                      have hfz97_0 := blk_frozen BK173.out 0
                      have hfz97_1 := blk_frozen BK173.out 1
                      have hfz97_2 := blk_frozen BK173.out 2
                      have hfz97_3 := blk_frozen BK173.out 3
                      have hfz97_4 := blk_frozen BK173.out 4
                      have hfz97_5 := blk_frozen BK173.out 5
                      have hfz97_6 := blk_frozen BK173.out 6
                      have hfz97_7 := blk_frozen BK173.out 7
                      have hfz97_8 := blk_frozen BK173.out 8
                      have hfz97_9 := blk_frozen BK173.out 9
                      go_wp2
                      go_meet
                      case rel => exact ⟨_, ((t182 != 0)), (by first | rfl | (simp; done) | (simp [*]; done)), H', ⟨by have := HJ3.out; have := HJ22.out; first | omega | exact Nat.le_refl _⟩, ⟨by (with_reducible repeat (first | refine blk_drewN ?_ _ | refine blk_drew ?_ | refine blk_alloc ?_ _)); exact BK171.out⟩, ⟨by (with_reducible repeat (first | refine blk_drewN ?_ _ | refine blk_drew ?_ | refine blk_alloc ?_ _)); exact BK172.out⟩, ⟨by (with_reducible repeat (first | refine blk_drewN ?_ _ | refine blk_drew ?_ | refine blk_alloc ?_ _)); exact BK173.out⟩, ⟨by repeat (first | (with_reducible first | exact HB.out | apply below_alloc | apply pw_below_drewN | apply below_drew1 | refine below_set ?_ GE171.out | refine below_set ?_ GE172.out | refine below_set ?_ GE173.out) | exact HB.out)⟩⟩
                    · rw [if_neg c92] at H
                      have c92b0 : (t181 == 0) = false := beq_eq_false_iff_ne.mpr c92
                      have c92b1 : (t181 != 0) = true := bne_iff_ne.mpr c92
                      have H' := Aside0.mk H
                      clear H
                      have hnb98 := NB172_171.out
                      have hnc98 := NB171_172.out
                      have hnb99 := NB172_173.out
                      have hnc99 := NB173_172.out
                      have hcz100_0 : w64.cell? ⟨gb172, 0, none⟩ = some (.int .u32 a1_0) := (blk_cell BK172.out 0).trans rfl
                      have hcz100_1 : w64.cell? ⟨gb172, 1, none⟩ = some (.int .i32 a1_1) := (blk_cell BK172.out 1).trans rfl
                      have hcz100_2 : w64.cell? ⟨gb172, 2, none⟩ = some (.int .i32 a1_2) := (blk_cell BK172.out 2).trans rfl
                      have hcz100_3 : w64.cell? ⟨gb172, 3, none⟩ = some (.int .i32 a1_3) := (blk_cell BK172.out 3).trans rfl
                      have hcz100_4 : w64.cell? ⟨gb172, 4, none⟩ = some (.int .i32 a1_4) := (blk_cell BK172.out 4).trans rfl
                      have hcz100_5 : w64.cell? ⟨gb172, 5, none⟩ = some (.int .i32 a1_5) := (blk_cell BK172.out 5).trans rfl
                      have hcz100_6 : w64.cell? ⟨gb172, 6, none⟩ = some (.int .i32 a1_6) := (blk_cell BK172.out 6).trans rfl
                      have hcz100_7 : w64.cell? ⟨gb172, 7, none⟩ = some (.int .i32 a1_7) := (blk_cell BK172.out 7).trans rfl
                      have hcz100_8 : w64.cell? ⟨gb172, 8, none⟩ = some (.int .i32 a1_8) := (blk_cell BK172.out 8).trans rfl
                      have hcz100_9 : w64.cell? ⟨gb172, 9, none⟩ = some (.int .i32 a1_9) := (blk_cell BK172.out 9).trans rfl
                      have hfz100_0 := blk_frozen BK172.out 0
                      have hfz100_1 := blk_frozen BK172.out 1
                      have hfz100_2 := blk_frozen BK172.out 2
                      have hfz100_3 := blk_frozen BK172.out 3
                      have hfz100_4 := blk_frozen BK172.out 4
                      have hfz100_5 := blk_frozen BK172.out 5
                      have hfz100_6 := blk_frozen BK172.out 6
                      have hfz100_7 := blk_frozen BK172.out 7
                      have hfz100_8 := blk_frozen BK172.out 8
                      have hfz100_9 := blk_frozen BK172.out 9
                      have hnb101 := NB173_171.out
                      have hnc101 := NB171_173.out
                      have hcz102_0 : w64.cell? ⟨gb173, 0, none⟩ = some (.int .u32 a2_0) := (blk_cell BK173.out 0).trans rfl
                      have hcz102_1 : w64.cell? ⟨gb173, 1, none⟩ = some (.int .i32 a2_1) := (blk_cell BK173.out 1).trans rfl
                      have hcz102_2 : w64.cell? ⟨gb173, 2, none⟩ = some (.int .i32 a2_2) := (blk_cell BK173.out 2).trans rfl
                      have hcz102_3 : w64.cell? ⟨gb173, 3, none⟩ = some (.int .i32 a2_3) := (blk_cell BK173.out 3).trans rfl
                      have hcz102_4 : w64.cell? ⟨gb173, 4, none⟩ = some (.int .i32 a2_4) := (blk_cell BK173.out 4).trans rfl
                      have hcz102_5 : w64.cell? ⟨gb173, 5, none⟩ = some (.int .i32 a2_5) := (blk_cell BK173.out 5).trans rfl
                      have hcz102_6 : w64.cell? ⟨gb173, 6, none⟩ = some (.int .i32 a2_6) := (blk_cell BK173.out 6).trans rfl
                      have hcz102_7 : w64.cell? ⟨gb173, 7, none⟩ = some (.int .i32 a2_7) := (blk_cell BK173.out 7).trans rfl
                      have hcz102_8 : w64.cell? ⟨gb173, 8, none⟩ = some (.int .i32 a2_8) := (blk_cell BK173.out 8).trans rfl
                      have hcz102_9 : w64.cell? ⟨gb173, 9, none⟩ = some (.int .i32 a2_9) := (blk_cell BK173.out 9).trans rfl
                      have hfz102_0 := blk_frozen BK173.out 0
                      have hfz102_1 := blk_frozen BK173.out 1
                      have hfz102_2 := blk_frozen BK173.out 2
                      have hfz102_3 := blk_frozen BK173.out 3
                      have hfz102_4 := blk_frozen BK173.out 4
                      have hfz102_5 := blk_frozen BK173.out 5
                      have hfz102_6 := blk_frozen BK173.out 6
                      have hfz102_7 := blk_frozen BK173.out 7
                      have hfz102_8 := blk_frozen BK173.out 8
                      have hfz102_9 := blk_frozen BK173.out 9
                      go_wp2
                      go_meet
                      case rel => exact ⟨_, (true), (by first | rfl | (simp; done) | (simp [*]; done)), H', ⟨by have := HJ3.out; have := HJ22.out; first | omega | exact Nat.le_refl _⟩, ⟨by (with_reducible repeat (first | refine blk_drewN ?_ _ | refine blk_drew ?_ | refine blk_alloc ?_ _)); exact BK171.out⟩, ⟨by (with_reducible repeat (first | refine blk_drewN ?_ _ | refine blk_drew ?_ | refine blk_alloc ?_ _)); exact BK172.out⟩, ⟨by (with_reducible repeat (first | refine blk_drewN ?_ _ | refine blk_drew ?_ | refine blk_alloc ?_ _)); exact BK173.out⟩, ⟨by repeat (first | (with_reducible first | exact HB.out | apply below_alloc | apply pw_below_drewN | apply below_drew1 | refine below_set ?_ GE171.out | refine below_set ?_ GE172.out | refine below_set ?_ GE173.out) | exact HB.out)⟩⟩
                  · rw [if_neg c91] at H
                    have c91b0 : (a2_4 == 0) = false := beq_eq_false_iff_ne.mpr c91
                    have c91b1 : (a2_4 != 0) = true := bne_iff_ne.mpr c91
                    have H' := Aside0.mk H
                    clear H
                    have hnb103 := NB172_171.out
                    have hnc103 := NB171_172.out
                    have hnb104 := NB172_173.out
                    have hnc104 := NB173_172.out
                    have hcz105_0 : w64.cell? ⟨gb172, 0, none⟩ = some (.int .u32 a1_0) := (blk_cell BK172.out 0).trans rfl
                    have hcz105_1 : w64.cell? ⟨gb172, 1, none⟩ = some (.int .i32 a1_1) := (blk_cell BK172.out 1).trans rfl
                    have hcz105_2 : w64.cell? ⟨gb172, 2, none⟩ = some (.int .i32 a1_2) := (blk_cell BK172.out 2).trans rfl
                    have hcz105_3 : w64.cell? ⟨gb172, 3, none⟩ = some (.int .i32 a1_3) := (blk_cell BK172.out 3).trans rfl
                    have hcz105_4 : w64.cell? ⟨gb172, 4, none⟩ = some (.int .i32 a1_4) := (blk_cell BK172.out 4).trans rfl
                    have hcz105_5 : w64.cell? ⟨gb172, 5, none⟩ = some (.int .i32 a1_5) := (blk_cell BK172.out 5).trans rfl
                    have hcz105_6 : w64.cell? ⟨gb172, 6, none⟩ = some (.int .i32 a1_6) := (blk_cell BK172.out 6).trans rfl
                    have hcz105_7 : w64.cell? ⟨gb172, 7, none⟩ = some (.int .i32 a1_7) := (blk_cell BK172.out 7).trans rfl
                    have hcz105_8 : w64.cell? ⟨gb172, 8, none⟩ = some (.int .i32 a1_8) := (blk_cell BK172.out 8).trans rfl
                    have hcz105_9 : w64.cell? ⟨gb172, 9, none⟩ = some (.int .i32 a1_9) := (blk_cell BK172.out 9).trans rfl
                    have hfz105_0 := blk_frozen BK172.out 0
                    have hfz105_1 := blk_frozen BK172.out 1
                    have hfz105_2 := blk_frozen BK172.out 2
                    have hfz105_3 := blk_frozen BK172.out 3
                    have hfz105_4 := blk_frozen BK172.out 4
                    have hfz105_5 := blk_frozen BK172.out 5
                    have hfz105_6 := blk_frozen BK172.out 6
                    have hfz105_7 := blk_frozen BK172.out 7
                    have hfz105_8 := blk_frozen BK172.out 8
                    have hfz105_9 := blk_frozen BK172.out 9
                    have hnb106 := NB173_171.out
                    have hnc106 := NB171_173.out
                    have hcz107_0 : w64.cell? ⟨gb173, 0, none⟩ = some (.int .u32 a2_0) := (blk_cell BK173.out 0).trans rfl
                    have hcz107_1 : w64.cell? ⟨gb173, 1, none⟩ = some (.int .i32 a2_1) := (blk_cell BK173.out 1).trans rfl
                    have hcz107_2 : w64.cell? ⟨gb173, 2, none⟩ = some (.int .i32 a2_2) := (blk_cell BK173.out 2).trans rfl
                    have hcz107_3 : w64.cell? ⟨gb173, 3, none⟩ = some (.int .i32 a2_3) := (blk_cell BK173.out 3).trans rfl
                    have hcz107_4 : w64.cell? ⟨gb173, 4, none⟩ = some (.int .i32 a2_4) := (blk_cell BK173.out 4).trans rfl
                    have hcz107_5 : w64.cell? ⟨gb173, 5, none⟩ = some (.int .i32 a2_5) := (blk_cell BK173.out 5).trans rfl
                    have hcz107_6 : w64.cell? ⟨gb173, 6, none⟩ = some (.int .i32 a2_6) := (blk_cell BK173.out 6).trans rfl
                    have hcz107_7 : w64.cell? ⟨gb173, 7, none⟩ = some (.int .i32 a2_7) := (blk_cell BK173.out 7).trans rfl
                    have hcz107_8 : w64.cell? ⟨gb173, 8, none⟩ = some (.int .i32 a2_8) := (blk_cell BK173.out 8).trans rfl
                    have hcz107_9 : w64.cell? ⟨gb173, 9, none⟩ = some (.int .i32 a2_9) := (blk_cell BK173.out 9).trans rfl
                    have hfz107_0 := blk_frozen BK173.out 0
                    have hfz107_1 := blk_frozen BK173.out 1
                    have hfz107_2 := blk_frozen BK173.out 2
                    have hfz107_3 := blk_frozen BK173.out 3
                    have hfz107_4 := blk_frozen BK173.out 4
                    have hfz107_5 := blk_frozen BK173.out 5
                    have hfz107_6 := blk_frozen BK173.out 6
                    have hfz107_7 := blk_frozen BK173.out 7
                    have hfz107_8 := blk_frozen BK173.out 8
                    have hfz107_9 := blk_frozen BK173.out 9
                    go_wp2
                    go_meet
                    case rel => exact ⟨_, (false), (by first | rfl | (simp; done) | (simp [*]; done)), H', ⟨by have := HJ3.out; have := HJ22.out; first | omega | exact Nat.le_refl _⟩, ⟨by (with_reducible repeat (first | refine blk_drewN ?_ _ | refine blk_drew ?_ | refine blk_alloc ?_ _)); exact BK171.out⟩, ⟨by (with_reducible repeat (first | refine blk_drewN ?_ _ | refine blk_drew ?_ | refine blk_alloc ?_ _)); exact BK172.out⟩, ⟨by (with_reducible repeat (first | refine blk_drewN ?_ _ | refine blk_drew ?_ | refine blk_alloc ?_ _)); exact BK173.out⟩, ⟨by repeat (first | (with_reducible first | exact HB.out | apply below_alloc | apply pw_below_drewN | apply below_drew1 | refine below_set ?_ GE171.out | refine below_set ?_ GE172.out | refine below_set ?_ GE173.out) | exact HB.out)⟩⟩
              case rest =>
                clear HC55
                try clear c1
                try clear p2
                try clear c5
                try clear c6
                try clear c7
                try clear c8
                try clear c9
                try clear c10
                try clear c15
                try clear c52
                try clear c56
                try clear c57
                try clear c59
                try clear c65
                try clear c65b0
                try clear c65b1
                try clear c66
                try clear c66b0
                try clear c66b1
                try clear c67
                try clear c67b0
                try clear c67b1
                try clear c68
                try clear c68b0
                try clear c68b1
                try clear c69
                try clear c69b0
                try clear c69b1
                try clear c70
                try clear c71
                try clear c73
                try clear c75
                try clear c76
                try clear c78
                try clear c80
                try clear c81
                try clear c83
                try clear c85
                try clear c86
                try clear c88
                try clear c89
                try clear c91
                try clear c91b0
                try clear c91b1
                try clear c92
                try clear c92b0
                try clear c92b1
                try clear c93
                try clear c94
                try clear c96
                try clear c98
                try clear c99
                try clear c101
                try clear c103
                try clear c104
                try clear c106
                try clear hcz100_0
                try clear hcz100_1
                try clear hcz100_2
                try clear hcz100_3
                try clear hcz100_4
                try clear hcz100_5
                try clear hcz100_6
                try clear hcz100_7
                try clear hcz100_8
                try clear hcz100_9
                try clear hcz102_0
                try clear hcz102_1
                try clear hcz102_2
                try clear hcz102_3
                try clear hcz102_4
                try clear hcz102_5
                try clear hcz102_6
                try clear hcz102_7
                try clear hcz102_8
                try clear hcz102_9
                try clear hcz105_0
                try clear hcz105_1
                try clear hcz105_2
                try clear hcz105_3
                try clear hcz105_4
                try clear hcz105_5
                try clear hcz105_6
                try clear hcz105_7
                try clear hcz105_8
                try clear hcz105_9
                try clear hcz107_0
                try clear hcz107_1
                try clear hcz107_2
                try clear hcz107_3
                try clear hcz107_4
                try clear hcz107_5
                try clear hcz107_6
                try clear hcz107_7
                try clear hcz107_8
                try clear hcz107_9
                try clear hcz58_0
                try clear hcz58_1
                try clear hcz58_2
                try clear hcz58_3
                try clear hcz58_4
                try clear hcz58_5
                try clear hcz58_6
                try clear hcz58_7
                try clear hcz58_8
                try clear hcz58_9
                try clear hcz60_0
                try clear hcz60_1
                try clear hcz60_2
                try clear hcz60_3
                try clear hcz60_4
                try clear hcz62_0
                try clear hcz62_1
                try clear hcz62_2
                try clear hcz62_3
                try clear hcz62_4
                try clear hcz62_5
                try clear hcz62_6
                try clear hcz62_7
                try clear hcz62_8
                try clear hcz62_9
                try clear hcz63_0
                try clear hcz63_1
                try clear hcz63_2
                try clear hcz63_3
                try clear hcz63_4
                try clear hcz72_0
                try clear hcz72_1
                try clear hcz72_2
                try clear hcz72_3
                try clear hcz72_4
                try clear hcz72_5
                try clear hcz72_6
                try clear hcz72_7
                try clear hcz72_8
                try clear hcz72_9
                try clear hcz74_0
                try clear hcz74_1
                try clear hcz74_2
                try clear hcz74_3
                try clear hcz74_4
                try clear hcz74_5
                try clear hcz74_6
                try clear hcz74_7
                try clear hcz74_8
                try clear hcz74_9
                try clear hcz77_0
                try clear hcz77_1
                try clear hcz77_2
                try clear hcz77_3
                try clear hcz77_4
                try clear hcz77_5
                try clear hcz77_6
                try clear hcz77_7
                try clear hcz77_8
                try clear hcz77_9
                try clear hcz79_0
                try clear hcz79_1
                try clear hcz79_2
                try clear hcz79_3
                try clear hcz79_4
                try clear hcz79_5
                try clear hcz79_6
                try clear hcz79_7
                try clear hcz79_8
                try clear hcz79_9
                try clear hcz82_0
                try clear hcz82_1
                try clear hcz82_2
                try clear hcz82_3
                try clear hcz82_4
                try clear hcz82_5
                try clear hcz82_6
                try clear hcz82_7
                try clear hcz82_8
                try clear hcz82_9
                try clear hcz84_0
                try clear hcz84_1
                try clear hcz84_2
                try clear hcz84_3
                try clear hcz84_4
                try clear hcz84_5
                try clear hcz84_6
                try clear hcz84_7
                try clear hcz84_8
                try clear hcz84_9
                try clear hcz87_0
                try clear hcz87_1
                try clear hcz87_2
                try clear hcz87_3
                try clear hcz87_4
                try clear hcz87_5
                try clear hcz87_6
                try clear hcz87_7
                try clear hcz87_8
                try clear hcz87_9
                try clear hcz90_0
                try clear hcz90_1
                try clear hcz90_2
                try clear hcz90_3
                try clear hcz90_4
                try clear hcz90_5
                try clear hcz90_6
                try clear hcz90_7
                try clear hcz90_8
                try clear hcz90_9
                try clear hcz95_0
                try clear hcz95_1
                try clear hcz95_2
                try clear hcz95_3
                try clear hcz95_4
                try clear hcz95_5
                try clear hcz95_6
                try clear hcz95_7
                try clear hcz95_8
                try clear hcz95_9
                try clear hcz97_0
                try clear hcz97_1
                try clear hcz97_2
                try clear hcz97_3
                try clear hcz97_4
                try clear hcz97_5
                try clear hcz97_6
                try clear hcz97_7
                try clear hcz97_8
                try clear hcz97_9
                try clear hfz100_0
                try clear hfz100_1
                try clear hfz100_2
                try clear hfz100_3
                try clear hfz100_4
                try clear hfz100_5
                try clear hfz100_6
                try clear hfz100_7
                try clear hfz100_8
                try clear hfz100_9
                try clear hfz102_0
                try clear hfz102_1
                try clear hfz102_2
                try clear hfz102_3
                try clear hfz102_4
                try clear hfz102_5
                try clear hfz102_6
                try clear hfz102_7
                try clear hfz102_8
                try clear hfz102_9
                try clear hfz105_0
                try clear hfz105_1
                try clear hfz105_2
                try clear hfz105_3
                try clear hfz105_4
                try clear hfz105_5
                try clear hfz105_6
                try clear hfz105_7
                try clear hfz105_8
                try clear hfz105_9
                try clear hfz107_0
                try clear hfz107_1
                try clear hfz107_2
                try clear hfz107_3
                try clear hfz107_4
                try clear hfz107_5
                try clear hfz107_6
                try clear hfz107_7
                try clear hfz107_8
                try clear hfz107_9
                try clear hfz17_4
                try clear hfz17_5
                try clear hfz17_6
                try clear hfz17_7
                try clear hfz17_8
                try clear hfz17_9
                try clear hfz26_0
                try clear hfz26_1
                try clear hfz26_2
                try clear hfz26_3
                try clear hfz26_4
                try clear hfz28_0
                try clear hfz28_1
                try clear hfz28_2
                try clear hfz28_3
                try clear hfz28_4
                try clear hfz28_5
                try clear hfz28_6
                try clear hfz28_7
                try clear hfz28_8
                try clear hfz28_9
                try clear hfz29_0
                try clear hfz29_1
                try clear hfz29_2
                try clear hfz29_3
                try clear hfz29_4
                try clear hfz29_5
                try clear hfz29_6
                try clear hfz29_7
                try clear hfz29_8
                try clear hfz29_9
                try clear hfz38_0
                try clear hfz38_1
                try clear hfz38_2
                try clear hfz38_3
                try clear hfz38_4
                try clear hfz40_0
                try clear hfz40_1
                try clear hfz40_2
                try clear hfz40_3
                try clear hfz40_4
                try clear hfz40_5
                try clear hfz40_6
                try clear hfz40_7
                try clear hfz40_8
                try clear hfz40_9
                try clear hfz41_0
                try clear hfz41_1
                try clear hfz41_2
                try clear hfz41_3
                try clear hfz41_4
                try clear hfz41_5
                try clear hfz41_6
                try clear hfz41_7
                try clear hfz41_8
                try clear hfz41_9
                try clear hfz45_0
                try clear hfz45_1
                try clear hfz45_2
                try clear hfz45_3
                try clear hfz45_4
                try clear hfz47_0
                try clear hfz47_1
                try clear hfz47_2
                try clear hfz47_3
                try clear hfz47_4
                try clear hfz47_5
                try clear hfz47_6
                try clear hfz47_7
                try clear hfz47_8
                try clear hfz47_9
                try clear hfz48_0
                try clear hfz48_1
                try clear hfz48_2
                try clear hfz48_3
                try clear hfz48_4
                try clear hfz48_5
                try clear hfz48_6
                try clear hfz48_7
                try clear hfz48_8
                try clear hfz48_9
                try clear hfz50_0
                try clear hfz50_1
                try clear hfz50_2
                try clear hfz50_3
                try clear hfz50_4
                try clear hfz50_5
                try clear hfz50_6
                try clear hfz50_7
                try clear hfz50_8
                try clear hfz50_9
                try clear hfz51_0
                try clear hfz51_1
                try clear hfz51_2
                try clear hfz51_3
                try clear hfz51_4
                try clear hfz51_5
                try clear hfz51_6
                try clear hfz51_7
                try clear hfz51_8
                try clear hfz51_9
                try clear hfz58_0
                try clear hfz58_1
                try clear hfz58_2
                try clear hfz58_3
                try clear hfz58_4
                try clear hfz58_5
                try clear hfz58_6
                try clear hfz58_7
                try clear hfz58_8
                try clear hfz58_9
                try clear hfz60_0
                try clear hfz60_1
                try clear hfz60_2
                try clear hfz60_3
                try clear hfz60_4
                try clear hfz62_0
                try clear hfz62_1
                try clear hfz62_2
                try clear hfz62_3
                try clear hfz62_4
                try clear hfz62_5
                try clear hfz62_6
                try clear hfz62_7
                try clear hfz62_8
                try clear hfz62_9
                try clear hfz63_0
                try clear hfz63_1
                try clear hfz63_2
                try clear hfz63_3
                try clear hfz63_4
                try clear hfz72_0
                try clear hfz72_1
                try clear hfz72_2
                try clear hfz72_3
                try clear hfz72_4
                try clear hfz72_5
                try clear hfz72_6
                try clear hfz72_7
                try clear hfz72_8
                try clear hfz72_9
                try clear hfz74_0
                try clear hfz74_1
                try clear hfz74_2
                try clear hfz74_3
                try clear hfz74_4
                try clear hfz74_5
                try clear hfz74_6
                try clear hfz74_7
                try clear hfz74_8
                try clear hfz74_9
                try clear hfz77_0
                try clear hfz77_1
                try clear hfz77_2
                try clear hfz77_3
                try clear hfz77_4
                try clear hfz77_5
                try clear hfz77_6
                try clear hfz77_7
                try clear hfz77_8
                try clear hfz77_9
                try clear hfz79_0
                try clear hfz79_1
                try clear hfz79_2
                try clear hfz79_3
                try clear hfz79_4
                try clear hfz79_5
                try clear hfz79_6
                try clear hfz79_7
                try clear hfz79_8
                try clear hfz79_9
                try clear hfz82_0
                try clear hfz82_1
                try clear hfz82_2
                try clear hfz82_3
                try clear hfz82_4
                try clear hfz82_5
                try clear hfz82_6
                try clear hfz82_7
                try clear hfz82_8
                try clear hfz82_9
                try clear hfz84_0
                try clear hfz84_1
                try clear hfz84_2
                try clear hfz84_3
                try clear hfz84_4
                try clear hfz84_5
                try clear hfz84_6
                try clear hfz84_7
                try clear hfz84_8
                try clear hfz84_9
                try clear hfz87_0
                try clear hfz87_1
                try clear hfz87_2
                try clear hfz87_3
                try clear hfz87_4
                try clear hfz87_5
                try clear hfz87_6
                try clear hfz87_7
                try clear hfz87_8
                try clear hfz87_9
                try clear hfz90_0
                try clear hfz90_1
                try clear hfz90_2
                try clear hfz90_3
                try clear hfz90_4
                try clear hfz90_5
                try clear hfz90_6
                try clear hfz90_7
                try clear hfz90_8
                try clear hfz90_9
                try clear hfz95_0
                try clear hfz95_1
                try clear hfz95_2
                try clear hfz95_3
                try clear hfz95_4
                try clear hfz95_5
                try clear hfz95_6
                try clear hfz95_7
                try clear hfz95_8
                try clear hfz95_9
                try clear hfz97_0
                try clear hfz97_1
                try clear hfz97_2
                try clear hfz97_3
                try clear hfz97_4
                try clear hfz97_5
                try clear hfz97_6
                try clear hfz97_7
                try clear hfz97_8
                try clear hfz97_9
                try clear p2
                obtain ⟨kq, x92_54, rfl, HA, HJ54, BK171, BK172, BK173, HB⟩ := hcut
                cases kq with
                | zero => exact absurd HA.out (by simp [billiardlaw16_ImpulseSeparates.j2])
                | succ kj54 =>
                  have H := HA.out
                  clear HA
                  simp only [billiardlaw16_ImpulseSeparates.j2] at H
                  by_cases c108 : x92_54 = true
                  · subst c108
                    have H1 : (some false) = some r := by rw [if_pos rfl] at H; exact H
                    clear H
                    have H := H1
                    clear H1
                    exact absurd ((Option.some.inj H).trans HR.out) (by decide)
                  · replace c108 := Bool.eq_false_iff.mpr c108
                    subst c108
                    have H1 : ((billiardlaw16_within.f t179).bind fun t183 => (if t183 = true then ((billiardlaw16_within.f t180).bind fun t184 => (if t184 = true then ((billiardlaw16_within.f t181).bind fun t185 => (if t185 = true then ((billiardlaw16_within.f t182).bind fun t186 => (some t186)) else (some false))) else (some false))) else (some false))) = some r := by rw [if_neg (show ¬ (false = true) by decide)] at H; exact H
                    clear H
                    have H := H1
                    clear H1
                    replace H := Option.bind_eq_some_iff.mp H
                    obtain ⟨t183, A1090, H⟩ := H
                    replace H : (if t183 = true then ((billiardlaw16_within.f t180).bind fun t184 => (if t184 = true then ((billiardlaw16_within.f t181).bind fun t185 => (if t185 = true then ((billiardlaw16_within.f t182).bind fun t186 => (some t186)) else (some false))) else (some false))) else (some false)) = some r := H
                    have A109 := Aside0.mk A1090
                    clear A1090
                    by_cases c110 : t183 = true
                    · subst c110
                      have H1 : ((billiardlaw16_within.f t180).bind fun t184 => (if t184 = true then ((billiardlaw16_within.f t181).bind fun t185 => (if t185 = true then ((billiardlaw16_within.f t182).bind fun t186 => (some t186)) else (some false))) else (some false))) = some r := by rw [if_pos rfl] at H; exact H
                      clear H
                      have H := H1
                      clear H1
                      replace H := Option.bind_eq_some_iff.mp H
                      obtain ⟨t184, A1110, H⟩ := H
                      replace H : (if t184 = true then ((billiardlaw16_within.f t181).bind fun t185 => (if t185 = true then ((billiardlaw16_within.f t182).bind fun t186 => (some t186)) else (some false))) else (some false)) = some r := H
                      have A111 := Aside0.mk A1110
                      clear A1110
                      by_cases c112 : t184 = true
                      · subst c112
                        have H1 : ((billiardlaw16_within.f t181).bind fun t185 => (if t185 = true then ((billiardlaw16_within.f t182).bind fun t186 => (some t186)) else (some false))) = some r := by rw [if_pos rfl] at H; exact H
                        clear H
                        have H := H1
                        clear H1
                        replace H := Option.bind_eq_some_iff.mp H
                        obtain ⟨t185, A1130, H⟩ := H
                        replace H : (if t185 = true then ((billiardlaw16_within.f t182).bind fun t186 => (some t186)) else (some false)) = some r := H
                        have A113 := Aside0.mk A1130
                        clear A1130
                        by_cases c114 : t185 = true
                        · subst c114
                          have H1 : ((billiardlaw16_within.f t182).bind fun t186 => (some t186)) = some r := by rw [if_pos rfl] at H; exact H
                          clear H
                          have H := H1
                          clear H1
                          replace H := Option.bind_eq_some_iff.mp H
                          obtain ⟨t186, A1150, H⟩ := H
                          replace H : (some t186) = some r := H
                          have A115 := Aside0.mk A1150
                          clear A1150
                          obtain rfl := Option.some.inj H
                          go_wp2_with (first | ((with_reducible refine gate_callee (f := 17) rfl ?_); refine goesL_ (some 94) rfl rfl Try.func17 (by kernel_rfl) rfl #[.int .i64 t179] rfl (by (try simp only [List.map_toArray, List.map_cons, List.map_nil]); first | done | rfl | (simp only [List.length_drop, List.length_take]; rfl)) ?_; (with_reducible refine (billiardlaw16_within.calls t179 true _ A109.out).mono ?_); rintro e w' ⟨rfl, ⟨nd, rfl⟩⟩; refine ⟨_, rfl, ?_⟩) | (go_at_call 17; (with_reducible refine (billiardlaw16_within.calls t180 true _ A111.out).mono ?_); rintro e w' ⟨rfl, ⟨nd, rfl⟩⟩) | (go_at_call 17; (with_reducible refine (billiardlaw16_within.calls t181 true _ A113.out).mono ?_); rintro e w' ⟨rfl, ⟨nd, rfl⟩⟩) | (go_at_call 17; (with_reducible refine (billiardlaw16_within.calls t182 t186 _ A115.out).mono ?_); rintro e w' ⟨rfl, ⟨nd, rfl⟩⟩))
                          go_ret
                          exact ⟨by first | rfl | (simp [errW_none, errW_some] <;> rfl) | (simp [*, errW_none, errW_some] <;> rfl), by repeat (first | (with_reducible first | exact HB.out | apply below_alloc | apply pw_below_drewN | apply below_drew1 | refine below_set ?_ GE171.out | refine below_set ?_ GE172.out | refine below_set ?_ GE173.out) | exact HB.out)⟩
                        · replace c114 := Bool.eq_false_iff.mpr c114
                          subst c114
                          have H1 : (some false) = some r := by rw [if_neg (show ¬ (false = true) by decide)] at H; exact H
                          clear H
                          have H := H1
                          clear H1
                          exact absurd ((Option.some.inj H).trans HR.out) (by decide)
                      · replace c112 := Bool.eq_false_iff.mpr c112
                        subst c112
                        have H1 : (some false) = some r := by rw [if_neg (show ¬ (false = true) by decide)] at H; exact H
                        clear H
                        have H := H1
                        clear H1
                        exact absurd ((Option.some.inj H).trans HR.out) (by decide)
                    · replace c110 := Bool.eq_false_iff.mpr c110
                      subst c110
                      have H1 : (some false) = some r := by rw [if_neg (show ¬ (false = true) by decide)] at H; exact H
                      clear H
                      have H := H1
                      clear H1
                      exact absurd ((Option.some.inj H).trans HR.out) (by decide)

/-- THE ONE PURE STATEMENT of billiardlaw16_ImpulseSeparates: yours. -/
def billiardlaw16_ImpulseSeparates.Pure : Prop := ∀ (a0_0 : Int) (a0_1 : Int) (a0_2 : Int) (a0_3 : Int) (a0_4 : Int) (a1_0 : Int) (a1_1 : Int) (a1_2 : Int) (a1_3 : Int) (a1_4 : Int) (a1_5 : Int) (a1_6 : Int) (a1_7 : Int) (a1_8 : Int) (a1_9 : Int) (a2_0 : Int) (a2_1 : Int) (a2_2 : Int) (a2_3 : Int) (a2_4 : Int) (a2_5 : Int) (a2_6 : Int) (a2_7 : Int) (a2_8 : Int) (a2_9 : Int), (Lit.int .u32 a0_0).wf = true → (Lit.int .u32 a0_1).wf = true → (Lit.int .i32 a0_2).wf = true → (Lit.int .i32 a0_3).wf = true → (Lit.int .i32 a0_4).wf = true → (Lit.int .u32 a1_0).wf = true → (Lit.int .i32 a1_1).wf = true → (Lit.int .i32 a1_2).wf = true → (Lit.int .i32 a1_3).wf = true → (Lit.int .i32 a1_4).wf = true → (Lit.int .i32 a1_5).wf = true → (Lit.int .i32 a1_6).wf = true → (Lit.int .i32 a1_7).wf = true → (Lit.int .i32 a1_8).wf = true → (Lit.int .i32 a1_9).wf = true → (Lit.int .u32 a2_0).wf = true → (Lit.int .i32 a2_1).wf = true → (Lit.int .i32 a2_2).wf = true → (Lit.int .i32 a2_3).wf = true → (Lit.int .i32 a2_4).wf = true → (Lit.int .i32 a2_5).wf = true → (Lit.int .i32 a2_6).wf = true → (Lit.int .i32 a2_7).wf = true → (Lit.int .i32 a2_8).wf = true → (Lit.int .i32 a2_9).wf = true → ∃ k, billiardlaw16_ImpulseSeparates.f k a0_0 a0_1 a0_2 a0_3 a0_4 a1_0 a1_1 a1_2 a1_3 a1_4 a1_5 a1_6 a1_7 a1_8 a1_9 a2_0 a2_1 a2_2 a2_3 a2_4 a2_5 a2_6 a2_7 a2_8 a2_9 = some true
theorem billiardlaw16_ImpulseSeparates.walk (P : billiardlaw16_ImpulseSeparates.Pure) (a0_0 : Int) (a0_1 : Int) (a0_2 : Int) (a0_3 : Int) (a0_4 : Int) (a1_0 : Int) (a1_1 : Int) (a1_2 : Int) (a1_3 : Int) (a1_4 : Int) (a1_5 : Int) (a1_6 : Int) (a1_7 : Int) (a1_8 : Int) (a1_9 : Int) (a2_0 : Int) (a2_1 : Int) (a2_2 : Int) (a2_3 : Int) (a2_4 : Int) (a2_5 : Int) (a2_6 : Int) (a2_7 : Int) (a2_8 : Int) (a2_9 : Int) (w : World) (w0_0 : (Lit.int .u32 a0_0).wf = true) (w0_1 : (Lit.int .u32 a0_1).wf = true) (w0_2 : (Lit.int .i32 a0_2).wf = true) (w0_3 : (Lit.int .i32 a0_3).wf = true) (w0_4 : (Lit.int .i32 a0_4).wf = true) (w1_0 : (Lit.int .u32 a1_0).wf = true) (w1_1 : (Lit.int .i32 a1_1).wf = true) (w1_2 : (Lit.int .i32 a1_2).wf = true) (w1_3 : (Lit.int .i32 a1_3).wf = true) (w1_4 : (Lit.int .i32 a1_4).wf = true) (w1_5 : (Lit.int .i32 a1_5).wf = true) (w1_6 : (Lit.int .i32 a1_6).wf = true) (w1_7 : (Lit.int .i32 a1_7).wf = true) (w1_8 : (Lit.int .i32 a1_8).wf = true) (w1_9 : (Lit.int .i32 a1_9).wf = true) (w2_0 : (Lit.int .u32 a2_0).wf = true) (w2_1 : (Lit.int .i32 a2_1).wf = true) (w2_2 : (Lit.int .i32 a2_2).wf = true) (w2_3 : (Lit.int .i32 a2_3).wf = true) (w2_4 : (Lit.int .i32 a2_4).wf = true) (w2_5 : (Lit.int .i32 a2_5).wf = true) (w2_6 : (Lit.int .i32 a2_6).wf = true) (w2_7 : (Lit.int .i32 a2_7).wf = true) (w2_8 : (Lit.int .i32 a2_8).wf = true) (w2_9 : (Lit.int .i32 a2_9).wf = true) :
    Calls Try.prog 4 #[.agg #[.int .u32 a0_0, .int .u32 a0_1, .int .i32 a0_2, .int .i32 a0_3, .int .i32 a0_4], .agg #[.int .u32 a1_0, .int .i32 a1_1, .int .i32 a1_2, .int .i32 a1_3, .int .i32 a1_4, .int .i32 a1_5, .int .i32 a1_6, .int .i32 a1_7, .int .i32 a1_8, .int .i32 a1_9], .agg #[.int .u32 a2_0, .int .i32 a2_1, .int .i32 a2_2, .int .i32 a2_3, .int .i32 a2_4, .int .i32 a2_5, .int .i32 a2_6, .int .i32 a2_7, .int .i32 a2_8, .int .i32 a2_9]] w fun e w' => e = .returned (.bool true) ∧ Below w.heap.size w w' := by
  obtain ⟨k, h⟩ := P a0_0 a0_1 a0_2 a0_3 a0_4 a1_0 a1_1 a1_2 a1_3 a1_4 a1_5 a1_6 a1_7 a1_8 a1_9 a2_0 a2_1 a2_2 a2_3 a2_4 a2_5 a2_6 a2_7 a2_8 a2_9 w0_0 w0_1 w0_2 w0_3 w0_4 w1_0 w1_1 w1_2 w1_3 w1_4 w1_5 w1_6 w1_7 w1_8 w1_9 w2_0 w2_1 w2_2 w2_3 w2_4 w2_5 w2_6 w2_7 w2_8 w2_9
  refine (billiardlaw16_ImpulseSeparates.calls k a0_0 a0_1 a0_2 a0_3 a0_4 a1_0 a1_1 a1_2 a1_3 a1_4 a1_5 a1_6 a1_7 a1_8 a1_9 a2_0 a2_1 a2_2 a2_3 a2_4 a2_5 a2_6 a2_7 a2_8 a2_9 true w h rfl).mono ?_
  rintro e w' ⟨rfl, hd⟩
  exact ⟨rfl, hd⟩

end Go.Proofs.Ytihgddcaljaojaa.Q
