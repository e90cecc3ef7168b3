-- PRINTED by print.py (a twelfth state) out of the translation. Not trusted: Lean checks it.
import Derived.Test.YtniiffbcdjoelaaDoorQ0
import Derived.Test.YtniiffbcdjoelaaDoorQE0
import Derived.Test.YtniiffbcdjoelaaDoorQbilliardlaw08
import Derived.Test.YtniiffbcdjoelaaDoorQbilliardref08
import Derived.Test.YtniiffbcdjoelaaDoorQbox
import Derived.Test.YtniiffbcdjoelaaDoorMglob
namespace Go.Proofs.YtniiffbcdjoelaaDoor.Q
open Go.RowKit Go.Proofs.YtniiffbcdjoelaaDoorW.PrintWords Go.Proofs.YtniiffbcdjoelaaDoorW.PrintLast Go.Proofs.YtniiffbcdjoelaaDoorW.PrintMore
attribute [local go_sem] max2_int min2_int max_two min_two max_three min_three max_four min_four   -- for this text's walks alone
set_option linter.unusedVariables false
set_option linter.unusedSimpArgs false

attribute [local go_sem high] eqA31
/-! ### billiardlaw08_BoxSymmetric: function 5 -/
-- IMPORT Derived.Test.YtniiffbcdjoelaaDoorMglob
def billiardlaw08_BoxSymmetric.f (a0_0 : Int) (a0_1 : Int) (a0_2 : Int) (a0_3 : Int) (a1_0 : Int) (a1_1 : Int) (a1_2 : Int) (a1_3 : Int) : Option (Bool) := (billiardlaw08_awake.f).bind fun t252 => (if t252 = true then ((billiardlaw08_forward.f a0_0 a0_1 a0_2 a0_3).bind fun bt253 => ((billiardlaw08_forward.f a1_0 a1_1 a1_2 a1_3).bind fun bt258 => ((box_Overlap.f bt253.1 bt253.2.1 bt253.2.2.1 bt253.2.2.2 bt258.1 bt258.2.1 bt258.2.2.1 bt258.2.2.2).bind fun t263 => ((box_Overlap.f bt258.1 bt258.2.1 bt258.2.2.1 bt258.2.2.2 bt253.1 bt253.2.1 bt253.2.2.1 bt253.2.2.2).bind fun t264 => (if (t263 == t264) = true then ((box_Meet.f bt253.1 bt253.2.1 bt253.2.2.1 bt253.2.2.2 bt258.1 bt258.2.1 bt258.2.2.1 bt258.2.2.2).bind fun bt265 => ((box_Meet.f bt258.1 bt258.2.1 bt258.2.2.1 bt258.2.2.2 bt253.1 bt253.2.1 bt253.2.2.1 bt253.2.2.2).bind fun bt269 => (if (bt265.1 == bt269.1 && (bt265.2.1 == bt269.2.1 && (bt265.2.2.1 == bt269.2.2.1 && (bt265.2.2.2 == bt269.2.2.2)))) = true then ((box_Union.f bt253.1 bt253.2.1 bt253.2.2.1 bt253.2.2.2 bt258.1 bt258.2.1 bt258.2.2.1 bt258.2.2.2).bind fun bt273 => ((box_Union.f bt258.1 bt258.2.1 bt258.2.2.1 bt258.2.2.2 bt253.1 bt253.2.1 bt253.2.2.1 bt253.2.2.2).bind fun bt277 => (if (bt273.1 == bt277.1 && (bt273.2.1 == bt277.2.1 && (bt273.2.2.1 == bt277.2.2.1 && (bt273.2.2.2 == bt277.2.2.2)))) = true then ((box_Overlap.f bt253.1 bt253.2.1 bt253.2.2.1 bt253.2.2.2 bt253.1 bt253.2.1 bt253.2.2.1 bt253.2.2.2).bind fun t281 => ((billiardref08_Empty.f a0_0 a0_1 a0_2 a0_3).bind fun t282 => (some (t281 == (!t282))))) else (some false)))) else (some false)))) else (some false)))))) else (some false))
def billiardlaw08_BoxSymmetric.T5 : Bool × List (List Nat × List Nat) := (true, [([], []), ([], []), ([0, 1], [0, 1]), ([], []), ([], []), ([3, 4, 2], [3, 4]), ([2, 5], [2, 5]), ([6, 5], [6]), ([7], [7]), ([7], [7]), ([8, 9, 7, 7], [7, 8, 9]), ([7], [7]), ([7], [7]), ([11, 12, 10, 7], [7, 11, 12]), ([10, 13, 7], [7, 10, 13]), ([7, 14], [7, 14]), ([15, 13], [15]), ([16], [16]), ([16], [16]), ([17, 18, 16, 16], [16, 17, 18]), ([16], [16]), ([16], [16]), ([20, 21, 19, 16], [16, 20, 21]), ([19, 22, 16], [16, 19, 22]), ([16, 23], [16, 23]), ([24, 22], [24]), ([25], [25]), ([25], [25]), ([26, 27, 25, 25], [25, 26, 27]), ([25], [25]), ([29, 28, 25], [25, 29]), ([30, 25], [25, 30]), ([28, 31, 25], [25, 28, 31]), ([25, 32], [25, 32]), ([33, 30, 0, 1, 2, 3, 4, 5, 6, 7, 8, 9, 10, 11, 12, 13, 14, 15, 16, 17, 18, 19, 20, 21, 22, 23, 24, 25, 26, 27, 28, 29, 30, 31, 32, 33], [33])])
def billiardlaw08_BoxSymmetric.B5 : List Nat := [0, 0, 3, 0, 0, 31, 63, 127, 255, 255, 1023, 255, 255, 8191, 16383, 32767, 65535, 131071, 131071, 524287, 131071, 131071, 4194303, 8388607, 16777215, 33554431, 67108863, 67108863, 268435455, 67108863, 1073741823, 2147483647, 4294967295, 8589934591, 17179869183]
theorem billiardlaw08_BoxSymmetric.tab5 : rtab .any (opsOf Tryd.f5 5) = billiardlaw08_BoxSymmetric.T5 := by kernel_rfl
theorem billiardlaw08_BoxSymmetric.bits5 : waitsOk billiardlaw08_BoxSymmetric.T5.2 billiardlaw08_BoxSymmetric.B5 = true := by kernel_rfl
set_option maxHeartbeats 8000000 in
set_option maxRecDepth 100000 in
theorem billiardlaw08_BoxSymmetric.calls (a0_0 : Int) (a0_1 : Int) (a0_2 : Int) (a0_3 : Int) (a1_0 : Int) (a1_1 : Int) (a1_2 : Int) (a1_3 : Int) (r : Bool) (w : World) (h : billiardlaw08_BoxSymmetric.f a0_0 a0_1 a0_2 a0_3 a1_0 a1_1 a1_2 a1_3 = some r) (hr : r = true) (HGN0 : GlobN w) :
    Calls Tryd.prog 5 #[.agg #[.int .i32 a0_0, .int .i32 a0_1, .int .i32 a0_2, .int .i32 a0_3], .agg #[.int .i32 a1_0, .int .i32 a1_1, .int .i32 a1_2, .int .i32 a1_3]] w fun e w' => e = .returned (.bool r) ∧ Below w.heap.size w w' := by
  have HGN := Aside0.mk HGN0
  clear HGN0
  have HR := Aside0.mk hr
  clear hr
  have hu28 := Tryd.underlying28
  have hu31 := Tryd.underlying31
  have HB := Aside0.mk (Below.refl w.heap.size w)
  have H : ((billiardlaw08_awake.f).bind fun t252 => (if t252 = true then ((billiardlaw08_forward.f a0_0 a0_1 a0_2 a0_3).bind fun bt253 => ((billiardlaw08_forward.f a1_0 a1_1 a1_2 a1_3).bind fun bt258 => ((box_Overlap.f bt253.1 bt253.2.1 bt253.2.2.1 bt253.2.2.2 bt258.1 bt258.2.1 bt258.2.2.1 bt258.2.2.2).bind fun t263 => ((box_Overlap.f bt258.1 bt258.2.1 bt258.2.2.1 bt258.2.2.2 bt253.1 bt253.2.1 bt253.2.2.1 bt253.2.2.2).bind fun t264 => (if (t263 == t264) = true then ((box_Meet.f bt253.1 bt253.2.1 bt253.2.2.1 bt253.2.2.2 bt258.1 bt258.2.1 bt258.2.2.1 bt258.2.2.2).bind fun bt265 => ((box_Meet.f bt258.1 bt258.2.1 bt258.2.2.1 bt258.2.2.2 bt253.1 bt253.2.1 bt253.2.2.1 bt253.2.2.2).bind fun bt269 => (if (bt265.1 == bt269.1 && (bt265.2.1 == bt269.2.1 && (bt265.2.2.1 == bt269.2.2.1 && (bt265.2.2.2 == bt269.2.2.2)))) = true then ((box_Union.f bt253.1 bt253.2.1 bt253.2.2.1 bt253.2.2.2 bt258.1 bt258.2.1 bt258.2.2.1 bt258.2.2.2).bind fun bt273 => ((box_Union.f bt258.1 bt258.2.1 bt258.2.2.1 bt258.2.2.2 bt253.1 bt253.2.1 bt253.2.2.1 bt253.2.2.2).bind fun bt277 => (if (bt273.1 == bt277.1 && (bt273.2.1 == bt277.2.1 && (bt273.2.2.1 == bt277.2.2.1 && (bt273.2.2.2 == bt277.2.2.2)))) = true then ((box_Overlap.f bt253.1 bt253.2.1 bt253.2.2.1 bt253.2.2.2 bt253.1 bt253.2.1 bt253.2.2.1 bt253.2.2.2).bind fun t281 => ((billiardref08_Empty.f a0_0 a0_1 a0_2 a0_3).bind fun t282 => (some (t281 == (!t282))))) else (some false)))) else (some false)))) else (some false)))))) else (some false))) = some r := h
  clear h
  replace H := Option.bind_eq_some_iff.mp H
  obtain ⟨t252, A30, H⟩ := H
  replace H : (if t252 = true then ((billiardlaw08_forward.f a0_0 a0_1 a0_2 a0_3).bind fun bt253 => ((billiardlaw08_forward.f a1_0 a1_1 a1_2 a1_3).bind fun bt258 => ((box_Overlap.f bt253.1 bt253.2.1 bt253.2.2.1 bt253.2.2.2 bt258.1 bt258.2.1 bt258.2.2.1 bt258.2.2.2).bind fun t263 => ((box_Overlap.f bt258.1 bt258.2.1 bt258.2.2.1 bt258.2.2.2 bt253.1 bt253.2.1 bt253.2.2.1 bt253.2.2.2).bind fun t264 => (if (t263 == t264) = true then ((box_Meet.f bt253.1 bt253.2.1 bt253.2.2.1 bt253.2.2.2 bt258.1 bt258.2.1 bt258.2.2.1 bt258.2.2.2).bind fun bt265 => ((box_Meet.f bt258.1 bt258.2.1 bt258.2.2.1 bt258.2.2.2 bt253.1 bt253.2.1 bt253.2.2.1 bt253.2.2.2).bind fun bt269 => (if (bt265.1 == bt269.1 && (bt265.2.1 == bt269.2.1 && (bt265.2.2.1 == bt269.2.2.1 && (bt265.2.2.2 == bt269.2.2.2)))) = true then ((box_Union.f bt253.1 bt253.2.1 bt253.2.2.1 bt253.2.2.2 bt258.1 bt258.2.1 bt258.2.2.1 bt258.2.2.2).bind fun bt273 => ((box_Union.f bt258.1 bt258.2.1 bt258.2.2.1 bt258.2.2.2 bt253.1 bt253.2.1 bt253.2.2.1 bt253.2.2.2).bind fun bt277 => (if (bt273.1 == bt277.1 && (bt273.2.1 == bt277.2.1 && (bt273.2.2.1 == bt277.2.2.1 && (bt273.2.2.2 == bt277.2.2.2)))) = true then ((box_Overlap.f bt253.1 bt253.2.1 bt253.2.2.1 bt253.2.2.2 bt253.1 bt253.2.1 bt253.2.2.1 bt253.2.2.2).bind fun t281 => ((billiardref08_Empty.f a0_0 a0_1 a0_2 a0_3).bind fun t282 => (some (t281 == (!t282))))) else (some false)))) else (some false)))) else (some false)))))) else (some false)) = some r := H
  have A3 := Aside0.mk A30
  clear A30
  by_cases c4 : t252 = true
  · subst c4
    have H1 : ((billiardlaw08_forward.f a0_0 a0_1 a0_2 a0_3).bind fun bt253 => ((billiardlaw08_forward.f a1_0 a1_1 a1_2 a1_3).bind fun bt258 => ((box_Overlap.f bt253.1 bt253.2.1 bt253.2.2.1 bt253.2.2.2 bt258.1 bt258.2.1 bt258.2.2.1 bt258.2.2.2).bind fun t263 => ((box_Overlap.f bt258.1 bt258.2.1 bt258.2.2.1 bt258.2.2.2 bt253.1 bt253.2.1 bt253.2.2.1 bt253.2.2.2).bind fun t264 => (if (t263 == t264) = true then ((box_Meet.f bt253.1 bt253.2.1 bt253.2.2.1 bt253.2.2.2 bt258.1 bt258.2.1 bt258.2.2.1 bt258.2.2.2).bind fun bt265 => ((box_Meet.f bt258.1 bt258.2.1 bt258.2.2.1 bt258.2.2.2 bt253.1 bt253.2.1 bt253.2.2.1 bt253.2.2.2).bind fun bt269 => (if (bt265.1 == bt269.1 && (bt265.2.1 == bt269.2.1 && (bt265.2.2.1 == bt269.2.2.1 && (bt265.2.2.2 == bt269.2.2.2)))) = true then ((box_Union.f bt253.1 bt253.2.1 bt253.2.2.1 bt253.2.2.2 bt258.1 bt258.2.1 bt258.2.2.1 bt258.2.2.2).bind fun bt273 => ((box_Union.f bt258.1 bt258.2.1 bt258.2.2.1 bt258.2.2.2 bt253.1 bt253.2.1 bt253.2.2.1 bt253.2.2.2).bind fun bt277 => (if (bt273.1 == bt277.1 && (bt273.2.1 == bt277.2.1 && (bt273.2.2.1 == bt277.2.2.1 && (bt273.2.2.2 == bt277.2.2.2)))) = true then ((box_Overlap.f bt253.1 bt253.2.1 bt253.2.2.1 bt253.2.2.2 bt253.1 bt253.2.1 bt253.2.2.1 bt253.2.2.2).bind fun t281 => ((billiardref08_Empty.f a0_0 a0_1 a0_2 a0_3).bind fun t282 => (some (t281 == (!t282))))) else (some false)))) else (some false)))) else (some false)))))) = some r := by rw [if_pos rfl] at H; exact H
    clear H
    have H := H1
    clear H1
    replace H := Option.bind_eq_some_iff.mp H
    obtain ⟨⟨t253, t254, t255, t256⟩, A50, H⟩ := H
    replace H : ((billiardlaw08_forward.f a1_0 a1_1 a1_2 a1_3).bind fun bt258 => ((box_Overlap.f t253 t254 t255 t256 bt258.1 bt258.2.1 bt258.2.2.1 bt258.2.2.2).bind fun t263 => ((box_Overlap.f bt258.1 bt258.2.1 bt258.2.2.1 bt258.2.2.2 t253 t254 t255 t256).bind fun t264 => (if (t263 == t264) = true then ((box_Meet.f t253 t254 t255 t256 bt258.1 bt258.2.1 bt258.2.2.1 bt258.2.2.2).bind fun bt265 => ((box_Meet.f bt258.1 bt258.2.1 bt258.2.2.1 bt258.2.2.2 t253 t254 t255 t256).bind fun bt269 => (if (bt265.1 == bt269.1 && (bt265.2.1 == bt269.2.1 && (bt265.2.2.1 == bt269.2.2.1 && (bt265.2.2.2 == bt269.2.2.2)))) = true then ((box_Union.f t253 t254 t255 t256 bt258.1 bt258.2.1 bt258.2.2.1 bt258.2.2.2).bind fun bt273 => ((box_Union.f bt258.1 bt258.2.1 bt258.2.2.1 bt258.2.2.2 t253 t254 t255 t256).bind fun bt277 => (if (bt273.1 == bt277.1 && (bt273.2.1 == bt277.2.1 && (bt273.2.2.1 == bt277.2.2.1 && (bt273.2.2.2 == bt277.2.2.2)))) = true then ((box_Overlap.f t253 t254 t255 t256 t253 t254 t255 t256).bind fun t281 => ((billiardref08_Empty.f a0_0 a0_1 a0_2 a0_3).bind fun t282 => (some (t281 == (!t282))))) else (some false)))) else (some false)))) else (some false))))) = some r := H
    have A5 := Aside0.mk A50
    clear A50
    replace H := Option.bind_eq_some_iff.mp H
    obtain ⟨⟨t258, t259, t260, t261⟩, A60, H⟩ := H
    replace H : ((box_Overlap.f t253 t254 t255 t256 t258 t259 t260 t261).bind fun t263 => ((box_Overlap.f t258 t259 t260 t261 t253 t254 t255 t256).bind fun t264 => (if (t263 == t264) = true then ((box_Meet.f t253 t254 t255 t256 t258 t259 t260 t261).bind fun bt265 => ((box_Meet.f t258 t259 t260 t261 t253 t254 t255 t256).bind fun bt269 => (if (bt265.1 == bt269.1 && (bt265.2.1 == bt269.2.1 && (bt265.2.2.1 == bt269.2.2.1 && (bt265.2.2.2 == bt269.2.2.2)))) = true then ((box_Union.f t253 t254 t255 t256 t258 t259 t260 t261).bind fun bt273 => ((box_Union.f t258 t259 t260 t261 t253 t254 t255 t256).bind fun bt277 => (if (bt273.1 == bt277.1 && (bt273.2.1 == bt277.2.1 && (bt273.2.2.1 == bt277.2.2.1 && (bt273.2.2.2 == bt277.2.2.2)))) = true then ((box_Overlap.f t253 t254 t255 t256 t253 t254 t255 t256).bind fun t281 => ((billiardref08_Empty.f a0_0 a0_1 a0_2 a0_3).bind fun t282 => (some (t281 == (!t282))))) else (some false)))) else (some false)))) else (some false)))) = some r := H
    have A6 := Aside0.mk A60
    clear A60
    replace H := Option.bind_eq_some_iff.mp H
    obtain ⟨t263, A70, H⟩ := H
    replace H : ((box_Overlap.f t258 t259 t260 t261 t253 t254 t255 t256).bind fun t264 => (if (t263 == t264) = true then ((box_Meet.f t253 t254 t255 t256 t258 t259 t260 t261).bind fun bt265 => ((box_Meet.f t258 t259 t260 t261 t253 t254 t255 t256).bind fun bt269 => (if (bt265.1 == bt269.1 && (bt265.2.1 == bt269.2.1 && (bt265.2.2.1 == bt269.2.2.1 && (bt265.2.2.2 == bt269.2.2.2)))) = true then ((box_Union.f t253 t254 t255 t256 t258 t259 t260 t261).bind fun bt273 => ((box_Union.f t258 t259 t260 t261 t253 t254 t255 t256).bind fun bt277 => (if (bt273.1 == bt277.1 && (bt273.2.1 == bt277.2.1 && (bt273.2.2.1 == bt277.2.2.1 && (bt273.2.2.2 == bt277.2.2.2)))) = true then ((box_Overlap.f t253 t254 t255 t256 t253 t254 t255 t256).bind fun t281 => ((billiardref08_Empty.f a0_0 a0_1 a0_2 a0_3).bind fun t282 => (some (t281 == (!t282))))) else (some false)))) else (some false)))) else (some false))) = some r := H
    have A7 := Aside0.mk A70
    clear A70
    replace H := Option.bind_eq_some_iff.mp H
    obtain ⟨t264, A80, H⟩ := H
    replace H : (if (t263 == t264) = true then ((box_Meet.f t253 t254 t255 t256 t258 t259 t260 t261).bind fun bt265 => ((box_Meet.f t258 t259 t260 t261 t253 t254 t255 t256).bind fun bt269 => (if (bt265.1 == bt269.1 && (bt265.2.1 == bt269.2.1 && (bt265.2.2.1 == bt269.2.2.1 && (bt265.2.2.2 == bt269.2.2.2)))) = true then ((box_Union.f t253 t254 t255 t256 t258 t259 t260 t261).bind fun bt273 => ((box_Union.f t258 t259 t260 t261 t253 t254 t255 t256).bind fun bt277 => (if (bt273.1 == bt277.1 && (bt273.2.1 == bt277.2.1 && (bt273.2.2.1 == bt277.2.2.1 && (bt273.2.2.2 == bt277.2.2.2)))) = true then ((box_Overlap.f t253 t254 t255 t256 t253 t254 t255 t256).bind fun t281 => ((billiardref08_Empty.f a0_0 a0_1 a0_2 a0_3).bind fun t282 => (some (t281 == (!t282))))) else (some false)))) else (some false)))) else (some false)) = some r := H
    have A8 := Aside0.mk A80
    clear A80
    by_cases c9 : (t263 == t264) = true
    · rw [if_pos c9] at H
      have c9b0 : (t263 == t264) = true := c9
      (try (have c9b1 : decide (t263 = t264) = true := by simpa using c9))
      (try (have c9b2 : (t263 == t264) = true := by simpa using c9))
      clear c9
      replace H := Option.bind_eq_some_iff.mp H
      obtain ⟨⟨t265, t266, t267, t268⟩, A100, H⟩ := H
      replace H : ((box_Meet.f t258 t259 t260 t261 t253 t254 t255 t256).bind fun bt269 => (if (t265 == bt269.1 && (t266 == bt269.2.1 && (t267 == bt269.2.2.1 && (t268 == bt269.2.2.2)))) = true then ((box_Union.f t253 t254 t255 t256 t258 t259 t260 t261).bind fun bt273 => ((box_Union.f t258 t259 t260 t261 t253 t254 t255 t256).bind fun bt277 => (if (bt273.1 == bt277.1 && (bt273.2.1 == bt277.2.1 && (bt273.2.2.1 == bt277.2.2.1 && (bt273.2.2.2 == bt277.2.2.2)))) = true then ((box_Overlap.f t253 t254 t255 t256 t253 t254 t255 t256).bind fun t281 => ((billiardref08_Empty.f a0_0 a0_1 a0_2 a0_3).bind fun t282 => (some (t281 == (!t282))))) else (some false)))) else (some false))) = some r := H
      have A10 := Aside0.mk A100
      clear A100
      replace H := Option.bind_eq_some_iff.mp H
      obtain ⟨⟨t269, t270, t271, t272⟩, A110, H⟩ := H
      replace H : (if (t265 == t269 && (t266 == t270 && (t267 == t271 && (t268 == t272)))) = true then ((box_Union.f t253 t254 t255 t256 t258 t259 t260 t261).bind fun bt273 => ((box_Union.f t258 t259 t260 t261 t253 t254 t255 t256).bind fun bt277 => (if (bt273.1 == bt277.1 && (bt273.2.1 == bt277.2.1 && (bt273.2.2.1 == bt277.2.2.1 && (bt273.2.2.2 == bt277.2.2.2)))) = true then ((box_Overlap.f t253 t254 t255 t256 t253 t254 t255 t256).bind fun t281 => ((billiardref08_Empty.f a0_0 a0_1 a0_2 a0_3).bind fun t282 => (some (t281 == (!t282))))) else (some false)))) else (some false)) = some r := H
      have A11 := Aside0.mk A110
      clear A110
      by_cases c12 : (t265 == t269 && (t266 == t270 && (t267 == t271 && (t268 == t272)))) = true
      · rw [if_pos c12] at H
        have c12b0 : (t265 == t269 && (t266 == t270 && (t267 == t271 && (t268 == t272)))) = true := c12
        (try (have c12b1 : decide (t265 = t269 && (t266 == t270 && (t267 == t271 && (t268 == t272)))) = true := by simpa using c12))
        (try (have c12b2 : (t265 == t269 && (t266 == t270 && (t267 == t271 && (t268 == t272)))) = true := by simpa using c12))
        clear c12
        replace H := Option.bind_eq_some_iff.mp H
        obtain ⟨⟨t273, t274, t275, t276⟩, A130, H⟩ := H
        replace H : ((box_Union.f t258 t259 t260 t261 t253 t254 t255 t256).bind fun bt277 => (if (t273 == bt277.1 && (t274 == bt277.2.1 && (t275 == bt277.2.2.1 && (t276 == bt277.2.2.2)))) = true then ((box_Overlap.f t253 t254 t255 t256 t253 t254 t255 t256).bind fun t281 => ((billiardref08_Empty.f a0_0 a0_1 a0_2 a0_3).bind fun t282 => (some (t281 == (!t282))))) else (some false))) = some r := H
        have A13 := Aside0.mk A130
        clear A130
        replace H := Option.bind_eq_some_iff.mp H
        obtain ⟨⟨t277, t278, t279, t280⟩, A140, H⟩ := H
        replace H : (if (t273 == t277 && (t274 == t278 && (t275 == t279 && (t276 == t280)))) = true then ((box_Overlap.f t253 t254 t255 t256 t253 t254 t255 t256).bind fun t281 => ((billiardref08_Empty.f a0_0 a0_1 a0_2 a0_3).bind fun t282 => (some (t281 == (!t282))))) else (some false)) = some r := H
        have A14 := Aside0.mk A140
        clear A140
        by_cases c15 : (t273 == t277 && (t274 == t278 && (t275 == t279 && (t276 == t280)))) = true
        · rw [if_pos c15] at H
          have c15b0 : (t273 == t277 && (t274 == t278 && (t275 == t279 && (t276 == t280)))) = true := c15
          (try (have c15b1 : decide (t273 = t277 && (t274 == t278 && (t275 == t279 && (t276 == t280)))) = true := by simpa using c15))
          (try (have c15b2 : (t273 == t277 && (t274 == t278 && (t275 == t279 && (t276 == t280)))) = true := by simpa using c15))
          clear c15
          replace H := Option.bind_eq_some_iff.mp H
          obtain ⟨t281, A160, H⟩ := H
          replace H : ((billiardref08_Empty.f a0_0 a0_1 a0_2 a0_3).bind fun t282 => (some (t281 == (!t282)))) = some r := H
          have A16 := Aside0.mk A160
          clear A160
          replace H := Option.bind_eq_some_iff.mp H
          obtain ⟨t282, A170, H⟩ := H
          replace H : (some (t281 == (!t282))) = some r := H
          have A17 := Aside0.mk A170
          clear A170
          obtain rfl := Option.some.inj H
          go_enter Tryd.func5, Tryd.ntmps5
          try go_wp2_with (first | ((with_reducible refine gate_dst (N := 2) rfl ?_); refine box_event ?hg (N := 2) ?hd (cs := #[.int .i32 a0_0, .int .i32 a0_1, .int .i32 a0_2, .int .i32 a0_3]) (t := 28) ?hr ?_; (case hd => rfl); (case hg => rfl); (case hr => first | (go_simp; done) | (go_simp; rfl)); intro gb250 hg w18 hbox hb; have n0_ := Aside0.mk (below_step (by repeat (first | (with_reducible first | exact HB.out | apply below_alloc | apply pw_below_drewN | apply below_drew1) | exact HB.out)) hb); have n1_ := Aside0.mk (hbox); have n2_ := Aside0.mk ((by rw [hg]; exact (below_size (by repeat (first | (with_reducible first | exact HB.out | apply below_alloc | apply pw_below_drewN | apply below_drew1) | exact HB.out))) : w.heap.size ≤ gb250)); have n3_ := Aside0.mk ((by rw [hg]; exact (below_size (by repeat (first | (with_reducible first | exact HB.out | apply below_alloc | apply pw_below_drewN | apply below_drew1) | exact HB.out))) : w.heap.size ≤ gb250)); clear HB; have HB := n0_; have BK250 := n1_; have GW250 := n2_; have GE250 := n3_; clear n0_ n1_ n2_ n3_; clear hb hbox hg) | ((with_reducible refine gate_dst (N := 3) rfl ?_); refine box_event ?hg (N := 3) ?hd (cs := #[.int .i32 a1_0, .int .i32 a1_1, .int .i32 a1_2, .int .i32 a1_3]) (t := 28) ?hr ?_; (case hd => rfl); (case hg => rfl); (case hr => first | (go_simp; done) | (go_simp; rfl)); intro gb251 hg w19 hbox hb; have n0_ := Aside0.mk (blk_below (g := gb250) (o := .cells #[.int .i32 a0_0, .int .i32 a0_1, .int .i32 a0_2, .int .i32 a0_3] 28 (0, 0)) (by (with_reducible repeat (first | refine blk_drewN ?_ _ | refine blk_drew ?_ | refine blk_alloc ?_ _)); exact BK250.out) hb); have n1_ := Aside0.mk (below_step (by repeat (first | (with_reducible first | exact HB.out | apply below_alloc | apply pw_below_drewN | apply below_drew1 | refine below_set ?_ GE250.out) | exact HB.out)) hb); have n2_ := Aside0.mk (hbox); have n3_ := Aside0.mk ((by rw [hg]; exact (below_size (by repeat (first | (with_reducible first | exact HB.out | apply below_alloc | apply pw_below_drewN | apply below_drew1 | refine below_set ?_ GE250.out) | exact HB.out))) : w.heap.size ≤ gb251)); have n4_ := Aside0.mk ((by rw [hg]; exact (below_size (by repeat (first | (with_reducible first | exact HB.out | apply below_alloc | apply pw_below_drewN | apply below_drew1 | refine below_set ?_ GE250.out) | exact HB.out))) : w.heap.size ≤ gb251)); have n5_ := Aside0.mk ((by rw [hg]; exact Nat.ne_of_lt (blk_lt (g := gb250) (o := .cells #[.int .i32 a0_0, .int .i32 a0_1, .int .i32 a0_2, .int .i32 a0_3] 28 (0, 0)) (by (with_reducible repeat (first | refine blk_drewN ?_ _ | refine blk_drew ?_ | refine blk_alloc ?_ _)); exact BK250.out)) : gb250 ≠ gb251)); have n6_ := Aside0.mk ((by rw [hg]; exact Nat.ne_of_gt (blk_lt (g := gb250) (o := .cells #[.int .i32 a0_0, .int .i32 a0_1, .int .i32 a0_2, .int .i32 a0_3] 28 (0, 0)) (by (with_reducible repeat (first | refine blk_drewN ?_ _ | refine blk_drew ?_ | refine blk_alloc ?_ _)); exact BK250.out)) : gb251 ≠ gb250)); clear BK250; clear HB; have BK250 := n0_; have HB := n1_; have BK251 := n2_; have GW251 := n3_; have GE251 := n4_; have NB250_251 := n5_; have NB251_250 := n6_; clear n0_ n1_ n2_ n3_ n4_ n5_ n6_; clear hb hbox hg) | ((with_reducible refine gate_callee (f := 7) rfl ?_); refine goesL_ (some 7) rfl rfl Tryd.func7 (by kernel_rfl) rfl #[] rfl (by (try simp only [List.map_toArray, List.map_cons, List.map_nil]); first | done | rfl | (simp only [List.length_drop, List.length_take]; rfl)) ?_; (with_reducible refine (billiardlaw08_awake.calls  true _ A3.out (HGN.out.below (by repeat (first | (with_reducible first | exact HB.out | apply below_alloc | apply pw_below_drewN | apply below_drew1 | refine below_set ?_ GE250.out | refine below_set ?_ GE251.out | refine below_set ?_ GE257.out | refine below_set ?_ GE262.out) | exact HB.out)))).mono ?_); rintro e w20 ⟨rfl, hb⟩; refine ⟨_, rfl, ?_⟩; have n0_ := Aside0.mk (blk_below (g := gb250) (o := .cells #[.int .i32 a0_0, .int .i32 a0_1, .int .i32 a0_2, .int .i32 a0_3] 28 (0, 0)) (by (with_reducible repeat (first | refine blk_drewN ?_ _ | refine blk_drew ?_ | refine blk_alloc ?_ _)); exact BK250.out) hb); have n1_ := Aside0.mk (blk_below (g := gb251) (o := .cells #[.int .i32 a1_0, .int .i32 a1_1, .int .i32 a1_2, .int .i32 a1_3] 28 (0, 0)) (by (with_reducible repeat (first | refine blk_drewN ?_ _ | refine blk_drew ?_ | refine blk_alloc ?_ _)); exact BK251.out) hb); have n2_ := Aside0.mk (below_step (by repeat (first | (with_reducible first | exact HB.out | apply below_alloc | apply pw_below_drewN | apply below_drew1 | refine below_set ?_ GE250.out | refine below_set ?_ GE251.out) | exact HB.out)) hb); clear BK250; clear BK251; clear HB; have BK250 := n0_; have BK251 := n1_; have HB := n2_; clear n0_ n1_ n2_; (try clear hb); (try clear hb2); (try clear hk); (try clear hi); have hnb21 := NB250_251.out; have hnc21 := NB251_250.out; have hcz22_0 : w20.cell? ⟨gb250, 0, none⟩ = some (.int .i32 a0_0) := (blk_cell BK250.out 0).trans rfl; have hcz22_1 : w20.cell? ⟨gb250, 1, none⟩ = some (.int .i32 a0_1) := (blk_cell BK250.out 1).trans rfl; have hcz22_2 : w20.cell? ⟨gb250, 2, none⟩ = some (.int .i32 a0_2) := (blk_cell BK250.out 2).trans rfl; have hcz22_3 : w20.cell? ⟨gb250, 3, none⟩ = some (.int .i32 a0_3) := (blk_cell BK250.out 3).trans rfl; have hfz22_0 := blk_frozen BK250.out 0; have hfz22_1 := blk_frozen BK250.out 1; have hfz22_2 := blk_frozen BK250.out 2; have hfz22_3 := blk_frozen BK250.out 3) | ((with_reducible refine gate_callee (f := 10) rfl ?_); refine goesL_ (some 10) rfl rfl Tryd.func10 (by kernel_rfl) rfl #[.agg #[.int .i32 a0_0, .int .i32 a0_1, .int .i32 a0_2, .int .i32 a0_3]] rfl (by (try simp only [List.map_toArray, List.map_cons, List.map_nil]); first | done | rfl | (simp only [List.length_drop, List.length_take]; rfl)) ?_; (with_reducible refine (billiardlaw08_forward.calls a0_0 a0_1 a0_2 a0_3 t253 t254 t255 t256 _ A5.out).mono ?_); rintro e w23 ⟨rfl, hb⟩; refine ⟨_, rfl, ?_⟩; have n0_ := Aside0.mk (blk_below (g := gb250) (o := .cells #[.int .i32 a0_0, .int .i32 a0_1, .int .i32 a0_2, .int .i32 a0_3] 28 (0, 0)) (by (with_reducible repeat (first | refine blk_drewN ?_ _ | refine blk_drew ?_ | refine blk_alloc ?_ _)); exact BK250.out) hb); have n1_ := Aside0.mk (blk_below (g := gb251) (o := .cells #[.int .i32 a1_0, .int .i32 a1_1, .int .i32 a1_2, .int .i32 a1_3] 28 (0, 0)) (by (with_reducible repeat (first | refine blk_drewN ?_ _ | refine blk_drew ?_ | refine blk_alloc ?_ _)); exact BK251.out) hb); have n2_ := Aside0.mk (below_step (by repeat (first | (with_reducible first | exact HB.out | apply below_alloc | apply pw_below_drewN | apply below_drew1 | refine below_set ?_ GE250.out | refine below_set ?_ GE251.out) | exact HB.out)) hb); clear BK250; clear BK251; clear HB; have BK250 := n0_; have BK251 := n1_; have HB := n2_; clear n0_ n1_ n2_; (try clear hb); (try clear hb2); (try clear hk); (try clear hi)) | ((with_reducible refine gate_dst (N := 5) rfl ?_); refine box_event ?hg (N := 5) ?hd (cs := #[.int .i32 0, .int .i32 0, .int .i32 0, .int .i32 0]) (t := 31) ?hr ?_; (case hd => rfl); (case hg => rfl); (case hr => first | (go_simp; done) | (go_simp; rfl)); intro gb257 hg w24 hbox hb; have n0_ := Aside0.mk (blk_below (g := gb250) (o := .cells #[.int .i32 a0_0, .int .i32 a0_1, .int .i32 a0_2, .int .i32 a0_3] 28 (0, 0)) (by (with_reducible repeat (first | refine blk_drewN ?_ _ | refine blk_drew ?_ | refine blk_alloc ?_ _)); exact BK250.out) hb); have n1_ := Aside0.mk (blk_below (g := gb251) (o := .cells #[.int .i32 a1_0, .int .i32 a1_1, .int .i32 a1_2, .int .i32 a1_3] 28 (0, 0)) (by (with_reducible repeat (first | refine blk_drewN ?_ _ | refine blk_drew ?_ | refine blk_alloc ?_ _)); exact BK251.out) hb); have n2_ := Aside0.mk (below_step (by repeat (first | (with_reducible first | exact HB.out | apply below_alloc | apply pw_below_drewN | apply below_drew1 | refine below_set ?_ GE250.out | refine below_set ?_ GE251.out) | exact HB.out)) hb); have n3_ := Aside0.mk (hbox); have n4_ := Aside0.mk ((by rw [hg]; exact (below_size (by repeat (first | (with_reducible first | exact HB.out | apply below_alloc | apply pw_below_drewN | apply below_drew1 | refine below_set ?_ GE250.out | refine below_set ?_ GE251.out) | exact HB.out))) : w.heap.size ≤ gb257)); have n5_ := Aside0.mk ((by rw [hg]; exact (below_size (by repeat (first | (with_reducible first | exact HB.out | apply below_alloc | apply pw_below_drewN | apply below_drew1 | refine below_set ?_ GE250.out | refine below_set ?_ GE251.out) | exact HB.out))) : w.heap.size ≤ gb257)); have n6_ := Aside0.mk ((by rw [hg]; exact Nat.ne_of_lt (blk_lt (g := gb250) (o := .cells #[.int .i32 a0_0, .int .i32 a0_1, .int .i32 a0_2, .int .i32 a0_3] 28 (0, 0)) (by (with_reducible repeat (first | refine blk_drewN ?_ _ | refine blk_drew ?_ | refine blk_alloc ?_ _)); exact BK250.out)) : gb250 ≠ gb257)); have n7_ := Aside0.mk ((by rw [hg]; exact Nat.ne_of_gt (blk_lt (g := gb250) (o := .cells #[.int .i32 a0_0, .int .i32 a0_1, .int .i32 a0_2, .int .i32 a0_3] 28 (0, 0)) (by (with_reducible repeat (first | refine blk_drewN ?_ _ | refine blk_drew ?_ | refine blk_alloc ?_ _)); exact BK250.out)) : gb257 ≠ gb250)); have n8_ := Aside0.mk ((by rw [hg]; exact Nat.ne_of_lt (blk_lt (g := gb251) (o := .cells #[.int .i32 a1_0, .int .i32 a1_1, .int .i32 a1_2, .int .i32 a1_3] 28 (0, 0)) (by (with_reducible repeat (first | refine blk_drewN ?_ _ | refine blk_drew ?_ | refine blk_alloc ?_ _)); exact BK251.out)) : gb251 ≠ gb257)); have n9_ := Aside0.mk ((by rw [hg]; exact Nat.ne_of_gt (blk_lt (g := gb251) (o := .cells #[.int .i32 a1_0, .int .i32 a1_1, .int .i32 a1_2, .int .i32 a1_3] 28 (0, 0)) (by (with_reducible repeat (first | refine blk_drewN ?_ _ | refine blk_drew ?_ | refine blk_alloc ?_ _)); exact BK251.out)) : gb257 ≠ gb251)); clear BK250; clear BK251; clear HB; have BK250 := n0_; have BK251 := n1_; have HB := n2_; have BK257 := n3_; have GW257 := n4_; have GE257 := n5_; have NB250_257 := n6_; have NB257_250 := n7_; have NB251_257 := n8_; have NB257_251 := n9_; clear n0_ n1_ n2_ n3_ n4_ n5_ n6_ n7_ n8_ n9_; clear hb hbox hg; have hnb25 := NB257_250.out; have hnc25 := NB250_257.out; have hnb26 := NB257_251.out; have hnc26 := NB251_257.out; have hcz27_0 : w24.cell? ⟨gb257, 0, none⟩ = some (.int .i32 0) := (blk_cell BK257.out 0).trans rfl; have hcz27_1 : w24.cell? ⟨gb257, 1, none⟩ = some (.int .i32 0) := (blk_cell BK257.out 1).trans rfl; have hcz27_2 : w24.cell? ⟨gb257, 2, none⟩ = some (.int .i32 0) := (blk_cell BK257.out 2).trans rfl; have hcz27_3 : w24.cell? ⟨gb257, 3, none⟩ = some (.int .i32 0) := (blk_cell BK257.out 3).trans rfl; have hfz27_0 := blk_frozen BK257.out 0; have hfz27_1 := blk_frozen BK257.out 1; have hfz27_2 := blk_frozen BK257.out 2; have hfz27_3 := blk_frozen BK257.out 3; have hcz28_0 : w24.cell? ⟨gb251, 0, none⟩ = some (.int .i32 a1_0) := (blk_cell BK251.out 0).trans rfl; have hcz28_1 : w24.cell? ⟨gb251, 1, none⟩ = some (.int .i32 a1_1) := (blk_cell BK251.out 1).trans rfl; have hcz28_2 : w24.cell? ⟨gb251, 2, none⟩ = some (.int .i32 a1_2) := (blk_cell BK251.out 2).trans rfl; have hcz28_3 : w24.cell? ⟨gb251, 3, none⟩ = some (.int .i32 a1_3) := (blk_cell BK251.out 3).trans rfl; have hfz28_0 := blk_frozen BK251.out 0; have hfz28_1 := blk_frozen BK251.out 1; have hfz28_2 := blk_frozen BK251.out 2; have hfz28_3 := blk_frozen BK251.out 3) | ((with_reducible refine gate_callee (f := 10) rfl ?_); refine goesL_ (some 12) rfl rfl Tryd.func10 (by kernel_rfl) rfl #[.agg #[.int .i32 a1_0, .int .i32 a1_1, .int .i32 a1_2, .int .i32 a1_3]] rfl (by (try simp only [List.map_toArray, List.map_cons, List.map_nil]); first | done | rfl | (simp only [List.length_drop, List.length_take]; rfl)) ?_; (with_reducible refine (billiardlaw08_forward.calls a1_0 a1_1 a1_2 a1_3 t258 t259 t260 t261 _ A6.out).mono ?_); rintro e w29 ⟨rfl, hb⟩; refine ⟨_, rfl, ?_⟩; have n0_ := Aside0.mk (blk_below (g := gb250) (o := .cells #[.int .i32 a0_0, .int .i32 a0_1, .int .i32 a0_2, .int .i32 a0_3] 28 (0, 0)) (by (with_reducible repeat (first | refine blk_drewN ?_ _ | refine blk_drew ?_ | refine blk_alloc ?_ _)); refine blk_far ?_ NB250_257.out _; (with_reducible repeat (first | refine blk_drewN ?_ _ | refine blk_drew ?_ | refine blk_alloc ?_ _)); refine blk_far ?_ NB250_257.out _; (with_reducible repeat (first | refine blk_drewN ?_ _ | refine blk_drew ?_ | refine blk_alloc ?_ _)); refine blk_far ?_ NB250_257.out _; (with_reducible repeat (first | refine blk_drewN ?_ _ | refine blk_drew ?_ | refine blk_alloc ?_ _)); refine blk_far ?_ NB250_257.out _; (with_reducible repeat (first | refine blk_drewN ?_ _ | refine blk_drew ?_ | refine blk_alloc ?_ _)); exact BK250.out) hb); have n1_ := Aside0.mk (blk_below (g := gb251) (o := .cells #[.int .i32 a1_0, .int .i32 a1_1, .int .i32 a1_2, .int .i32 a1_3] 28 (0, 0)) (by (with_reducible repeat (first | refine blk_drewN ?_ _ | refine blk_drew ?_ | refine blk_alloc ?_ _)); refine blk_far ?_ NB251_257.out _; (with_reducible repeat (first | refine blk_drewN ?_ _ | refine blk_drew ?_ | refine blk_alloc ?_ _)); refine blk_far ?_ NB251_257.out _; (with_reducible repeat (first | refine blk_drewN ?_ _ | refine blk_drew ?_ | refine blk_alloc ?_ _)); refine blk_far ?_ NB251_257.out _; (with_reducible repeat (first | refine blk_drewN ?_ _ | refine blk_drew ?_ | refine blk_alloc ?_ _)); refine blk_far ?_ NB251_257.out _; (with_reducible repeat (first | refine blk_drewN ?_ _ | refine blk_drew ?_ | refine blk_alloc ?_ _)); exact BK251.out) hb); have n2_ := Aside0.mk (blk_below (g := gb257) (o := .cells #[.int .i32 t253, .int .i32 t254, .int .i32 t255, .int .i32 t256] 31 (0, 0)) (by (with_reducible repeat (first | refine blk_drewN ?_ _ | refine blk_drew ?_ | refine blk_alloc ?_ _)); refine blk_put (cs := #[.int .i32 t253, .int .i32 t254, .int .i32 t255, .int .i32 0]) ?_ 3 _ rfl; (with_reducible repeat (first | refine blk_drewN ?_ _ | refine blk_drew ?_ | refine blk_alloc ?_ _)); refine blk_put (cs := #[.int .i32 t253, .int .i32 t254, .int .i32 0, .int .i32 0]) ?_ 2 _ rfl; (with_reducible repeat (first | refine blk_drewN ?_ _ | refine blk_drew ?_ | refine blk_alloc ?_ _)); refine blk_put (cs := #[.int .i32 t253, .int .i32 0, .int .i32 0, .int .i32 0]) ?_ 1 _ rfl; (with_reducible repeat (first | refine blk_drewN ?_ _ | refine blk_drew ?_ | refine blk_alloc ?_ _)); refine blk_put (cs := #[.int .i32 0, .int .i32 0, .int .i32 0, .int .i32 0]) ?_ 0 _ rfl; (with_reducible repeat (first | refine blk_drewN ?_ _ | refine blk_drew ?_ | refine blk_alloc ?_ _)); exact BK257.out) hb); have n3_ := Aside0.mk (below_step (by repeat (first | (with_reducible first | exact HB.out | apply below_alloc | apply pw_below_drewN | apply below_drew1 | refine below_set ?_ GE250.out | refine below_set ?_ GE251.out | refine below_set ?_ GE257.out) | exact HB.out)) hb); clear BK250; clear BK251; clear BK257; clear HB; have BK250 := n0_; have BK251 := n1_; have BK257 := n2_; have HB := n3_; clear n0_ n1_ n2_ n3_; (try clear hb); (try clear hb2); (try clear hk); (try clear hi)) | ((with_reducible refine gate_dst (N := 6) rfl ?_); refine box_event ?hg (N := 6) ?hd (cs := #[.int .i32 0, .int .i32 0, .int .i32 0, .int .i32 0]) (t := 31) ?hr ?_; (case hd => rfl); (case hg => rfl); (case hr => first | (go_simp; done) | (go_simp; rfl)); intro gb262 hg w30 hbox hb; have n0_ := Aside0.mk (blk_below (g := gb250) (o := .cells #[.int .i32 a0_0, .int .i32 a0_1, .int .i32 a0_2, .int .i32 a0_3] 28 (0, 0)) (by (with_reducible repeat (first | refine blk_drewN ?_ _ | refine blk_drew ?_ | refine blk_alloc ?_ _)); exact BK250.out) hb); have n1_ := Aside0.mk (blk_below (g := gb251) (o := .cells #[.int .i32 a1_0, .int .i32 a1_1, .int .i32 a1_2, .int .i32 a1_3] 28 (0, 0)) (by (with_reducible repeat (first | refine blk_drewN ?_ _ | refine blk_drew ?_ | refine blk_alloc ?_ _)); exact BK251.out) hb); have n2_ := Aside0.mk (blk_below (g := gb257) (o := .cells #[.int .i32 t253, .int .i32 t254, .int .i32 t255, .int .i32 t256] 31 (0, 0)) (by (with_reducible repeat (first | refine blk_drewN ?_ _ | refine blk_drew ?_ | refine blk_alloc ?_ _)); exact BK257.out) hb); have n3_ := Aside0.mk (below_step (by repeat (first | (with_reducible first | exact HB.out | apply below_alloc | apply pw_below_drewN | apply below_drew1 | refine below_set ?_ GE250.out | refine below_set ?_ GE251.out | refine below_set ?_ GE257.out) | exact HB.out)) hb); have n4_ := Aside0.mk (hbox); have n5_ := Aside0.mk ((by rw [hg]; exact (below_size (by repeat (first | (with_reducible first | exact HB.out | apply below_alloc | apply pw_below_drewN | apply below_drew1 | refine below_set ?_ GE250.out | refine below_set ?_ GE251.out | refine below_set ?_ GE257.out) | exact HB.out))) : w.heap.size ≤ gb262)); have n6_ := Aside0.mk ((by rw [hg]; exact (below_size (by repeat (first | (with_reducible first | exact HB.out | apply below_alloc | apply pw_below_drewN | apply below_drew1 | refine below_set ?_ GE250.out | refine below_set ?_ GE251.out | refine below_set ?_ GE257.out) | exact HB.out))) : w.heap.size ≤ gb262)); have n7_ := Aside0.mk ((by rw [hg]; exact Nat.ne_of_lt (blk_lt (g := gb250) (o := .cells #[.int .i32 a0_0, .int .i32 a0_1, .int .i32 a0_2, .int .i32 a0_3] 28 (0, 0)) (by (with_reducible repeat (first | refine blk_drewN ?_ _ | refine blk_drew ?_ | refine blk_alloc ?_ _)); exact BK250.out)) : gb250 ≠ gb262)); have n8_ := Aside0.mk ((by rw [hg]; exact Nat.ne_of_gt (blk_lt (g := gb250) (o := .cells #[.int .i32 a0_0, .int .i32 a0_1, .int .i32 a0_2, .int .i32 a0_3] 28 (0, 0)) (by (with_reducible repeat (first | refine blk_drewN ?_ _ | refine blk_drew ?_ | refine blk_alloc ?_ _)); exact BK250.out)) : gb262 ≠ gb250)); have n9_ := Aside0.mk ((by rw [hg]; exact Nat.ne_of_lt (blk_lt (g := gb251) (o := .cells #[.int .i32 a1_0, .int .i32 a1_1, .int .i32 a1_2, .int .i32 a1_3] 28 (0, 0)) (by (with_reducible repeat (first | refine blk_drewN ?_ _ | refine blk_drew ?_ | refine blk_alloc ?_ _)); exact BK251.out)) : gb251 ≠ gb262)); have n10_ := Aside0.mk ((by rw [hg]; exact Nat.ne_of_gt (blk_lt (g := gb251) (o := .cells #[.int .i32 a1_0, .int .i32 a1_1, .int .i32 a1_2, .int .i32 a1_3] 28 (0, 0)) (by (with_reducible repeat (first | refine blk_drewN ?_ _ | refine blk_drew ?_ | refine blk_alloc ?_ _)); exact BK251.out)) : gb262 ≠ gb251)); have n11_ := Aside0.mk ((by rw [hg]; exact Nat.ne_of_lt (blk_lt (g := gb257) (o := .cells #[.int .i32 t253, .int .i32 t254, .int .i32 t255, .int .i32 t256] 31 (0, 0)) (by (with_reducible repeat (first | refine blk_drewN ?_ _ | refine blk_drew ?_ | refine blk_alloc ?_ _)); exact BK257.out)) : gb257 ≠ gb262)); have n12_ := Aside0.mk ((by rw [hg]; exact Nat.ne_of_gt (blk_lt (g := gb257) (o := .cells #[.int .i32 t253, .int .i32 t254, .int .i32 t255, .int .i32 t256] 31 (0, 0)) (by (with_reducible repeat (first | refine blk_drewN ?_ _ | refine blk_drew ?_ | refine blk_alloc ?_ _)); exact BK257.out)) : gb262 ≠ gb257)); clear BK250; clear BK251; clear BK257; clear HB; have BK250 := n0_; have BK251 := n1_; have BK257 := n2_; have HB := n3_; have BK262 := n4_; have GW262 := n5_; have GE262 := n6_; have NB250_262 := n7_; have NB262_250 := n8_; have NB251_262 := n9_; have NB262_251 := n10_; have NB257_262 := n11_; have NB262_257 := n12_; clear n0_ n1_ n2_ n3_ n4_ n5_ n6_ n7_ n8_ n9_ n10_ n11_ n12_; clear hb hbox hg; have hnb31 := NB262_250.out; have hnc31 := NB250_262.out; have hnb32 := NB262_251.out; have hnc32 := NB251_262.out; have hnb33 := NB262_257.out; have hnc33 := NB257_262.out; have hcz34_0 : w30.cell? ⟨gb262, 0, none⟩ = some (.int .i32 0) := (blk_cell BK262.out 0).trans rfl; have hcz34_1 : w30.cell? ⟨gb262, 1, none⟩ = some (.int .i32 0) := (blk_cell BK262.out 1).trans rfl; have hcz34_2 : w30.cell? ⟨gb262, 2, none⟩ = some (.int .i32 0) := (blk_cell BK262.out 2).trans rfl; have hcz34_3 : w30.cell? ⟨gb262, 3, none⟩ = some (.int .i32 0) := (blk_cell BK262.out 3).trans rfl; have hfz34_0 := blk_frozen BK262.out 0; have hfz34_1 := blk_frozen BK262.out 1; have hfz34_2 := blk_frozen BK262.out 2; have hfz34_3 := blk_frozen BK262.out 3))
          have n0_ : Aside0 (((((w30.setCell ⟨gb262, 0, none⟩ (.int .i32 t258)).setCell ⟨gb262, 1, none⟩ (.int .i32 t259)).setCell ⟨gb262, 2, none⟩ (.int .i32 t260)).setCell ⟨gb262, 3, none⟩ (.int .i32 t261)).heap[gb250]? = some (.cells #[.int .i32 a0_0, .int .i32 a0_1, .int .i32 a0_2, .int .i32 a0_3] 28 (0, 0))) := ⟨by (with_reducible repeat (first | refine blk_drewN ?_ _ | refine blk_drew ?_ | refine blk_alloc ?_ _)); refine blk_far ?_ NB250_262.out _; (with_reducible repeat (first | refine blk_drewN ?_ _ | refine blk_drew ?_ | refine blk_alloc ?_ _)); refine blk_far ?_ NB250_262.out _; (with_reducible repeat (first | refine blk_drewN ?_ _ | refine blk_drew ?_ | refine blk_alloc ?_ _)); refine blk_far ?_ NB250_262.out _; (with_reducible repeat (first | refine blk_drewN ?_ _ | refine blk_drew ?_ | refine blk_alloc ?_ _)); refine blk_far ?_ NB250_262.out _; (with_reducible repeat (first | refine blk_drewN ?_ _ | refine blk_drew ?_ | refine blk_alloc ?_ _)); exact BK250.out⟩
          have n1_ : Aside0 (((((w30.setCell ⟨gb262, 0, none⟩ (.int .i32 t258)).setCell ⟨gb262, 1, none⟩ (.int .i32 t259)).setCell ⟨gb262, 2, none⟩ (.int .i32 t260)).setCell ⟨gb262, 3, none⟩ (.int .i32 t261)).heap[gb251]? = some (.cells #[.int .i32 a1_0, .int .i32 a1_1, .int .i32 a1_2, .int .i32 a1_3] 28 (0, 0))) := ⟨by (with_reducible repeat (first | refine blk_drewN ?_ _ | refine blk_drew ?_ | refine blk_alloc ?_ _)); refine blk_far ?_ NB251_262.out _; (with_reducible repeat (first | refine blk_drewN ?_ _ | refine blk_drew ?_ | refine blk_alloc ?_ _)); refine blk_far ?_ NB251_262.out _; (with_reducible repeat (first | refine blk_drewN ?_ _ | refine blk_drew ?_ | refine blk_alloc ?_ _)); refine blk_far ?_ NB251_262.out _; (with_reducible repeat (first | refine blk_drewN ?_ _ | refine blk_drew ?_ | refine blk_alloc ?_ _)); refine blk_far ?_ NB251_262.out _; (with_reducible repeat (first | refine blk_drewN ?_ _ | refine blk_drew ?_ | refine blk_alloc ?_ _)); exact BK251.out⟩
          have n2_ : Aside0 (((((w30.setCell ⟨gb262, 0, none⟩ (.int .i32 t258)).setCell ⟨gb262, 1, none⟩ (.int .i32 t259)).setCell ⟨gb262, 2, none⟩ (.int .i32 t260)).setCell ⟨gb262, 3, none⟩ (.int .i32 t261)).heap[gb257]? = some (.cells #[.int .i32 t253, .int .i32 t254, .int .i32 t255, .int .i32 t256] 31 (0, 0))) := ⟨by (with_reducible repeat (first | refine blk_drewN ?_ _ | refine blk_drew ?_ | refine blk_alloc ?_ _)); refine blk_far ?_ NB257_262.out _; (with_reducible repeat (first | refine blk_drewN ?_ _ | refine blk_drew ?_ | refine blk_alloc ?_ _)); refine blk_far ?_ NB257_262.out _; (with_reducible repeat (first | refine blk_drewN ?_ _ | refine blk_drew ?_ | refine blk_alloc ?_ _)); refine blk_far ?_ NB257_262.out _; (with_reducible repeat (first | refine blk_drewN ?_ _ | refine blk_drew ?_ | refine blk_alloc ?_ _)); refine blk_far ?_ NB257_262.out _; (with_reducible repeat (first | refine blk_drewN ?_ _ | refine blk_drew ?_ | refine blk_alloc ?_ _)); exact BK257.out⟩
          have n3_ : Aside0 (((((w30.setCell ⟨gb262, 0, none⟩ (.int .i32 t258)).setCell ⟨gb262, 1, none⟩ (.int .i32 t259)).setCell ⟨gb262, 2, none⟩ (.int .i32 t260)).setCell ⟨gb262, 3, none⟩ (.int .i32 t261)).heap[gb262]? = some (.cells #[.int .i32 t258, .int .i32 t259, .int .i32 t260, .int .i32 t261] 31 (0, 0))) := ⟨by (with_reducible repeat (first | refine blk_drewN ?_ _ | refine blk_drew ?_ | refine blk_alloc ?_ _)); refine blk_put (cs := #[.int .i32 t258, .int .i32 t259, .int .i32 t260, .int .i32 0]) ?_ 3 _ rfl; (with_reducible repeat (first | refine blk_drewN ?_ _ | refine blk_drew ?_ | refine blk_alloc ?_ _)); refine blk_put (cs := #[.int .i32 t258, .int .i32 t259, .int .i32 0, .int .i32 0]) ?_ 2 _ rfl; (with_reducible repeat (first | refine blk_drewN ?_ _ | refine blk_drew ?_ | refine blk_alloc ?_ _)); refine blk_put (cs := #[.int .i32 t258, .int .i32 0, .int .i32 0, .int .i32 0]) ?_ 1 _ rfl; (with_reducible repeat (first | refine blk_drewN ?_ _ | refine blk_drew ?_ | refine blk_alloc ?_ _)); refine blk_put (cs := #[.int .i32 0, .int .i32 0, .int .i32 0, .int .i32 0]) ?_ 0 _ rfl; (with_reducible repeat (first | refine blk_drewN ?_ _ | refine blk_drew ?_ | refine blk_alloc ?_ _)); exact BK262.out⟩
          have n4_ : Aside0 (Below w.heap.size w ((((w30.setCell ⟨gb262, 0, none⟩ (.int .i32 t258)).setCell ⟨gb262, 1, none⟩ (.int .i32 t259)).setCell ⟨gb262, 2, none⟩ (.int .i32 t260)).setCell ⟨gb262, 3, none⟩ (.int .i32 t261))) := ⟨by repeat (first | (with_reducible first | exact HB.out | apply below_alloc | apply pw_below_drewN | apply below_drew1 | refine below_set ?_ GE250.out | refine below_set ?_ GE251.out | refine below_set ?_ GE257.out | refine below_set ?_ GE262.out) | exact HB.out)⟩
          (try clear BK250)
          (try clear BK251)
          (try clear BK257)
          (try clear BK262)
          (try clear HB)
          generalize ((((w30.setCell ⟨gb262, 0, none⟩ (.int .i32 t258)).setCell ⟨gb262, 1, none⟩ (.int .i32 t259)).setCell ⟨gb262, 2, none⟩ (.int .i32 t260)).setCell ⟨gb262, 3, none⟩ (.int .i32 t261)) = w35 at n0_ n1_ n2_ n3_ n4_ ⊢
          have BK250 := n0_
          have BK251 := n1_
          have BK257 := n2_
          have BK262 := n3_
          have HB := n4_
          clear n0_ n1_ n2_ n3_ n4_
          have n0_ := Aside0.mk (blk_drew BK250.out)
          have n1_ := Aside0.mk (blk_drew BK251.out)
          have n2_ := Aside0.mk (blk_drew BK257.out)
          have n3_ := Aside0.mk (blk_drew BK262.out)
          have n4_ := Aside0.mk (below_drew1 HB.out)
          clear BK250
          clear BK251
          clear BK257
          clear BK262
          clear HB
          have BK250 := n0_
          have BK251 := n1_
          have BK257 := n2_
          have BK262 := n3_
          have HB := n4_
          clear n0_ n1_ n2_ n3_ n4_
          refine start_ (n := 35) (S := fun w' => w'.cell? ⟨gb257, 0, none⟩ = some (.int .i32 t253) ∧ w'.cell? ⟨gb257, 1, none⟩ = some (.int .i32 t254) ∧ w'.cell? ⟨gb257, 2, none⟩ = some (.int .i32 t255) ∧ w'.cell? ⟨gb257, 3, none⟩ = some (.int .i32 t256) ∧ w'.cell? ⟨gb262, 0, none⟩ = some (.int .i32 t258) ∧ w'.cell? ⟨gb262, 1, none⟩ = some (.int .i32 t259) ∧ w'.cell? ⟨gb262, 2, none⟩ = some (.int .i32 t260) ∧ w'.cell? ⟨gb262, 3, none⟩ = some (.int .i32 t261) ∧ w'.cell? ⟨gb250, 0, none⟩ = some (.int .i32 a0_0) ∧ w'.cell? ⟨gb250, 1, none⟩ = some (.int .i32 a0_1) ∧ w'.cell? ⟨gb250, 2, none⟩ = some (.int .i32 a0_2) ∧ w'.cell? ⟨gb250, 3, none⟩ = some (.int .i32 a0_3)) (ds := []) #[false, false, false, false, false, false, false, false, false, false, false, false, false, false, false, false, false, false, false, false, false, false, false, false, false, false, false, false, false, false, false, false, false, false, false] (by kernel_rfl) rfl rfl ⟨(blk_cell BK257.out 0).trans rfl, (blk_cell BK257.out 1).trans rfl, (blk_cell BK257.out 2).trans rfl, (blk_cell BK257.out 3).trans rfl, (blk_cell BK262.out 0).trans rfl, (blk_cell BK262.out 1).trans rfl, (blk_cell BK262.out 2).trans rfl, (blk_cell BK262.out 3).trans rfl, (blk_cell BK250.out 0).trans rfl, (blk_cell BK250.out 1).trans rfl, (blk_cell BK250.out 2).trans rfl, (blk_cell BK250.out 3).trans rfl⟩ (fun hHeld => ?_); refine with_tabW billiardlaw08_BoxSymmetric.tab5 billiardlaw08_BoxSymmetric.bits5 (fun HT_ HW_ => ?_)
          generalize w35.drew = w36 at BK250 BK251 BK257 BK262 HB hHeld ⊢
          refine take_ (i := 0) (N := some 13) (v := ?_) (a' := ?_) #[true, false, false, false, false, false, false, false, false, false, false, false, false, false, false, false, false, false, false, false, false, false, false, false, false, false, false, false, false, false, false, false, false, false, false] rfl rfl (take_ofW HT_.out HW_.out (by kernel_rfl)) (fun _ _ _ h => h) (Or.inl ⟨by rfl, ?_⟩) hHeld ?_ ?_
          rotate_left
          · rintro w' ⟨s0, s1, s2, s3, s4, s5, s6, s7, s8, s9, s10, s11⟩
            go_simp
            with_reducible rfl
          rotate_left
          · simp only [Act.put, List.setIfInBounds_toArray, List.set_cons_zero, List.set_cons_succ, i64_w, i32_w]
            rfl
          refine take_ (i := 1) (N := some 14) (v := ?_) (a' := ?_) #[true, true, false, false, false, false, false, false, false, false, false, false, false, false, false, false, false, false, false, false, false, false, false, false, false, false, false, false, false, false, false, false, false, false, false] rfl rfl (take_ofW HT_.out HW_.out (by kernel_rfl)) (fun _ _ _ h => h) (Or.inl ⟨by rfl, ?_⟩) hHeld ?_ ?_
          rotate_left
          · rintro w' ⟨s0, s1, s2, s3, s4, s5, s6, s7, s8, s9, s10, s11⟩
            go_simp
            with_reducible rfl
          rotate_left
          · simp only [Act.put, List.setIfInBounds_toArray, List.set_cons_zero, List.set_cons_succ, i64_w, i32_w]
            rfl
          refine take_ (i := 3) (N := some 16) (v := ?_) (a' := ?_) #[true, true, false, true, false, false, false, false, false, false, false, false, false, false, false, false, false, false, false, false, false, false, false, false, false, false, false, false, false, false, false, false, false, false, false] rfl rfl (take_ofW HT_.out HW_.out (by kernel_rfl)) (fun _ _ _ h => h) (Or.inl ⟨by rfl, ?_⟩) hHeld ?_ ?_
          rotate_left
          · rintro w' ⟨s0, s1, s2, s3, s4, s5, s6, s7, s8, s9, s10, s11⟩
            go_simp
            with_reducible rfl
          rotate_left
          · simp only [Act.put, List.setIfInBounds_toArray, List.set_cons_zero, List.set_cons_succ, i64_w, i32_w]
            rfl
          refine take_ (i := 4) (N := some 17) (v := ?_) (a' := ?_) #[true, true, false, true, true, false, false, false, false, false, false, false, false, false, false, false, false, false, false, false, false, false, false, false, false, false, false, false, false, false, false, false, false, false, false] rfl rfl (take_ofW HT_.out HW_.out (by kernel_rfl)) (fun _ _ _ h => h) (Or.inl ⟨by rfl, ?_⟩) hHeld ?_ ?_
          rotate_left
          · rintro w' ⟨s0, s1, s2, s3, s4, s5, s6, s7, s8, s9, s10, s11⟩
            go_simp
            with_reducible rfl
          rotate_left
          · simp only [Act.put, List.setIfInBounds_toArray, List.set_cons_zero, List.set_cons_succ, i64_w, i32_w]
            rfl
          refine one_ (i := 2) (N := some 15) #[true, true, true, true, true, false, false, false, false, false, false, false, false, false, false, false, false, false, false, false, false, false, false, false, false, false, false, false, false, false, false, false, false, false, false] rfl rfl (one_of HT_.out (by kernel_rfl)) (by decide) (fun K hK => ?_)
          refine goes_ Tryd.func14 (by kernel_rfl) rfl #[.agg #[.int .i32 t253, .int .i32 t254, .int .i32 t255, .int .i32 t256], .agg #[.int .i32 t258, .int .i32 t259, .int .i32 t260, .int .i32 t261]] (by rfl) rfl rfl (by (try simp only [List.map_toArray, List.map_cons, List.map_nil]); first | done | rfl | (simp only [List.length_drop, List.length_take]; rfl)) ?_
          with_reducible refine (box_Overlap.calls t253 t254 t255 t256 t258 t259 t260 t261 t263 _ A7.out (HGN.out.below (by repeat (first | (with_reducible first | exact HB.out | apply below_alloc | apply pw_below_drewN | apply below_drew1 | refine below_set ?_ GE250.out | refine below_set ?_ GE251.out | refine below_set ?_ GE257.out | refine below_set ?_ GE262.out) | exact HB.out)))).mono ?_
          rintro e w37 ⟨rfl, hb⟩
          refine ⟨_, rfl, ?_⟩
          have n0_ := Aside0.mk (blk_below (g := gb250) (o := .cells #[.int .i32 a0_0, .int .i32 a0_1, .int .i32 a0_2, .int .i32 a0_3] 28 (0, 0)) (by (with_reducible repeat (first | refine blk_drewN ?_ _ | refine blk_drew ?_ | refine blk_alloc ?_ _)); exact BK250.out) hb)
          have n1_ := Aside0.mk (blk_below (g := gb251) (o := .cells #[.int .i32 a1_0, .int .i32 a1_1, .int .i32 a1_2, .int .i32 a1_3] 28 (0, 0)) (by (with_reducible repeat (first | refine blk_drewN ?_ _ | refine blk_drew ?_ | refine blk_alloc ?_ _)); exact BK251.out) hb)
          have n2_ := Aside0.mk (blk_below (g := gb257) (o := .cells #[.int .i32 t253, .int .i32 t254, .int .i32 t255, .int .i32 t256] 31 (0, 0)) (by (with_reducible repeat (first | refine blk_drewN ?_ _ | refine blk_drew ?_ | refine blk_alloc ?_ _)); exact BK257.out) hb)
          have n3_ := Aside0.mk (blk_below (g := gb262) (o := .cells #[.int .i32 t258, .int .i32 t259, .int .i32 t260, .int .i32 t261] 31 (0, 0)) (by (with_reducible repeat (first | refine blk_drewN ?_ _ | refine blk_drew ?_ | refine blk_alloc ?_ _)); exact BK262.out) hb)
          have n4_ := Aside0.mk (below_step (by repeat (first | (with_reducible first | exact HB.out | apply below_alloc | apply pw_below_drewN | apply below_drew1 | refine below_set ?_ GE250.out | refine below_set ?_ GE251.out | refine below_set ?_ GE257.out | refine below_set ?_ GE262.out) | exact HB.out)) hb)
          clear BK250
          clear BK251
          clear BK257
          clear BK262
          clear HB
          have BK250 := n0_
          have BK251 := n1_
          have BK257 := n2_
          have BK262 := n3_
          have HB := n4_
          clear n0_ n1_ n2_ n3_ n4_
          (try clear hb)
          (try clear hb2)
          (try clear hk)
          (try clear hi)
          refine hK.out _ _ ⟨(blk_cell BK257.out 0).trans rfl, (blk_cell BK257.out 1).trans rfl, (blk_cell BK257.out 2).trans rfl, (blk_cell BK257.out 3).trans rfl, (blk_cell BK262.out 0).trans rfl, (blk_cell BK262.out 1).trans rfl, (blk_cell BK262.out 2).trans rfl, (blk_cell BK262.out 3).trans rfl, (blk_cell BK250.out 0).trans rfl, (blk_cell BK250.out 1).trans rfl, (blk_cell BK250.out 2).trans rfl, (blk_cell BK250.out 3).trans rfl⟩ (fun hHeld => ?_)
          clear hK K
          refine norm_ (a' := ?_) ?_ ?_
          rotate_left
          · show Act.put _ (some 15) _ = _
            simp only [Act.put, List.setIfInBounds_toArray, List.set_cons_zero, List.set_cons_succ, i64_w, i32_w]
            rfl
          refine one_ (i := 5) (N := some 18) #[true, true, true, true, true, true, false, false, false, false, false, false, false, false, false, false, false, false, false, false, false, false, false, false, false, false, false, false, false, false, false, false, false, false, false] rfl rfl (one_of HT_.out (by kernel_rfl)) (by decide) (fun K hK => ?_)
          refine goes_ Tryd.func14 (by kernel_rfl) rfl #[.agg #[.int .i32 t258, .int .i32 t259, .int .i32 t260, .int .i32 t261], .agg #[.int .i32 t253, .int .i32 t254, .int .i32 t255, .int .i32 t256]] (by rfl) rfl rfl (by (try simp only [List.map_toArray, List.map_cons, List.map_nil]); first | done | rfl | (simp only [List.length_drop, List.length_take]; rfl)) ?_
          with_reducible refine (box_Overlap.calls t258 t259 t260 t261 t253 t254 t255 t256 t264 _ A8.out (HGN.out.below (by repeat (first | (with_reducible first | exact HB.out | apply below_alloc | apply pw_below_drewN | apply below_drew1 | refine below_set ?_ GE250.out | refine below_set ?_ GE251.out | refine below_set ?_ GE257.out | refine below_set ?_ GE262.out) | exact HB.out)))).mono ?_
          rintro e w38 ⟨rfl, hb⟩
          refine ⟨_, rfl, ?_⟩
          have n0_ := Aside0.mk (blk_below (g := gb250) (o := .cells #[.int .i32 a0_0, .int .i32 a0_1, .int .i32 a0_2, .int .i32 a0_3] 28 (0, 0)) (by (with_reducible repeat (first | refine blk_drewN ?_ _ | refine blk_drew ?_ | refine blk_alloc ?_ _)); exact BK250.out) hb)
          have n1_ := Aside0.mk (blk_below (g := gb251) (o := .cells #[.int .i32 a1_0, .int .i32 a1_1, .int .i32 a1_2, .int .i32 a1_3] 28 (0, 0)) (by (with_reducible repeat (first | refine blk_drewN ?_ _ | refine blk_drew ?_ | refine blk_alloc ?_ _)); exact BK251.out) hb)
          have n2_ := Aside0.mk (blk_below (g := gb257) (o := .cells #[.int .i32 t253, .int .i32 t254, .int .i32 t255, .int .i32 t256] 31 (0, 0)) (by (with_reducible repeat (first | refine blk_drewN ?_ _ | refine blk_drew ?_ | refine blk_alloc ?_ _)); exact BK257.out) hb)
          have n3_ := Aside0.mk (blk_below (g := gb262) (o := .cells #[.int .i32 t258, .int .i32 t259, .int .i32 t260, .int .i32 t261] 31 (0, 0)) (by (with_reducible repeat (first | refine blk_drewN ?_ _ | refine blk_drew ?_ | refine blk_alloc ?_ _)); exact BK262.out) hb)
          have n4_ := Aside0.mk (below_step (by repeat (first | (with_reducible first | exact HB.out | apply below_alloc | apply pw_below_drewN | apply below_drew1 | refine below_set ?_ GE250.out | refine below_set ?_ GE251.out | refine below_set ?_ GE257.out | refine below_set ?_ GE262.out) | exact HB.out)) hb)
          clear BK250
          clear BK251
          clear BK257
          clear BK262
          clear HB
          have BK250 := n0_
          have BK251 := n1_
          have BK257 := n2_
          have BK262 := n3_
          have HB := n4_
          clear n0_ n1_ n2_ n3_ n4_
          (try clear hb)
          (try clear hb2)
          (try clear hk)
          (try clear hi)
          refine hK.out _ _ ⟨(blk_cell BK257.out 0).trans rfl, (blk_cell BK257.out 1).trans rfl, (blk_cell BK257.out 2).trans rfl, (blk_cell BK257.out 3).trans rfl, (blk_cell BK262.out 0).trans rfl, (blk_cell BK262.out 1).trans rfl, (blk_cell BK262.out 2).trans rfl, (blk_cell BK262.out 3).trans rfl, (blk_cell BK250.out 0).trans rfl, (blk_cell BK250.out 1).trans rfl, (blk_cell BK250.out 2).trans rfl, (blk_cell BK250.out 3).trans rfl⟩ (fun hHeld => ?_)
          clear hK K
          refine norm_ (a' := ?_) ?_ ?_
          rotate_left
          · show Act.put _ (some 18) _ = _
            simp only [Act.put, List.setIfInBounds_toArray, List.set_cons_zero, List.set_cons_succ, i64_w, i32_w]
            rfl
          refine pure_ (i := 6) (N := some 19) (v := ?_) (a' := ?_) #[true, true, true, true, true, true, true, false, false, false, false, false, false, false, false, false, false, false, false, false, false, false, false, false, false, false, false, false, false, false, false, false, false, false, false] rfl rfl (any_of HT_.out (by kernel_rfl)) (fun _ _ _ h => h) (Or.inl ⟨by rfl, ?_⟩) ?_ ?_
          rotate_left
          · intro w'
            go_simp
            with_reducible rfl
          rotate_left
          · simp only [Act.put, List.setIfInBounds_toArray, List.set_cons_zero, List.set_cons_succ, i64_w, i32_w]
            rfl
          refine pure_ (i := 7) (N := some 20) (v := ?_) (a' := ?_) #[true, true, true, true, true, true, true, true, false, false, false, false, false, false, false, false, false, false, false, false, false, false, false, false, false, false, false, false, false, false, false, false, false, false, false] rfl rfl (any_of HT_.out (by kernel_rfl)) (fun _ _ _ h => h) (Or.inl ⟨by rfl, ?_⟩) ?_ ?_
          rotate_left
          · intro w'
            go_simp
            with_reducible rfl
          rotate_left
          · simp only [Act.put, List.setIfInBounds_toArray, List.set_cons_zero, List.set_cons_succ, i64_w, i32_w]
            rfl
          refine take_ (i := 8) (N := some 21) (v := ?_) (a' := ?_) #[true, true, true, true, true, true, true, true, true, false, false, false, false, false, false, false, false, false, false, false, false, false, false, false, false, false, false, false, false, false, false, false, false, false, false] rfl rfl (take_ofW HT_.out HW_.out (by kernel_rfl)) (fun _ _ _ h => h) (Or.inl ⟨by rfl, ?_⟩) hHeld ?_ ?_
          rotate_left
          · rintro w' ⟨s0, s1, s2, s3, s4, s5, s6, s7, s8, s9, s10, s11⟩
            go_simp
            with_reducible rfl
          rotate_left
          · simp only [Act.put, List.setIfInBounds_toArray, List.set_cons_zero, List.set_cons_succ, i64_w, i32_w]
            rfl
          refine take_ (i := 9) (N := some 22) (v := ?_) (a' := ?_) #[true, true, true, true, true, true, true, true, true, true, false, false, false, false, false, false, false, false, false, false, false, false, false, false, false, false, false, false, false, false, false, false, false, false, false] rfl rfl (take_ofW HT_.out HW_.out (by kernel_rfl)) (fun _ _ _ h => h) (Or.inl ⟨by rfl, ?_⟩) hHeld ?_ ?_
          rotate_left
          · rintro w' ⟨s0, s1, s2, s3, s4, s5, s6, s7, s8, s9, s10, s11⟩
            go_simp
            with_reducible rfl
          rotate_left
          · simp only [Act.put, List.setIfInBounds_toArray, List.set_cons_zero, List.set_cons_succ, i64_w, i32_w]
            rfl
          refine take_ (i := 11) (N := some 24) (v := ?_) (a' := ?_) #[true, true, true, true, true, true, true, true, true, true, false, true, false, false, false, false, false, false, false, false, false, false, false, false, false, false, false, false, false, false, false, false, false, false, false] rfl rfl (take_ofW HT_.out HW_.out (by kernel_rfl)) (fun _ _ _ h => h) (Or.inl ⟨by rfl, ?_⟩) hHeld ?_ ?_
          rotate_left
          · rintro w' ⟨s0, s1, s2, s3, s4, s5, s6, s7, s8, s9, s10, s11⟩
            go_simp
            with_reducible rfl
          rotate_left
          · simp only [Act.put, List.setIfInBounds_toArray, List.set_cons_zero, List.set_cons_succ, i64_w, i32_w]
            rfl
          refine take_ (i := 12) (N := some 25) (v := ?_) (a' := ?_) #[true, true, true, true, true, true, true, true, true, true, false, true, true, false, false, false, false, false, false, false, false, false, false, false, false, false, false, false, false, false, false, false, false, false, false] rfl rfl (take_ofW HT_.out HW_.out (by kernel_rfl)) (fun _ _ _ h => h) (Or.inl ⟨by rfl, ?_⟩) hHeld ?_ ?_
          rotate_left
          · rintro w' ⟨s0, s1, s2, s3, s4, s5, s6, s7, s8, s9, s10, s11⟩
            go_simp
            with_reducible rfl
          rotate_left
          · simp only [Act.put, List.setIfInBounds_toArray, List.set_cons_zero, List.set_cons_succ, i64_w, i32_w]
            rfl
          refine one_ (i := 10) (N := some 23) #[true, true, true, true, true, true, true, true, true, true, true, true, true, false, false, false, false, false, false, false, false, false, false, false, false, false, false, false, false, false, false, false, false, false, false] rfl rfl (one_of HT_.out (by kernel_rfl)) (by decide) (fun K hK => ?_)
          refine goes_ Tryd.func18 (by kernel_rfl) rfl #[.agg #[.int .i32 t253, .int .i32 t254, .int .i32 t255, .int .i32 t256], .agg #[.int .i32 t258, .int .i32 t259, .int .i32 t260, .int .i32 t261]] (by rfl) rfl rfl (by (try simp only [List.map_toArray, List.map_cons, List.map_nil]); first | done | rfl | (simp only [List.length_drop, List.length_take]; rfl)) ?_
          with_reducible refine (box_Meet.calls t253 t254 t255 t256 t258 t259 t260 t261 t265 t266 t267 t268 _ A10.out (HGN.out.below (by repeat (first | (with_reducible first | exact HB.out | apply below_alloc | apply pw_below_drewN | apply below_drew1 | refine below_set ?_ GE250.out | refine below_set ?_ GE251.out | refine below_set ?_ GE257.out | refine below_set ?_ GE262.out) | exact HB.out)))).mono ?_
          rintro e w39 ⟨rfl, hb⟩
          refine ⟨_, rfl, ?_⟩
          have n0_ := Aside0.mk (blk_below (g := gb250) (o := .cells #[.int .i32 a0_0, .int .i32 a0_1, .int .i32 a0_2, .int .i32 a0_3] 28 (0, 0)) (by (with_reducible repeat (first | refine blk_drewN ?_ _ | refine blk_drew ?_ | refine blk_alloc ?_ _)); exact BK250.out) hb)
          have n1_ := Aside0.mk (blk_below (g := gb251) (o := .cells #[.int .i32 a1_0, .int .i32 a1_1, .int .i32 a1_2, .int .i32 a1_3] 28 (0, 0)) (by (with_reducible repeat (first | refine blk_drewN ?_ _ | refine blk_drew ?_ | refine blk_alloc ?_ _)); exact BK251.out) hb)
          have n2_ := Aside0.mk (blk_below (g := gb257) (o := .cells #[.int .i32 t253, .int .i32 t254, .int .i32 t255, .int .i32 t256] 31 (0, 0)) (by (with_reducible repeat (first | refine blk_drewN ?_ _ | refine blk_drew ?_ | refine blk_alloc ?_ _)); exact BK257.out) hb)
          have n3_ := Aside0.mk (blk_below (g := gb262) (o := .cells #[.int .i32 t258, .int .i32 t259, .int .i32 t260, .int .i32 t261] 31 (0, 0)) (by (with_reducible repeat (first | refine blk_drewN ?_ _ | refine blk_drew ?_ | refine blk_alloc ?_ _)); exact BK262.out) hb)
          have n4_ := Aside0.mk (below_step (by repeat (first | (with_reducible first | exact HB.out | apply below_alloc | apply pw_below_drewN | apply below_drew1 | refine below_set ?_ GE250.out | refine below_set ?_ GE251.out | refine below_set ?_ GE257.out | refine below_set ?_ GE262.out) | exact HB.out)) hb)
          clear BK250
          clear BK251
          clear BK257
          clear BK262
          clear HB
          have BK250 := n0_
          have BK251 := n1_
          have BK257 := n2_
          have BK262 := n3_
          have HB := n4_
          clear n0_ n1_ n2_ n3_ n4_
          (try clear hb)
          (try clear hb2)
          (try clear hk)
          (try clear hi)
          refine hK.out _ _ ⟨(blk_cell BK257.out 0).trans rfl, (blk_cell BK257.out 1).trans rfl, (blk_cell BK257.out 2).trans rfl, (blk_cell BK257.out 3).trans rfl, (blk_cell BK262.out 0).trans rfl, (blk_cell BK262.out 1).trans rfl, (blk_cell BK262.out 2).trans rfl, (blk_cell BK262.out 3).trans rfl, (blk_cell BK250.out 0).trans rfl, (blk_cell BK250.out 1).trans rfl, (blk_cell BK250.out 2).trans rfl, (blk_cell BK250.out 3).trans rfl⟩ (fun hHeld => ?_)
          clear hK K
          refine norm_ (a' := ?_) ?_ ?_
          rotate_left
          · show Act.put _ (some 23) _ = _
            simp only [Act.put, List.setIfInBounds_toArray, List.set_cons_zero, List.set_cons_succ, i64_w, i32_w]
            rfl
          refine one_ (i := 13) (N := some 26) #[true, true, true, true, true, true, true, true, true, true, true, true, true, true, false, false, false, false, false, false, false, false, false, false, false, false, false, false, false, false, false, false, false, false, false] rfl rfl (one_of HT_.out (by kernel_rfl)) (by decide) (fun K hK => ?_)
          refine goes_ Tryd.func18 (by kernel_rfl) rfl #[.agg #[.int .i32 t258, .int .i32 t259, .int .i32 t260, .int .i32 t261], .agg #[.int .i32 t253, .int .i32 t254, .int .i32 t255, .int .i32 t256]] (by rfl) rfl rfl (by (try simp only [List.map_toArray, List.map_cons, List.map_nil]); first | done | rfl | (simp only [List.length_drop, List.length_take]; rfl)) ?_
          with_reducible refine (box_Meet.calls t258 t259 t260 t261 t253 t254 t255 t256 t269 t270 t271 t272 _ A11.out (HGN.out.below (by repeat (first | (with_reducible first | exact HB.out | apply below_alloc | apply pw_below_drewN | apply below_drew1 | refine below_set ?_ GE250.out | refine below_set ?_ GE251.out | refine below_set ?_ GE257.out | refine below_set ?_ GE262.out) | exact HB.out)))).mono ?_
          rintro e w40 ⟨rfl, hb⟩
          refine ⟨_, rfl, ?_⟩
          have n0_ := Aside0.mk (blk_below (g := gb250) (o := .cells #[.int .i32 a0_0, .int .i32 a0_1, .int .i32 a0_2, .int .i32 a0_3] 28 (0, 0)) (by (with_reducible repeat (first | refine blk_drewN ?_ _ | refine blk_drew ?_ | refine blk_alloc ?_ _)); exact BK250.out) hb)
          have n1_ := Aside0.mk (blk_below (g := gb251) (o := .cells #[.int .i32 a1_0, .int .i32 a1_1, .int .i32 a1_2, .int .i32 a1_3] 28 (0, 0)) (by (with_reducible repeat (first | refine blk_drewN ?_ _ | refine blk_drew ?_ | refine blk_alloc ?_ _)); exact BK251.out) hb)
          have n2_ := Aside0.mk (blk_below (g := gb257) (o := .cells #[.int .i32 t253, .int .i32 t254, .int .i32 t255, .int .i32 t256] 31 (0, 0)) (by (with_reducible repeat (first | refine blk_drewN ?_ _ | refine blk_drew ?_ | refine blk_alloc ?_ _)); exact BK257.out) hb)
          have n3_ := Aside0.mk (blk_below (g := gb262) (o := .cells #[.int .i32 t258, .int .i32 t259, .int .i32 t260, .int .i32 t261] 31 (0, 0)) (by (with_reducible repeat (first | refine blk_drewN ?_ _ | refine blk_drew ?_ | refine blk_alloc ?_ _)); exact BK262.out) hb)
          have n4_ := Aside0.mk (below_step (by repeat (first | (with_reducible first | exact HB.out | apply below_alloc | apply pw_below_drewN | apply below_drew1 | refine below_set ?_ GE250.out | refine below_set ?_ GE251.out | refine below_set ?_ GE257.out | refine below_set ?_ GE262.out) | exact HB.out)) hb)
          clear BK250
          clear BK251
          clear BK257
          clear BK262
          clear HB
          have BK250 := n0_
          have BK251 := n1_
          have BK257 := n2_
          have BK262 := n3_
          have HB := n4_
          clear n0_ n1_ n2_ n3_ n4_
          (try clear hb)
          (try clear hb2)
          (try clear hk)
          (try clear hi)
          refine hK.out _ _ ⟨(blk_cell BK257.out 0).trans rfl, (blk_cell BK257.out 1).trans rfl, (blk_cell BK257.out 2).trans rfl, (blk_cell BK257.out 3).trans rfl, (blk_cell BK262.out 0).trans rfl, (blk_cell BK262.out 1).trans rfl, (blk_cell BK262.out 2).trans rfl, (blk_cell BK262.out 3).trans rfl, (blk_cell BK250.out 0).trans rfl, (blk_cell BK250.out 1).trans rfl, (blk_cell BK250.out 2).trans rfl, (blk_cell BK250.out 3).trans rfl⟩ (fun hHeld => ?_)
          clear hK K
          refine norm_ (a' := ?_) ?_ ?_
          rotate_left
          · show Act.put _ (some 26) _ = _
            simp only [Act.put, List.setIfInBounds_toArray, List.set_cons_zero, List.set_cons_succ, i64_w, i32_w]
            rfl
          refine pure_ (i := 14) (N := some 27) (v := ?_) (a' := ?_) #[true, true, true, true, true, true, true, true, true, true, true, true, true, true, true, false, false, false, false, false, false, false, false, false, false, false, false, false, false, false, false, false, false, false, false] rfl rfl (any_of HT_.out (by kernel_rfl)) (fun _ _ _ h => h) (Or.inl ⟨by rfl, ?_⟩) ?_ ?_
          rotate_left
          · intro w'
            go_simp
            with_reducible rfl
          rotate_left
          · simp only [Act.put, List.setIfInBounds_toArray, List.set_cons_zero, List.set_cons_succ, i64_w, i32_w]
            rfl
          refine pure_ (i := 15) (N := some 28) (v := ?_) (a' := ?_) #[true, true, true, true, true, true, true, true, true, true, true, true, true, true, true, true, false, false, false, false, false, false, false, false, false, false, false, false, false, false, false, false, false, false, false] rfl rfl (any_of HT_.out (by kernel_rfl)) (fun _ _ _ h => h) (Or.inl ⟨by rfl, ?_⟩) ?_ ?_
          rotate_left
          · intro w'
            go_simp
            with_reducible rfl
          rotate_left
          · simp only [Act.put, List.setIfInBounds_toArray, List.set_cons_zero, List.set_cons_succ, i64_w, i32_w]
            rfl
          refine pure_ (i := 16) (N := some 29) (v := ?_) (a' := ?_) #[true, true, true, true, true, true, true, true, true, true, true, true, true, true, true, true, true, false, false, false, false, false, false, false, false, false, false, false, false, false, false, false, false, false, false] rfl rfl (any_of HT_.out (by kernel_rfl)) (fun _ _ _ h => h) (Or.inl ⟨by rfl, ?_⟩) ?_ ?_
          rotate_left
          · intro w'
            go_simp
            with_reducible rfl
          rotate_left
          · simp only [Act.put, List.setIfInBounds_toArray, List.set_cons_zero, List.set_cons_succ, i64_w, i32_w]
            rfl
          refine take_ (i := 17) (N := some 30) (v := ?_) (a' := ?_) #[true, true, true, true, true, true, true, true, true, true, true, true, true, true, true, true, true, true, false, false, false, false, false, false, false, false, false, false, false, false, false, false, false, false, false] rfl rfl (take_ofW HT_.out HW_.out (by kernel_rfl)) (fun _ _ _ h => h) (Or.inl ⟨by rfl, ?_⟩) hHeld ?_ ?_
          rotate_left
          · rintro w' ⟨s0, s1, s2, s3, s4, s5, s6, s7, s8, s9, s10, s11⟩
            go_simp
            with_reducible rfl
          rotate_left
          · simp only [Act.put, List.setIfInBounds_toArray, List.set_cons_zero, List.set_cons_succ, i64_w, i32_w]
            rfl
          refine take_ (i := 18) (N := some 31) (v := ?_) (a' := ?_) #[true, true, true, true, true, true, true, true, true, true, true, true, true, true, true, true, true, true, true, false, false, false, false, false, false, false, false, false, false, false, false, false, false, false, false] rfl rfl (take_ofW HT_.out HW_.out (by kernel_rfl)) (fun _ _ _ h => h) (Or.inl ⟨by rfl, ?_⟩) hHeld ?_ ?_
          rotate_left
          · rintro w' ⟨s0, s1, s2, s3, s4, s5, s6, s7, s8, s9, s10, s11⟩
            go_simp
            with_reducible rfl
          rotate_left
          · simp only [Act.put, List.setIfInBounds_toArray, List.set_cons_zero, List.set_cons_succ, i64_w, i32_w]
            rfl
          refine take_ (i := 20) (N := some 33) (v := ?_) (a' := ?_) #[true, true, true, true, true, true, true, true, true, true, true, true, true, true, true, true, true, true, true, false, true, false, false, false, false, false, false, false, false, false, false, false, false, false, false] rfl rfl (take_ofW HT_.out HW_.out (by kernel_rfl)) (fun _ _ _ h => h) (Or.inl ⟨by rfl, ?_⟩) hHeld ?_ ?_
          rotate_left
          · rintro w' ⟨s0, s1, s2, s3, s4, s5, s6, s7, s8, s9, s10, s11⟩
            go_simp
            with_reducible rfl
          rotate_left
          · simp only [Act.put, List.setIfInBounds_toArray, List.set_cons_zero, List.set_cons_succ, i64_w, i32_w]
            rfl
          refine take_ (i := 21) (N := some 34) (v := ?_) (a' := ?_) #[true, true, true, true, true, true, true, true, true, true, true, true, true, true, true, true, true, true, true, false, true, true, false, false, false, false, false, false, false, false, false, false, false, false, false] rfl rfl (take_ofW HT_.out HW_.out (by kernel_rfl)) (fun _ _ _ h => h) (Or.inl ⟨by rfl, ?_⟩) hHeld ?_ ?_
          rotate_left
          · rintro w' ⟨s0, s1, s2, s3, s4, s5, s6, s7, s8, s9, s10, s11⟩
            go_simp
            with_reducible rfl
          rotate_left
          · simp only [Act.put, List.setIfInBounds_toArray, List.set_cons_zero, List.set_cons_succ, i64_w, i32_w]
            rfl
          refine one_ (i := 19) (N := some 32) #[true, true, true, true, true, true, true, true, true, true, true, true, true, true, true, true, true, true, true, true, true, true, false, false, false, false, false, false, false, false, false, false, false, false, false] rfl rfl (one_of HT_.out (by kernel_rfl)) (by decide) (fun K hK => ?_)
          refine goes_ Tryd.func19 (by kernel_rfl) rfl #[.agg #[.int .i32 t253, .int .i32 t254, .int .i32 t255, .int .i32 t256], .agg #[.int .i32 t258, .int .i32 t259, .int .i32 t260, .int .i32 t261]] (by rfl) rfl rfl (by (try simp only [List.map_toArray, List.map_cons, List.map_nil]); first | done | rfl | (simp only [List.length_drop, List.length_take]; rfl)) ?_
          with_reducible refine (box_Union.calls t253 t254 t255 t256 t258 t259 t260 t261 t273 t274 t275 t276 _ A13.out (HGN.out.below (by repeat (first | (with_reducible first | exact HB.out | apply below_alloc | apply pw_below_drewN | apply below_drew1 | refine below_set ?_ GE250.out | refine below_set ?_ GE251.out | refine below_set ?_ GE257.out | refine below_set ?_ GE262.out) | exact HB.out)))).mono ?_
          rintro e w41 ⟨rfl, hb⟩
          refine ⟨_, rfl, ?_⟩
          have n0_ := Aside0.mk (blk_below (g := gb250) (o := .cells #[.int .i32 a0_0, .int .i32 a0_1, .int .i32 a0_2, .int .i32 a0_3] 28 (0, 0)) (by (with_reducible repeat (first | refine blk_drewN ?_ _ | refine blk_drew ?_ | refine blk_alloc ?_ _)); exact BK250.out) hb)
          have n1_ := Aside0.mk (blk_below (g := gb251) (o := .cells #[.int .i32 a1_0, .int .i32 a1_1, .int .i32 a1_2, .int .i32 a1_3] 28 (0, 0)) (by (with_reducible repeat (first | refine blk_drewN ?_ _ | refine blk_drew ?_ | refine blk_alloc ?_ _)); exact BK251.out) hb)
          have n2_ := Aside0.mk (blk_below (g := gb257) (o := .cells #[.int .i32 t253, .int .i32 t254, .int .i32 t255, .int .i32 t256] 31 (0, 0)) (by (with_reducible repeat (first | refine blk_drewN ?_ _ | refine blk_drew ?_ | refine blk_alloc ?_ _)); exact BK257.out) hb)
          have n3_ := Aside0.mk (blk_below (g := gb262) (o := .cells #[.int .i32 t258, .int .i32 t259, .int .i32 t260, .int .i32 t261] 31 (0, 0)) (by (with_reducible repeat (first | refine blk_drewN ?_ _ | refine blk_drew ?_ | refine blk_alloc ?_ _)); exact BK262.out) hb)
          have n4_ := Aside0.mk (below_step (by repeat (first | (with_reducible first | exact HB.out | apply below_alloc | apply pw_below_drewN | apply below_drew1 | refine below_set ?_ GE250.out | refine below_set ?_ GE251.out | refine below_set ?_ GE257.out | refine below_set ?_ GE262.out) | exact HB.out)) hb)
          clear BK250
          clear BK251
          clear BK257
          clear BK262
          clear HB
          have BK250 := n0_
          have BK251 := n1_
          have BK257 := n2_
          have BK262 := n3_
          have HB := n4_
          clear n0_ n1_ n2_ n3_ n4_
          (try clear hb)
          (try clear hb2)
          (try clear hk)
          (try clear hi)
          refine hK.out _ _ ⟨(blk_cell BK257.out 0).trans rfl, (blk_cell BK257.out 1).trans rfl, (blk_cell BK257.out 2).trans rfl, (blk_cell BK257.out 3).trans rfl, (blk_cell BK262.out 0).trans rfl, (blk_cell BK262.out 1).trans rfl, (blk_cell BK262.out 2).trans rfl, (blk_cell BK262.out 3).trans rfl, (blk_cell BK250.out 0).trans rfl, (blk_cell BK250.out 1).trans rfl, (blk_cell BK250.out 2).trans rfl, (blk_cell BK250.out 3).trans rfl⟩ (fun hHeld => ?_)
          clear hK K
          refine norm_ (a' := ?_) ?_ ?_
          rotate_left
          · show Act.put _ (some 32) _ = _
            simp only [Act.put, List.setIfInBounds_toArray, List.set_cons_zero, List.set_cons_succ, i64_w, i32_w]
            rfl
          refine one_ (i := 22) (N := some 35) #[true, true, true, true, true, true, true, true, true, true, true, true, true, true, true, true, true, true, true, true, true, true, true, false, false, false, false, false, false, false, false, false, false, false, false] rfl rfl (one_of HT_.out (by kernel_rfl)) (by decide) (fun K hK => ?_)
          refine goes_ Tryd.func19 (by kernel_rfl) rfl #[.agg #[.int .i32 t258, .int .i32 t259, .int .i32 t260, .int .i32 t261], .agg #[.int .i32 t253, .int .i32 t254, .int .i32 t255, .int .i32 t256]] (by rfl) rfl rfl (by (try simp only [List.map_toArray, List.map_cons, List.map_nil]); first | done | rfl | (simp only [List.length_drop, List.length_take]; rfl)) ?_
          with_reducible refine (box_Union.calls t258 t259 t260 t261 t253 t254 t255 t256 t277 t278 t279 t280 _ A14.out (HGN.out.below (by repeat (first | (with_reducible first | exact HB.out | apply below_alloc | apply pw_below_drewN | apply below_drew1 | refine below_set ?_ GE250.out | refine below_set ?_ GE251.out | refine below_set ?_ GE257.out | refine below_set ?_ GE262.out) | exact HB.out)))).mono ?_
          rintro e w42 ⟨rfl, hb⟩
          refine ⟨_, rfl, ?_⟩
          have n0_ := Aside0.mk (blk_below (g := gb250) (o := .cells #[.int .i32 a0_0, .int .i32 a0_1, .int .i32 a0_2, .int .i32 a0_3] 28 (0, 0)) (by (with_reducible repeat (first | refine blk_drewN ?_ _ | refine blk_drew ?_ | refine blk_alloc ?_ _)); exact BK250.out) hb)
          have n1_ := Aside0.mk (blk_below (g := gb251) (o := .cells #[.int .i32 a1_0, .int .i32 a1_1, .int .i32 a1_2, .int .i32 a1_3] 28 (0, 0)) (by (with_reducible repeat (first | refine blk_drewN ?_ _ | refine blk_drew ?_ | refine blk_alloc ?_ _)); exact BK251.out) hb)
          have n2_ := Aside0.mk (blk_below (g := gb257) (o := .cells #[.int .i32 t253, .int .i32 t254, .int .i32 t255, .int .i32 t256] 31 (0, 0)) (by (with_reducible repeat (first | refine blk_drewN ?_ _ | refine blk_drew ?_ | refine blk_alloc ?_ _)); exact BK257.out) hb)
          have n3_ := Aside0.mk (blk_below (g := gb262) (o := .cells #[.int .i32 t258, .int .i32 t259, .int .i32 t260, .int .i32 t261] 31 (0, 0)) (by (with_reducible repeat (first | refine blk_drewN ?_ _ | refine blk_drew ?_ | refine blk_alloc ?_ _)); exact BK262.out) hb)
          have n4_ := Aside0.mk (below_step (by repeat (first | (with_reducible first | exact HB.out | apply below_alloc | apply pw_below_drewN | apply below_drew1 | refine below_set ?_ GE250.out | refine below_set ?_ GE251.out | refine below_set ?_ GE257.out | refine below_set ?_ GE262.out) | exact HB.out)) hb)
          clear BK250
          clear BK251
          clear BK257
          clear BK262
          clear HB
          have BK250 := n0_
          have BK251 := n1_
          have BK257 := n2_
          have BK262 := n3_
          have HB := n4_
          clear n0_ n1_ n2_ n3_ n4_
          (try clear hb)
          (try clear hb2)
          (try clear hk)
          (try clear hi)
          refine hK.out _ _ ⟨(blk_cell BK257.out 0).trans rfl, (blk_cell BK257.out 1).trans rfl, (blk_cell BK257.out 2).trans rfl, (blk_cell BK257.out 3).trans rfl, (blk_cell BK262.out 0).trans rfl, (blk_cell BK262.out 1).trans rfl, (blk_cell BK262.out 2).trans rfl, (blk_cell BK262.out 3).trans rfl, (blk_cell BK250.out 0).trans rfl, (blk_cell BK250.out 1).trans rfl, (blk_cell BK250.out 2).trans rfl, (blk_cell BK250.out 3).trans rfl⟩ (fun hHeld => ?_)
          clear hK K
          refine norm_ (a' := ?_) ?_ ?_
          rotate_left
          · show Act.put _ (some 35) _ = _
            simp only [Act.put, List.setIfInBounds_toArray, List.set_cons_zero, List.set_cons_succ, i64_w, i32_w]
            rfl
          refine pure_ (i := 23) (N := some 36) (v := ?_) (a' := ?_) #[true, true, true, true, true, true, true, true, true, true, true, true, true, true, true, true, true, true, true, true, true, true, true, true, false, false, false, false, false, false, false, false, false, false, false] rfl rfl (any_of HT_.out (by kernel_rfl)) (fun _ _ _ h => h) (Or.inl ⟨by rfl, ?_⟩) ?_ ?_
          rotate_left
          · intro w'
            go_simp
            with_reducible rfl
          rotate_left
          · simp only [Act.put, List.setIfInBounds_toArray, List.set_cons_zero, List.set_cons_succ, i64_w, i32_w]
            rfl
          refine pure_ (i := 24) (N := some 37) (v := ?_) (a' := ?_) #[true, true, true, true, true, true, true, true, true, true, true, true, true, true, true, true, true, true, true, true, true, true, true, true, true, false, false, false, false, false, false, false, false, false, false] rfl rfl (any_of HT_.out (by kernel_rfl)) (fun _ _ _ h => h) (Or.inl ⟨by rfl, ?_⟩) ?_ ?_
          rotate_left
          · intro w'
            go_simp
            with_reducible rfl
          rotate_left
          · simp only [Act.put, List.setIfInBounds_toArray, List.set_cons_zero, List.set_cons_succ, i64_w, i32_w]
            rfl
          refine pure_ (i := 25) (N := some 38) (v := ?_) (a' := ?_) #[true, true, true, true, true, true, true, true, true, true, true, true, true, true, true, true, true, true, true, true, true, true, true, true, true, true, false, false, false, false, false, false, false, false, false] rfl rfl (any_of HT_.out (by kernel_rfl)) (fun _ _ _ h => h) (Or.inl ⟨by rfl, ?_⟩) ?_ ?_
          rotate_left
          · intro w'
            go_simp
            with_reducible rfl
          rotate_left
          · simp only [Act.put, List.setIfInBounds_toArray, List.set_cons_zero, List.set_cons_succ, i64_w, i32_w]
            rfl
          refine take_ (i := 26) (N := some 39) (v := ?_) (a' := ?_) #[true, true, true, true, true, true, true, true, true, true, true, true, true, true, true, true, true, true, true, true, true, true, true, true, true, true, true, false, false, false, false, false, false, false, false] rfl rfl (take_ofW HT_.out HW_.out (by kernel_rfl)) (fun _ _ _ h => h) (Or.inl ⟨by rfl, ?_⟩) hHeld ?_ ?_
          rotate_left
          · rintro w' ⟨s0, s1, s2, s3, s4, s5, s6, s7, s8, s9, s10, s11⟩
            go_simp
            with_reducible rfl
          rotate_left
          · simp only [Act.put, List.setIfInBounds_toArray, List.set_cons_zero, List.set_cons_succ, i64_w, i32_w]
            rfl
          refine take_ (i := 27) (N := some 40) (v := ?_) (a' := ?_) #[true, true, true, true, true, true, true, true, true, true, true, true, true, true, true, true, true, true, true, true, true, true, true, true, true, true, true, true, false, false, false, false, false, false, false] rfl rfl (take_ofW HT_.out HW_.out (by kernel_rfl)) (fun _ _ _ h => h) (Or.inl ⟨by rfl, ?_⟩) hHeld ?_ ?_
          rotate_left
          · rintro w' ⟨s0, s1, s2, s3, s4, s5, s6, s7, s8, s9, s10, s11⟩
            go_simp
            with_reducible rfl
          rotate_left
          · simp only [Act.put, List.setIfInBounds_toArray, List.set_cons_zero, List.set_cons_succ, i64_w, i32_w]
            rfl
          refine take_ (i := 29) (N := some 42) (v := ?_) (a' := ?_) #[true, true, true, true, true, true, true, true, true, true, true, true, true, true, true, true, true, true, true, true, true, true, true, true, true, true, true, true, false, true, false, false, false, false, false] rfl rfl (take_ofW HT_.out HW_.out (by kernel_rfl)) (fun _ _ _ h => h) (Or.inl ⟨by rfl, ?_⟩) hHeld ?_ ?_
          rotate_left
          · rintro w' ⟨s0, s1, s2, s3, s4, s5, s6, s7, s8, s9, s10, s11⟩
            go_simp
            with_reducible rfl
          rotate_left
          · simp only [Act.put, List.setIfInBounds_toArray, List.set_cons_zero, List.set_cons_succ, i64_w, i32_w]
            rfl
          refine one_ (i := 28) (N := some 41) #[true, true, true, true, true, true, true, true, true, true, true, true, true, true, true, true, true, true, true, true, true, true, true, true, true, true, true, true, true, true, false, false, false, false, false] rfl rfl (one_of HT_.out (by kernel_rfl)) (by decide) (fun K hK => ?_)
          refine goes_ Tryd.func14 (by kernel_rfl) rfl #[.agg #[.int .i32 t253, .int .i32 t254, .int .i32 t255, .int .i32 t256], .agg #[.int .i32 t253, .int .i32 t254, .int .i32 t255, .int .i32 t256]] (by rfl) rfl rfl (by (try simp only [List.map_toArray, List.map_cons, List.map_nil]); first | done | rfl | (simp only [List.length_drop, List.length_take]; rfl)) ?_
          with_reducible refine (box_Overlap.calls t253 t254 t255 t256 t253 t254 t255 t256 t281 _ A16.out (HGN.out.below (by repeat (first | (with_reducible first | exact HB.out | apply below_alloc | apply pw_below_drewN | apply below_drew1 | refine below_set ?_ GE250.out | refine below_set ?_ GE251.out | refine below_set ?_ GE257.out | refine below_set ?_ GE262.out) | exact HB.out)))).mono ?_
          rintro e w43 ⟨rfl, hb⟩
          refine ⟨_, rfl, ?_⟩
          have n0_ := Aside0.mk (blk_below (g := gb250) (o := .cells #[.int .i32 a0_0, .int .i32 a0_1, .int .i32 a0_2, .int .i32 a0_3] 28 (0, 0)) (by (with_reducible repeat (first | refine blk_drewN ?_ _ | refine blk_drew ?_ | refine blk_alloc ?_ _)); exact BK250.out) hb)
          have n1_ := Aside0.mk (blk_below (g := gb251) (o := .cells #[.int .i32 a1_0, .int .i32 a1_1, .int .i32 a1_2, .int .i32 a1_3] 28 (0, 0)) (by (with_reducible repeat (first | refine blk_drewN ?_ _ | refine blk_drew ?_ | refine blk_alloc ?_ _)); exact BK251.out) hb)
          have n2_ := Aside0.mk (blk_below (g := gb257) (o := .cells #[.int .i32 t253, .int .i32 t254, .int .i32 t255, .int .i32 t256] 31 (0, 0)) (by (with_reducible repeat (first | refine blk_drewN ?_ _ | refine blk_drew ?_ | refine blk_alloc ?_ _)); exact BK257.out) hb)
          have n3_ := Aside0.mk (blk_below (g := gb262) (o := .cells #[.int .i32 t258, .int .i32 t259, .int .i32 t260, .int .i32 t261] 31 (0, 0)) (by (with_reducible repeat (first | refine blk_drewN ?_ _ | refine blk_drew ?_ | refine blk_alloc ?_ _)); exact BK262.out) hb)
          have n4_ := Aside0.mk (below_step (by repeat (first | (with_reducible first | exact HB.out | apply below_alloc | apply pw_below_drewN | apply below_drew1 | refine below_set ?_ GE250.out | refine below_set ?_ GE251.out | refine below_set ?_ GE257.out | refine below_set ?_ GE262.out) | exact HB.out)) hb)
          clear BK250
          clear BK251
          clear BK257
          clear BK262
          clear HB
          have BK250 := n0_
          have BK251 := n1_
          have BK257 := n2_
          have BK262 := n3_
          have HB := n4_
          clear n0_ n1_ n2_ n3_ n4_
          (try clear hb)
          (try clear hb2)
          (try clear hk)
          (try clear hi)
          refine hK.out _ _ ⟨(blk_cell BK257.out 0).trans rfl, (blk_cell BK257.out 1).trans rfl, (blk_cell BK257.out 2).trans rfl, (blk_cell BK257.out 3).trans rfl, (blk_cell BK262.out 0).trans rfl, (blk_cell BK262.out 1).trans rfl, (blk_cell BK262.out 2).trans rfl, (blk_cell BK262.out 3).trans rfl, (blk_cell BK250.out 0).trans rfl, (blk_cell BK250.out 1).trans rfl, (blk_cell BK250.out 2).trans rfl, (blk_cell BK250.out 3).trans rfl⟩ (fun hHeld => ?_)
          clear hK K
          refine norm_ (a' := ?_) ?_ ?_
          rotate_left
          · show Act.put _ (some 41) _ = _
            simp only [Act.put, List.setIfInBounds_toArray, List.set_cons_zero, List.set_cons_succ, i64_w, i32_w]
            rfl
          refine one_ (i := 30) (N := some 43) #[true, true, true, true, true, true, true, true, true, true, true, true, true, true, true, true, true, true, true, true, true, true, true, true, true, true, true, true, true, true, true, false, false, false, false] rfl rfl (one_of HT_.out (by kernel_rfl)) (by decide) (fun K hK => ?_)
          refine goes_ Tryd.func13 (by kernel_rfl) rfl #[.agg #[.int .i32 a0_0, .int .i32 a0_1, .int .i32 a0_2, .int .i32 a0_3]] (by rfl) rfl rfl (by (try simp only [List.map_toArray, List.map_cons, List.map_nil]); first | done | rfl | (simp only [List.length_drop, List.length_take]; rfl)) ?_
          with_reducible refine (billiardref08_Empty.calls a0_0 a0_1 a0_2 a0_3 t282 _ A17.out).mono ?_
          rintro e w44 ⟨rfl, hb⟩
          refine ⟨_, rfl, ?_⟩
          have n0_ := Aside0.mk (blk_below (g := gb250) (o := .cells #[.int .i32 a0_0, .int .i32 a0_1, .int .i32 a0_2, .int .i32 a0_3] 28 (0, 0)) (by (with_reducible repeat (first | refine blk_drewN ?_ _ | refine blk_drew ?_ | refine blk_alloc ?_ _)); exact BK250.out) hb)
          have n1_ := Aside0.mk (blk_below (g := gb251) (o := .cells #[.int .i32 a1_0, .int .i32 a1_1, .int .i32 a1_2, .int .i32 a1_3] 28 (0, 0)) (by (with_reducible repeat (first | refine blk_drewN ?_ _ | refine blk_drew ?_ | refine blk_alloc ?_ _)); exact BK251.out) hb)
          have n2_ := Aside0.mk (blk_below (g := gb257) (o := .cells #[.int .i32 t253, .int .i32 t254, .int .i32 t255, .int .i32 t256] 31 (0, 0)) (by (with_reducible repeat (first | refine blk_drewN ?_ _ | refine blk_drew ?_ | refine blk_alloc ?_ _)); exact BK257.out) hb)
          have n3_ := Aside0.mk (blk_below (g := gb262) (o := .cells #[.int .i32 t258, .int .i32 t259, .int .i32 t260, .int .i32 t261] 31 (0, 0)) (by (with_reducible repeat (first | refine blk_drewN ?_ _ | refine blk_drew ?_ | refine blk_alloc ?_ _)); exact BK262.out) hb)
          have n4_ := Aside0.mk (below_step (by repeat (first | (with_reducible first | exact HB.out | apply below_alloc | apply pw_below_drewN | apply below_drew1 | refine below_set ?_ GE250.out | refine below_set ?_ GE251.out | refine below_set ?_ GE257.out | refine below_set ?_ GE262.out) | exact HB.out)) hb)
          clear BK250
          clear BK251
          clear BK257
          clear BK262
          clear HB
          have BK250 := n0_
          have BK251 := n1_
          have BK257 := n2_
          have BK262 := n3_
          have HB := n4_
          clear n0_ n1_ n2_ n3_ n4_
          (try clear hb)
          (try clear hb2)
          (try clear hk)
          (try clear hi)
          refine hK.out _ _ ⟨(blk_cell BK257.out 0).trans rfl, (blk_cell BK257.out 1).trans rfl, (blk_cell BK257.out 2).trans rfl, (blk_cell BK257.out 3).trans rfl, (blk_cell BK262.out 0).trans rfl, (blk_cell BK262.out 1).trans rfl, (blk_cell BK262.out 2).trans rfl, (blk_cell BK262.out 3).trans rfl, (blk_cell BK250.out 0).trans rfl, (blk_cell BK250.out 1).trans rfl, (blk_cell BK250.out 2).trans rfl, (blk_cell BK250.out 3).trans rfl⟩ (fun hHeld => ?_)
          clear hK K
          refine norm_ (a' := ?_) ?_ ?_
          rotate_left
          · show Act.put _ (some 43) _ = _
            simp only [Act.put, List.setIfInBounds_toArray, List.set_cons_zero, List.set_cons_succ, i64_w, i32_w]
            rfl
          refine pure_ (i := 31) (N := some 44) (v := ?_) (a' := ?_) #[true, true, true, true, true, true, true, true, true, true, true, true, true, true, true, true, true, true, true, true, true, true, true, true, true, true, true, true, true, true, true, true, false, false, false] rfl rfl (any_of HT_.out (by kernel_rfl)) (fun _ _ _ h => h) (Or.inl ⟨by rfl, ?_⟩) ?_ ?_
          rotate_left
          · intro w'
            go_simp
            with_reducible rfl
          rotate_left
          · simp only [Act.put, List.setIfInBounds_toArray, List.set_cons_zero, List.set_cons_succ, i64_w, i32_w]
            rfl
          refine pure_ (i := 32) (N := some 45) (v := ?_) (a' := ?_) #[true, true, true, true, true, true, true, true, true, true, true, true, true, true, true, true, true, true, true, true, true, true, true, true, true, true, true, true, true, true, true, true, true, false, false] rfl rfl (any_of HT_.out (by kernel_rfl)) (fun _ _ _ h => h) (Or.inl ⟨by rfl, ?_⟩) ?_ ?_
          rotate_left
          · intro w'
            go_simp
            with_reducible rfl
          rotate_left
          · simp only [Act.put, List.setIfInBounds_toArray, List.set_cons_zero, List.set_cons_succ, i64_w, i32_w]
            rfl
          refine pure_ (i := 33) (N := some 46) (v := ?_) (a' := ?_) #[true, true, true, true, true, true, true, true, true, true, true, true, true, true, true, true, true, true, true, true, true, true, true, true, true, true, true, true, true, true, true, true, true, true, false] rfl rfl (any_of HT_.out (by kernel_rfl)) (fun _ _ _ h => h) (Or.inl ⟨by rfl, ?_⟩) ?_ ?_
          rotate_left
          · intro w'
            go_simp
            with_reducible rfl
          rotate_left
          · simp only [Act.put, List.setIfInBounds_toArray, List.set_cons_zero, List.set_cons_succ, i64_w, i32_w]
            rfl
          refine pure_ (i := 34) (N := some 4) (v := ?_) (a' := ?_) #[true, true, true, true, true, true, true, true, true, true, true, true, true, true, true, true, true, true, true, true, true, true, true, true, true, true, true, true, true, true, true, true, true, true, true] rfl rfl (any_of HT_.out (by kernel_rfl)) (fun _ _ _ h => h) (Or.inl ⟨by rfl, ?_⟩) ?_ ?_
          rotate_left
          · intro w'
            go_simp
            with_reducible rfl
          rotate_left
          · simp only [Act.put, List.setIfInBounds_toArray, List.set_cons_zero, List.set_cons_succ, i64_w, i32_w]
            rfl
          refine done_ (done_of HT_.out (by kernel_rfl)) ?_
          try go_wp2
          go_ret
          exact ⟨by first | rfl | (simp [errW_none, errW_some] <;> rfl) | (simp [*, errW_none, errW_some] <;> rfl), by repeat (first | (with_reducible first | exact HB.out | apply below_alloc | apply pw_below_drewN | apply below_drew1 | refine below_set ?_ GE250.out | refine below_set ?_ GE251.out | refine below_set ?_ GE257.out | refine below_set ?_ GE262.out) | exact HB.out)⟩
        · rw [if_neg c15] at H
          have c15b0 : (t273 == t277 && (t274 == t278 && (t275 == t279 && (t276 == t280)))) = false := by simpa using c15
          (try (have c15b1 : decide (t273 = t277 && (t274 == t278 && (t275 == t279 && (t276 == t280)))) = false := by simpa using c15))
          (try (have c15b2 : (t273 == t277 && (t274 == t278 && (t275 == t279 && (t276 == t280)))) = false := by simpa using c15))
          (try (have c15b3 : ¬ (t273 = t277 && (t274 == t278 && (t275 == t279 && (t276 == t280)))) := by simpa using c15))
          clear c15
          exact absurd ((Option.some.inj H).trans HR.out) (by decide)
      · rw [if_neg c12] at H
        have c12b0 : (t265 == t269 && (t266 == t270 && (t267 == t271 && (t268 == t272)))) = false := by simpa using c12
        (try (have c12b1 : decide (t265 = t269 && (t266 == t270 && (t267 == t271 && (t268 == t272)))) = false := by simpa using c12))
        (try (have c12b2 : (t265 == t269 && (t266 == t270 && (t267 == t271 && (t268 == t272)))) = false := by simpa using c12))
        (try (have c12b3 : ¬ (t265 = t269 && (t266 == t270 && (t267 == t271 && (t268 == t272)))) := by simpa using c12))
        clear c12
        exact absurd ((Option.some.inj H).trans HR.out) (by decide)
    · rw [if_neg c9] at H
      have c9b0 : (t263 == t264) = false := by simpa using c9
      (try (have c9b1 : decide (t263 = t264) = false := by simpa using c9))
      (try (have c9b2 : (t263 == t264) = false := by simpa using c9))
      (try (have c9b3 : ¬ (t263 = t264) := by simpa using c9))
      clear c9
      exact absurd ((Option.some.inj H).trans HR.out) (by decide)
  · replace c4 := Bool.eq_false_iff.mpr c4
    subst c4
    exact absurd (billiardlaw08_awake.only A3.out) (by decide)

/-- THE ONE PURE STATEMENT of billiardlaw08_BoxSymmetric: yours. -/
def billiardlaw08_BoxSymmetric.Pure : Prop := ∀ (a0_0 : Int) (a0_1 : Int) (a0_2 : Int) (a0_3 : Int) (a1_0 : Int) (a1_1 : Int) (a1_2 : Int) (a1_3 : Int), (Lit.int .i32 a0_0).wf = true → (Lit.int .i32 a0_1).wf = true → (Lit.int .i32 a0_2).wf = true → (Lit.int .i32 a0_3).wf = true → (Lit.int .i32 a1_0).wf = true → (Lit.int .i32 a1_1).wf = true → (Lit.int .i32 a1_2).wf = true → (Lit.int .i32 a1_3).wf = true → billiardlaw08_BoxSymmetric.f a0_0 a0_1 a0_2 a0_3 a1_0 a1_1 a1_2 a1_3 = some true
theorem billiardlaw08_BoxSymmetric.walk (P : billiardlaw08_BoxSymmetric.Pure) (a0_0 : Int) (a0_1 : Int) (a0_2 : Int) (a0_3 : Int) (a1_0 : Int) (a1_1 : Int) (a1_2 : Int) (a1_3 : Int) (w : World) (w0_0 : (Lit.int .i32 a0_0).wf = true) (w0_1 : (Lit.int .i32 a0_1).wf = true) (w0_2 : (Lit.int .i32 a0_2).wf = true) (w0_3 : (Lit.int .i32 a0_3).wf = true) (w1_0 : (Lit.int .i32 a1_0).wf = true) (w1_1 : (Lit.int .i32 a1_1).wf = true) (w1_2 : (Lit.int .i32 a1_2).wf = true) (w1_3 : (Lit.int .i32 a1_3).wf = true) (HGN0 : GlobN w) :
    Calls Tryd.prog 5 #[.agg #[.int .i32 a0_0, .int .i32 a0_1, .int .i32 a0_2, .int .i32 a0_3], .agg #[.int .i32 a1_0, .int .i32 a1_1, .int .i32 a1_2, .int .i32 a1_3]] w fun e w' => e = .returned (.bool true) ∧ Below w.heap.size w w' := by
  have h := P a0_0 a0_1 a0_2 a0_3 a1_0 a1_1 a1_2 a1_3 w0_0 w0_1 w0_2 w0_3 w1_0 w1_1 w1_2 w1_3
  refine (billiardlaw08_BoxSymmetric.calls a0_0 a0_1 a0_2 a0_3 a1_0 a1_1 a1_2 a1_3 true w h rfl HGN0).mono ?_
  rintro e w' ⟨rfl, hd⟩
  exact ⟨rfl, hd⟩

end Go.Proofs.YtniiffbcdjoelaaDoor.Q
