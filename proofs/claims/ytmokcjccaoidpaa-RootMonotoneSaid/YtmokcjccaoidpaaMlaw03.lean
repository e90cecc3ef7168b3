/- The examples of the document's chapter 3 hold. -/
import Derived.Test.YtmokcjccaoidpaaQbilliardlaw03
import Derived.Test.YtmokcjccaoidpaaMroot
import Derived.Test.YtmokcjccaoidpaaMbase
namespace Go.Proofs.Ytmokcjccaoidpaa.Q
open Go.RowKit Go.Proofs.YtmokcjccaoidpaaW.PrintWords Go.Proofs.YtmokcjccaoidpaaW.PrintLast Go.Proofs.YtmokcjccaoidpaaW.PrintMore
set_option linter.unusedVariables false

theorem rt_8 : IsRt 8 2 := by unfold IsRt; decide
theorem rt_max : IsRt 18446744073709551615 4294967295 := by unfold IsRt; decide
theorem rt_2 : IsRt (131072 * 65536) 92681 := by unfold IsRt; decide

theorem billiardlaw03_awake.yes (k : Nat) (hk : 33 ≤ k) : billiardlaw03_awake.f k = some true := by
  unfold billiardlaw03_awake.f
  rw [root_Sqrt.is (by decide) (by decide) rt_2 k hk, root_Sqrt.neg (by decide) k, root_Isqrt.is rt_8 (by decide) (by decide) k hk, root_Ceil.is rt_8 (by decide) (by decide) k hk,
    root_Isqrt.is rt_max (by decide) (by decide) k hk, root_Ceil.is rt_max (by decide) (by decide) k hk]
  simp only [Option.bind_some]
  decide
end Go.Proofs.Ytmokcjccaoidpaa.Q
