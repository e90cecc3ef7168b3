-- PRINTED by print.py (a twelfth state) out of the translation. Not trusted: Lean checks it.
import Derived.Test.YtniiffbcdjoelaaDoorProg
import Derived.Below
import Derived.Deep.Draws
import Derived.Deep.AppendLies
import Derived.Maps.AppendAt
import Derived.OwnWalk
import Derived.Laws.BytesArg
import Derived.Laws.MakeOwn
import Derived.Laws.OwnMore
import Derived.Deep.OwnRows
import Derived.Tactics
import Derived.Lib.ConvBytes
import Derived.Laws.Slices
import Derived.WalkKit
import Derived.KernelRfl
import Derived.RowKit3
import Derived.Deep.LoopGhost
import Derived.Deep.QuietTactic
import Derived.BigQuiet
import Derived.WideLaws
import Derived.Deep.DeepCutAuto
import Derived.Deep.CutBlock
import Derived.Deep.RegionHeld3
import Derived.Laws.Rows
import Derived.Lib.AppendStr
import Derived.ArgAppend
import Derived.Laws.IdiomCopy
import Derived.OrdersHeld
import Derived.Laws.BitsLemmas
import Derived.RowKit
import Derived.Test.YtniiffbcdjoelaaDoorWWords
import Derived.Test.YtniiffbcdjoelaaDoorWLast
import Derived.Test.YtniiffbcdjoelaaDoorWTab
import Derived.Test.YtniiffbcdjoelaaDoorWFour
import Derived.Test.YtniiffbcdjoelaaDoorWQPut
import Derived.Test.YtniiffbcdjoelaaDoorWApart
import Derived.Test.YtniiffbcdjoelaaDoorWArr
import Derived.Test.YtniiffbcdjoelaaDoorWZeros
import Derived.Test.YtniiffbcdjoelaaDoorWFoot
import Derived.Test.YtniiffbcdjoelaaDoorWKept
import Derived.Test.YtniiffbcdjoelaaDoorWShare
import Derived.Test.YtniiffbcdjoelaaDoorWN
import Derived.Test.YtniiffbcdjoelaaDoorWFootNe
import Derived.Test.YtniiffbcdjoelaaDoorWAt
import Derived.Test.YtniiffbcdjoelaaDoorWEqStruct
import Derived.Test.YtniiffbcdjoelaaDoorWRepsOne
import Derived.Test.YtniiffbcdjoelaaDoorWInv
import Derived.Test.YtniiffbcdjoelaaDoorWInvWords
import Derived.Test.YtniiffbcdjoelaaDoorWGuard
import Derived.Test.YtniiffbcdjoelaaDoorWNEv
import Derived.Test.YtniiffbcdjoelaaDoorWMore
namespace Go.Proofs.YtniiffbcdjoelaaDoor.Q
open Go.RowKit Go.Proofs.YtniiffbcdjoelaaDoorW.PrintWords Go.Proofs.YtniiffbcdjoelaaDoorW.PrintLast Go.Proofs.YtniiffbcdjoelaaDoorW.PrintMore
attribute [local go_sem] max2_int min2_int max_two min_two max_three min_three max_four min_four   -- for this text's walks alone
set_option linter.unusedVariables false
set_option linter.unusedSimpArgs false



def errW : Option Int → Value
  | none => .nilIface
  | some c => .iface 0 (.int .i64 c)
theorem errW_none : errW none = .nilIface := rfl
theorem errW_some (c : Int) : errW (some c) = .iface 0 (.int .i64 c) := rfl

-- the values' own types

end Go.Proofs.YtniiffbcdjoelaaDoor.Q
