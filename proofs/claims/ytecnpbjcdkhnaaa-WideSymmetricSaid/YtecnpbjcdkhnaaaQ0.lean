-- PRINTED by print.py (a twelfth state) out of the translation. Not trusted: Lean checks it.
import Derived.Test.YtecnpbjcdkhnaaaProg
import Derived.Below
import Derived.Deep.Draws
import Derived.Deep.AppendLies
import Derived.Maps.AppendAt
import Derived.OwnWalk
import Derived.Laws.BytesArg
import Derived.Laws.MakeOwn
import Derived.Laws.OwnMore
import Derived.Deep.OwnRows
import Derived.Tactics
import Derived.Lib.ConvBytes
import Derived.Laws.Slices
import Derived.WalkKit
import Derived.KernelRfl
import Derived.RowKit3
import Derived.Deep.LoopGhost
import Derived.Deep.QuietTactic
import Derived.BigQuiet
import Derived.WideLaws
import Derived.Deep.DeepCutAuto
import Derived.Deep.CutBlock
import Derived.Deep.RegionHeld3
import Derived.Laws.Rows
import Derived.Lib.AppendStr
import Derived.ArgAppend
import Derived.Laws.IdiomCopy
import Derived.OrdersHeld
import Derived.Laws.BitsLemmas
import Derived.RowKit
import Derived.Test.YtecnpbjcdkhnaaaWWords
import Derived.Test.YtecnpbjcdkhnaaaWLast
import Derived.Test.YtecnpbjcdkhnaaaWTab
import Derived.Test.YtecnpbjcdkhnaaaWFour
import Derived.Test.YtecnpbjcdkhnaaaWQPut
import Derived.Test.YtecnpbjcdkhnaaaWApart
import Derived.Test.YtecnpbjcdkhnaaaWArr
import Derived.Test.YtecnpbjcdkhnaaaWZeros
import Derived.Test.YtecnpbjcdkhnaaaWFoot
import Derived.Test.YtecnpbjcdkhnaaaWKept
import Derived.Test.YtecnpbjcdkhnaaaWShare
import Derived.Test.YtecnpbjcdkhnaaaWN
import Derived.Test.YtecnpbjcdkhnaaaWFootNe
import Derived.Test.YtecnpbjcdkhnaaaWAt
import Derived.Test.YtecnpbjcdkhnaaaWEqStruct
import Derived.Test.YtecnpbjcdkhnaaaWRepsOne
import Derived.Test.YtecnpbjcdkhnaaaWInv
import Derived.Test.YtecnpbjcdkhnaaaWInvWords
import Derived.Test.YtecnpbjcdkhnaaaWGuard
import Derived.Test.YtecnpbjcdkhnaaaWNEv
import Derived.Test.YtecnpbjcdkhnaaaWMore
namespace Go.Proofs.Ytecnpbjcdkhnaaa.Q
open Go.RowKit Go.Proofs.YtecnpbjcdkhnaaaW.PrintWords Go.Proofs.YtecnpbjcdkhnaaaW.PrintLast Go.Proofs.YtecnpbjcdkhnaaaW.PrintMore
attribute [local go_sem] max2_int min2_int max_two min_two max_three min_three max_four min_four   -- for this text's walks alone
set_option linter.unusedVariables false
set_option linter.unusedSimpArgs false



def errW : Option Int → Value
  | none => .nilIface
  | some c => .iface 0 (.int .i64 c)
theorem errW_none : errW none = .nilIface := rfl
theorem errW_some (c : Int) : errW (some c) = .iface 0 (.int .i64 c) := rfl

-- the values' own types

end Go.Proofs.Ytecnpbjcdkhnaaa.Q
