-- PRINTED by print.py (a twelfth state) out of the translation. Not trusted: Lean checks it.
import Derived.Test.YtpklgbkehkbopaaProg
import Derived.Below
import Derived.Deep.Draws
import Derived.Deep.AppendLies
import Derived.Maps.AppendAt
import Derived.OwnWalk
import Derived.Laws.BytesArg
import Derived.Laws.MakeOwn
import Derived.Laws.OwnMore
import Derived.Deep.OwnRows
import Derived.Tactics
import Derived.Lib.ConvBytes
import Derived.Laws.Slices
import Derived.WalkKit
import Derived.KernelRfl
import Derived.RowKit3
import Derived.Deep.LoopGhost
import Derived.Deep.QuietTactic
import Derived.BigQuiet
import Derived.WideLaws
import Derived.Deep.DeepCutAuto
import Derived.Deep.CutBlock
import Derived.Deep.RegionHeld3
import Derived.Laws.Rows
import Derived.Lib.AppendStr
import Derived.ArgAppend
import Derived.Laws.IdiomCopy
import Derived.OrdersHeld
import Derived.Laws.BitsLemmas
import Derived.RowKit
import Derived.Test.YtpklgbkehkbopaaWWords
import Derived.Test.YtpklgbkehkbopaaWLast
import Derived.Test.YtpklgbkehkbopaaWTab
import Derived.Test.YtpklgbkehkbopaaWFour
import Derived.Test.YtpklgbkehkbopaaWQPut
import Derived.Test.YtpklgbkehkbopaaWApart
import Derived.Test.YtpklgbkehkbopaaWArr
import Derived.Test.YtpklgbkehkbopaaWZeros
import Derived.Test.YtpklgbkehkbopaaWFoot
import Derived.Test.YtpklgbkehkbopaaWKept
import Derived.Test.YtpklgbkehkbopaaWShare
import Derived.Test.YtpklgbkehkbopaaWN
import Derived.Test.YtpklgbkehkbopaaWFootNe
import Derived.Test.YtpklgbkehkbopaaWAt
import Derived.Test.YtpklgbkehkbopaaWEqStruct
import Derived.Test.YtpklgbkehkbopaaWRepsOne
import Derived.Test.YtpklgbkehkbopaaWInv
import Derived.Test.YtpklgbkehkbopaaWInvWords
import Derived.Test.YtpklgbkehkbopaaWGuard
import Derived.Test.YtpklgbkehkbopaaWNEv
import Derived.Test.YtpklgbkehkbopaaWMore
namespace Go.Proofs.Ytpklgbkehkbopaa.Q
open Go.RowKit Go.Proofs.YtpklgbkehkbopaaW.PrintWords Go.Proofs.YtpklgbkehkbopaaW.PrintLast Go.Proofs.YtpklgbkehkbopaaW.PrintMore
attribute [local go_sem] max2_int min2_int max_two min_two max_three min_three max_four min_four   -- for this text's walks alone
set_option linter.unusedVariables false
set_option linter.unusedSimpArgs false



def errW : Option Int → Value
  | none => .nilIface
  | some c => .iface 0 (.int .i64 c)
theorem errW_none : errW none = .nilIface := rfl
theorem errW_some (c : Int) : errW (some c) = .iface 0 (.int .i64 c) := rfl

-- the values' own types

end Go.Proofs.Ytpklgbkehkbopaa.Q
