-- PRINTED by print.py (a twelfth state) out of the translation. Not trusted: Lean checks it.
import Derived.Test.YtmokcjccaoidpaaProg
import Derived.Below
import Derived.Deep.Draws
import Derived.Deep.AppendLies
import Derived.Maps.AppendAt
import Derived.OwnWalk
import Derived.Laws.BytesArg
import Derived.Laws.MakeOwn
import Derived.Laws.OwnMore
import Derived.Deep.OwnRows
import Derived.Tactics
import Derived.Lib.ConvBytes
import Derived.Laws.Slices
import Derived.WalkKit
import Derived.KernelRfl
import Derived.RowKit3
import Derived.Deep.LoopGhost
import Derived.Deep.QuietTactic
import Derived.BigQuiet
import Derived.WideLaws
import Derived.Deep.DeepCutAuto
import Derived.Deep.CutBlock
import Derived.Deep.RegionHeld3
import Derived.Laws.Rows
import Derived.Lib.AppendStr
import Derived.ArgAppend
import Derived.Laws.IdiomCopy
import Derived.OrdersHeld
import Derived.Laws.BitsLemmas
import Derived.RowKit
import Derived.Test.YtmokcjccaoidpaaWWords
import Derived.Test.YtmokcjccaoidpaaWLast
import Derived.Test.YtmokcjccaoidpaaWTab
import Derived.Test.YtmokcjccaoidpaaWFour
import Derived.Test.YtmokcjccaoidpaaWQPut
import Derived.Test.YtmokcjccaoidpaaWApart
import Derived.Test.YtmokcjccaoidpaaWArr
import Derived.Test.YtmokcjccaoidpaaWZeros
import Derived.Test.YtmokcjccaoidpaaWFoot
import Derived.Test.YtmokcjccaoidpaaWKept
import Derived.Test.YtmokcjccaoidpaaWShare
import Derived.Test.YtmokcjccaoidpaaWN
import Derived.Test.YtmokcjccaoidpaaWFootNe
import Derived.Test.YtmokcjccaoidpaaWAt
import Derived.Test.YtmokcjccaoidpaaWEqStruct
import Derived.Test.YtmokcjccaoidpaaWRepsOne
import Derived.Test.YtmokcjccaoidpaaWInv
import Derived.Test.YtmokcjccaoidpaaWInvWords
import Derived.Test.YtmokcjccaoidpaaWGuard
import Derived.Test.YtmokcjccaoidpaaWNEv
import Derived.Test.YtmokcjccaoidpaaWMore
namespace Go.Proofs.Ytmokcjccaoidpaa.Q
open Go.RowKit Go.Proofs.YtmokcjccaoidpaaW.PrintWords Go.Proofs.YtmokcjccaoidpaaW.PrintLast Go.Proofs.YtmokcjccaoidpaaW.PrintMore
attribute [local go_sem] max2_int min2_int max_two min_two max_three min_three max_four min_four   -- for this text's walks alone
set_option linter.unusedVariables false
set_option linter.unusedSimpArgs false



def errW : Option Int → Value
  | none => .nilIface
  | some c => .iface 0 (.int .i64 c)
theorem errW_none : errW none = .nilIface := rfl
theorem errW_some (c : Int) : errW (some c) = .iface 0 (.int .i64 c) := rfl

-- the values' own types

end Go.Proofs.Ytmokcjccaoidpaa.Q
