-- PRINTED by print.py (a twelfth state) out of the translation. Not trusted: Lean checks it.
import Derived.Test.YtjgeakahbelgiaaProg
import Derived.Below
import Derived.Deep.Draws
import Derived.Deep.AppendLies
import Derived.Maps.AppendAt
import Derived.OwnWalk
import Derived.Laws.BytesArg
import Derived.Laws.MakeOwn
import Derived.Laws.OwnMore
import Derived.Deep.OwnRows
import Derived.Tactics
import Derived.Lib.ConvBytes
import Derived.Laws.Slices
import Derived.WalkKit
import Derived.KernelRfl
import Derived.RowKit3
import Derived.Deep.LoopGhost
import Derived.Deep.QuietTactic
import Derived.BigQuiet
import Derived.WideLaws
import Derived.Deep.DeepCutAuto
import Derived.Deep.CutBlock
import Derived.Deep.RegionHeld3
import Derived.Laws.Rows
import Derived.Lib.AppendStr
import Derived.ArgAppend
import Derived.Laws.IdiomCopy
import Derived.OrdersHeld
import Derived.Laws.BitsLemmas
import Derived.RowKit
import Derived.Test.YtjgeakahbelgiaaWWords
import Derived.Test.YtjgeakahbelgiaaWLast
import Derived.Test.YtjgeakahbelgiaaWTab
import Derived.Test.YtjgeakahbelgiaaWFour
import Derived.Test.YtjgeakahbelgiaaWQPut
import Derived.Test.YtjgeakahbelgiaaWApart
import Derived.Test.YtjgeakahbelgiaaWArr
import Derived.Test.YtjgeakahbelgiaaWZeros
import Derived.Test.YtjgeakahbelgiaaWFoot
import Derived.Test.YtjgeakahbelgiaaWKept
import Derived.Test.YtjgeakahbelgiaaWShare
import Derived.Test.YtjgeakahbelgiaaWN
import Derived.Test.YtjgeakahbelgiaaWFootNe
import Derived.Test.YtjgeakahbelgiaaWAt
import Derived.Test.YtjgeakahbelgiaaWEqStruct
import Derived.Test.YtjgeakahbelgiaaWRepsOne
import Derived.Test.YtjgeakahbelgiaaWInv
import Derived.Test.YtjgeakahbelgiaaWInvWords
import Derived.Test.YtjgeakahbelgiaaWGuard
import Derived.Test.YtjgeakahbelgiaaWNEv
import Derived.Test.YtjgeakahbelgiaaWMore
namespace Go.Proofs.Ytjgeakahbelgiaa.Q
open Go.RowKit Go.Proofs.YtjgeakahbelgiaaW.PrintWords Go.Proofs.YtjgeakahbelgiaaW.PrintLast Go.Proofs.YtjgeakahbelgiaaW.PrintMore
attribute [local go_sem] max2_int min2_int max_two min_two max_three min_three max_four min_four   -- for this text's walks alone
set_option linter.unusedVariables false
set_option linter.unusedSimpArgs false



def errW : Option Int → Value
  | none => .nilIface
  | some c => .iface 0 (.int .i64 c)
theorem errW_none : errW none = .nilIface := rfl
theorem errW_some (c : Int) : errW (some c) = .iface 0 (.int .i64 c) := rfl

-- the values' own types

end Go.Proofs.Ytjgeakahbelgiaa.Q
