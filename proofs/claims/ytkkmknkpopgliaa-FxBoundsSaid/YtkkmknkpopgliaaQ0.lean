-- PRINTED by print.py (a twelfth state) out of the translation. Not trusted: Lean checks it.
import Derived.Test.YtkkmknkpopgliaaProg
import Derived.Below
import Derived.Deep.Draws
import Derived.Deep.AppendLies
import Derived.Maps.AppendAt
import Derived.OwnWalk
import Derived.Laws.BytesArg
import Derived.Laws.MakeOwn
import Derived.Laws.OwnMore
import Derived.Deep.OwnRows
import Derived.Tactics
import Derived.Lib.ConvBytes
import Derived.Laws.Slices
import Derived.WalkKit
import Derived.KernelRfl
import Derived.RowKit3
import Derived.Deep.LoopGhost
import Derived.Deep.QuietTactic
import Derived.BigQuiet
import Derived.WideLaws
import Derived.Deep.DeepCutAuto
import Derived.Deep.CutBlock
import Derived.Deep.RegionHeld3
import Derived.Laws.Rows
import Derived.Lib.AppendStr
import Derived.ArgAppend
import Derived.Laws.IdiomCopy
import Derived.OrdersHeld
import Derived.Laws.BitsLemmas
import Derived.RowKit
import Derived.Test.YtkkmknkpopgliaaWWords
import Derived.Test.YtkkmknkpopgliaaWLast
import Derived.Test.YtkkmknkpopgliaaWTab
import Derived.Test.YtkkmknkpopgliaaWFour
import Derived.Test.YtkkmknkpopgliaaWQPut
import Derived.Test.YtkkmknkpopgliaaWApart
import Derived.Test.YtkkmknkpopgliaaWArr
import Derived.Test.YtkkmknkpopgliaaWZeros
import Derived.Test.YtkkmknkpopgliaaWFoot
import Derived.Test.YtkkmknkpopgliaaWKept
import Derived.Test.YtkkmknkpopgliaaWShare
import Derived.Test.YtkkmknkpopgliaaWN
import Derived.Test.YtkkmknkpopgliaaWFootNe
import Derived.Test.YtkkmknkpopgliaaWAt
import Derived.Test.YtkkmknkpopgliaaWEqStruct
import Derived.Test.YtkkmknkpopgliaaWRepsOne
import Derived.Test.YtkkmknkpopgliaaWInv
import Derived.Test.YtkkmknkpopgliaaWInvWords
import Derived.Test.YtkkmknkpopgliaaWGuard
import Derived.Test.YtkkmknkpopgliaaWNEv
import Derived.Test.YtkkmknkpopgliaaWMore
namespace Go.Proofs.Ytkkmknkpopgliaa.Q
open Go.RowKit Go.Proofs.YtkkmknkpopgliaaW.PrintWords Go.Proofs.YtkkmknkpopgliaaW.PrintLast Go.Proofs.YtkkmknkpopgliaaW.PrintMore
attribute [local go_sem] max2_int min2_int max_two min_two max_three min_three max_four min_four   -- for this text's walks alone
set_option linter.unusedVariables false
set_option linter.unusedSimpArgs false



def errW : Option Int → Value
  | none => .nilIface
  | some c => .iface 0 (.int .i64 c)
theorem errW_none : errW none = .nilIface := rfl
theorem errW_some (c : Int) : errW (some c) = .iface 0 (.int .i64 c) := rfl

-- the values' own types

end Go.Proofs.Ytkkmknkpopgliaa.Q
