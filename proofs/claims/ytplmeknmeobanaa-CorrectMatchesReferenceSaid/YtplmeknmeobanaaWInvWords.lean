/- Words of the print that this claim's texts use, taken out of them by a program. -/
import Derived.Test.YtplmeknmeobanaaWInv
import Derived.Test.YtplmeknmeobanaaWFootNe
namespace Go.Proofs.YtplmeknmeobanaaW.PrintWords
open Go.RowKit
end Go.Proofs.YtplmeknmeobanaaW.PrintWords
namespace Go.Proofs.YtplmeknmeobanaaW.PrintLast
section
variable {ops : Array Oper} {a : Act} {o og : Oper} {g : Nat} {t : Tmp} {u : Bool}
end
end Go.Proofs.YtplmeknmeobanaaW.PrintLast
