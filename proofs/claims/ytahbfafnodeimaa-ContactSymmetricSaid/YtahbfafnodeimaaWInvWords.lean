/- Words of the print that this claim's texts use, taken out of them by a program. -/
import Derived.Test.YtahbfafnodeimaaWInv
import Derived.Test.YtahbfafnodeimaaWFootNe
namespace Go.Proofs.YtahbfafnodeimaaW.PrintWords
open Go.RowKit
end Go.Proofs.YtahbfafnodeimaaW.PrintWords
namespace Go.Proofs.YtahbfafnodeimaaW.PrintLast
section
variable {ops : Array Oper} {a : Act} {o og : Oper} {g : Nat} {t : Tmp} {u : Bool}
end
end Go.Proofs.YtahbfafnodeimaaW.PrintLast
