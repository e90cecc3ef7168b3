/- Words of the print that this claim's texts use, taken out of them by a program. -/
import Derived.Test.YtcbdcgghccjdpaaWInv
import Derived.Test.YtcbdcgghccjdpaaWFootNe
namespace Go.Proofs.YtcbdcgghccjdpaaW.PrintWords
open Go.RowKit
end Go.Proofs.YtcbdcgghccjdpaaW.PrintWords
namespace Go.Proofs.YtcbdcgghccjdpaaW.PrintLast
section
variable {ops : Array Oper} {a : Act} {o og : Oper} {g : Nat} {t : Tmp} {u : Bool}
end
end Go.Proofs.YtcbdcgghccjdpaaW.PrintLast
