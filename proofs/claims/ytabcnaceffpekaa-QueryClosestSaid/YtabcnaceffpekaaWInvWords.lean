/- Words of the print that this claim's texts use, taken out of them by a program. -/
import Derived.Test.YtabcnaceffpekaaWInv
import Derived.Test.YtabcnaceffpekaaWFootNe
namespace Go.Proofs.YtabcnaceffpekaaW.PrintWords
open Go.RowKit
end Go.Proofs.YtabcnaceffpekaaW.PrintWords
namespace Go.Proofs.YtabcnaceffpekaaW.PrintLast
section
variable {ops : Array Oper} {a : Act} {o og : Oper} {g : Nat} {t : Tmp} {u : Bool}
end
end Go.Proofs.YtabcnaceffpekaaW.PrintLast
