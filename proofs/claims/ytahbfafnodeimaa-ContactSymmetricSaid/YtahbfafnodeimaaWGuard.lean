/- Words of the print that this claim's texts use, taken out of them by a program. -/
import Derived.Test.YtahbfafnodeimaaWWords
/-! ### 58. A guarded operation whose guard is known to want it: the same goal without the guard -/
namespace Go.Proofs.YtahbfafnodeimaaW.PrintWords
open Go.RowKit
section
variable {P : Program} {ops : Array Oper} {rest : List Oper} {o : Oper} {a : Act} {Q : Exit → Act → World → Prop} {W : World}
end
end Go.Proofs.YtahbfafnodeimaaW.PrintWords
