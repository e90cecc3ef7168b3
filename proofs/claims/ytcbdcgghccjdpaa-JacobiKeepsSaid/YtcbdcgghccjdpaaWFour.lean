/- Words of the print that this claim's texts use, taken out of them by a program. -/
import Derived.Test.YtcbdcgghccjdpaaWTab
/-! ### 56. Four, five, six operations that may come up next, in any order -/
namespace Go.Proofs.YtcbdcgghccjdpaaW.PrintLast
section
variable {P : Program} {ops : Array Oper} {Q : Exit → Act → World → Prop} {md : Region.Mode} {S : World → Prop} {ds : List Nat} {T : Bool × List (List Nat × List Nat)}
end
end Go.Proofs.YtcbdcgghccjdpaaW.PrintLast
