/- Out of a text that print.sh printed: a program of this session has taken out what this claim does not name. -/
import Derived.Test.YtmoecidfmgeafaaDoorWTab
/-! ### 56. Four, five, six operations that may come up next, in any order -/
namespace Go.Proofs.YtmoecidfmgeafaaDoorW.PrintLast
section
variable {P : Program} {ops : Array Oper} {Q : Exit → Act → World → Prop} {md : Region.Mode} {S : World → Prop} {ds : List Nat} {T : Bool × List (List Nat × List Nat)}
end
end Go.Proofs.YtmoecidfmgeafaaDoorW.PrintLast
