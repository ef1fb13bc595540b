/- Out of a text that print.sh printed: a program of this session has taken out what this claim does not name. -/
import Derived.Test.YtiodebjjbgcbhaaWFour
import Derived.Test.YtiodebjjbgcbhaaWAt
namespace Go.Proofs.YtiodebjjbgcbhaaW.PrintWords
open Go.RowKit
end Go.Proofs.YtiodebjjbgcbhaaW.PrintWords
namespace Go.Proofs.YtiodebjjbgcbhaaW.PrintLast
section
variable {ops : Array Oper} {a : Act} {o og : Oper} {g : Nat} {t : Tmp} {u : Bool}
end
end Go.Proofs.YtiodebjjbgcbhaaW.PrintLast
