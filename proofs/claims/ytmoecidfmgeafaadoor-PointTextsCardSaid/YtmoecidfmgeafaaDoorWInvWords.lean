/- Out of a text that print.sh printed: a program of this session has taken out what this claim does not name. -/
import Derived.Test.YtmoecidfmgeafaaDoorWInv
import Derived.Test.YtmoecidfmgeafaaDoorWFootNe
namespace Go.Proofs.YtmoecidfmgeafaaDoorW.PrintWords
open Go.RowKit
end Go.Proofs.YtmoecidfmgeafaaDoorW.PrintWords
namespace Go.Proofs.YtmoecidfmgeafaaDoorW.PrintLast
section
variable {ops : Array Oper} {a : Act} {o og : Oper} {g : Nat} {t : Tmp} {u : Bool}
end
end Go.Proofs.YtmoecidfmgeafaaDoorW.PrintLast
