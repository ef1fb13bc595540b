/- Out of a text that print.sh printed: a program of this session has taken out what this claim does not name. -/
import Derived.Test.YtmoecidfmgeafaaDoorWWords
/-! ### 58. A guarded operation whose guard is known to want it: the same goal without the guard -/
namespace Go.Proofs.YtmoecidfmgeafaaDoorW.PrintWords
open Go.RowKit
section
variable {P : Program} {ops : Array Oper} {rest : List Oper} {o : Oper} {a : Act} {Q : Exit → Act → World → Prop} {W : World}
end
end Go.Proofs.YtmoecidfmgeafaaDoorW.PrintWords
