/- Out of a text that print.sh printed: a program of this session has taken out what this claim does not name. -/
import Derived.Test.YtmoecidfmgeafaaDoorWTab
/-! ### 57. A region of open order by ONE relation over what is listed so far: each operation is shown once, whatever came up before it -/
namespace Go.Proofs.YtmoecidfmgeafaaDoorW.PrintLast
section
variable {P : Program} {ops : Array Oper} {Q : Exit → Act → World → Prop} {md : Region.Mode} {T : Bool × List (List Nat × List Nat)} {B : List Nat} {O : List Nat} {b : Nat → Bool} {i j n : Nat}
end
end Go.Proofs.YtmoecidfmgeafaaDoorW.PrintLast
