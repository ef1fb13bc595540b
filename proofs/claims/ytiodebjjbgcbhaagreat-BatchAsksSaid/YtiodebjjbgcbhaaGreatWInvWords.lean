import Derived.Test.YtiodebjjbgcbhaaGreatWAt
namespace Go.Proofs.YtiodebjjbgcbhaaGreatW.PrintWords
open Go.RowKit
end Go.Proofs.YtiodebjjbgcbhaaGreatW.PrintWords
namespace Go.Proofs.YtiodebjjbgcbhaaGreatW.PrintLast
section
variable {ops : Array Oper} {a : Act} {o og : Oper} {g : Nat} {t : Tmp} {u : Bool}
end
end Go.Proofs.YtiodebjjbgcbhaaGreatW.PrintLast
