/- Plain theory: what BatchSound asks of all batches. -/
import Derived.Test.YtiodebjjbgcbhaaPurBatD
import Derived.Test.YtiodebjjbgcbhaaRefR
import Derived.Test.YtiodebjjbgcbhaaOpenI
namespace Go.Proofs.Ytiodebjjbgcbhaa.Snd
open Go Go.RowKit Go.Proofs.Ytiodebjjbgcbhaa.Pure Go.Proofs.Ytiodebjjbgcbhaa.Inp Go.Proofs.Ytiodebjjbgcbhaa.QLef Go.Proofs.Ytiodebjjbgcbhaa.LefL Go.Proofs.Ytiodebjjbgcbhaa.Hand Go.Proofs.Ytiodebjjbgcbhaa.OrdO Go.Proofs.Ytiodebjjbgcbhaa.OrdQ Go.Proofs.YtiodebjjbgcbhaaW.PrintWords Go.Proofs.YtiodebjjbgcbhaaW.PrintLast Go.Proofs.YtiodebjjbgcbhaaW.PrintMore
set_option linter.unusedVariables false
set_option linter.unusedSimpArgs false
end Go.Proofs.Ytiodebjjbgcbhaa.Snd
