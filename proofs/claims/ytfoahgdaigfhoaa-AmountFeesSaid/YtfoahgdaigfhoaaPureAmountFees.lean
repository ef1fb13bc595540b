/- AmountFees: what a weight costs, and what a fee pays, is told, or refused: the pure statement, for every input. -/
import Derived.Test.YtfoahgdaigfhoaaAmtL
namespace Go.Proofs.Ytfoahgdaigfhoaa.Pure
open Go.RowKit Go.Proofs.Ytfoahgdaigfhoaa.QAmt Go.Proofs.YtfoahgdaigfhoaaW.PrintWords Go.Proofs.YtfoahgdaigfhoaaW.PrintLast
theorem AmountFees : coraclelaw4_AmountFees.Pure := by
  intro w r f _ _ _
  refine ⟨1, ?_⟩
  unfold coraclelaw4_AmountFees.f
  rw [fee_f, rfee_f, rate_f, rrate_f, awake_f]
  simp
end Go.Proofs.Ytfoahgdaigfhoaa.Pure
