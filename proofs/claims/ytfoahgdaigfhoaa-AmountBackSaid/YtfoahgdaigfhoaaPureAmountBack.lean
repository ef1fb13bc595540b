/- AmountBack: what a fee's rate costs is at most the fee; one more of rate would cost more: the pure statement, for every input. -/
import Derived.Test.YtfoahgdaigfhoaaAmtL
namespace Go.Proofs.Ytfoahgdaigfhoaa.Pure
open Go.RowKit Go.Proofs.Ytfoahgdaigfhoaa.QAmt Go.Proofs.YtfoahgdaigfhoaaW.PrintWords Go.Proofs.YtfoahgdaigfhoaaW.PrintLast
theorem AmountBack : coraclelaw4_AmountBack.Pure := by
  intro w f _ _
  refine ⟨4, ?_⟩
  have out : coraclelaw4_AmountBack.j0 4 w f true = some true := by
    simp only [coraclelaw4_AmountBack.j0]
    rw [awake_f]; rfl
  unfold coraclelaw4_AmountBack.f
  by_cases h1 : w < 1
  · rw [if_pos h1]; exact out
  · rw [if_neg h1]
    by_cases h2 : w > 4000000
    · rw [if_pos h2]; exact out
    · rw [if_neg h2]
      by_cases h3 : f < 0
      · rw [if_pos h3]; exact out
      · rw [if_neg h3]
        by_cases h4 : f > 1099511627776
        · rw [decide_eq_true h4]; exact out
        · rw [decide_eq_false h4]
          have hr : rateS f w = (min (f * 1000 / w) 1000000000, 0) := by
            unfold rateS
            rw [if_pos ⟨okA_true.2 (by omega), by omega, by omega⟩]
          have hw : 0 < w := by omega
          have q0 : 0 ≤ f * 1000 / w := Int.ediv_nonneg (by omega) (by omega)
          have q1 : w * (f * 1000 / w) ≤ f * 1000 := Int.mul_ediv_self_le (by omega)
          have q2 : f * 1000 < w * (f * 1000 / w + 1) := by
            have := Int.lt_mul_ediv_self_add (x := f * 1000) hw
            rw [Int.mul_add, Int.mul_one]; exact this
          generalize f * 1000 / w = q at *
          simp only [coraclelaw4_AmountBack.j0]
          rw [if_neg (by simp), rate_f, hr]
          simp only [Option.bind_some]
          rw [fee_f]
          simp only [Option.bind_some, if_true]
          have hm : w * min q 1000000000 ≤ f * 1000 := Int.le_trans (Int.mul_le_mul_of_nonneg_left (by omega) (by omega)) q1
          have hm0 : 0 ≤ w * min q 1000000000 := Int.mul_nonneg (by omega) (by omega)
          have hu : up (w * min q 1000000000) ≤ f := by unfold up; omega
          have hfee : feeS w (min q 1000000000) = (up (w * min q 1000000000), 0) := by
            unfold feeS; rw [if_pos (by omega)]
          rw [hfee]
          simp only [if_true]
          rw [decide_eq_false (by omega)]
          simp only [coraclelaw4_AmountBack.j1]
          rw [if_neg (by simp), awake_f]
          by_cases h5 : min q 1000000000 = 1000000000
          · rw [if_pos h5]; rfl
          · rw [if_neg h5, w64 (by omega) (by omega), fee_f]
            have eq : min q 1000000000 = q := by omega
            rw [eq]
            have pb := prod_bound (w := w) (r := q + 1) (by omega) (by omega) (by omega) (by omega)
            have hu2 : f < up (w * (q + 1)) := by unfold up; omega
            have hu3 : up (w * (q + 1)) ≤ 2100000000000000 := by unfold up; omega
            have hfee2 : feeS w (q + 1) = (up (w * (q + 1)), 0) := by
              unfold feeS; rw [if_pos (by omega)]
            simp [hfee2, hu2]
end Go.Proofs.Ytfoahgdaigfhoaa.Pure
