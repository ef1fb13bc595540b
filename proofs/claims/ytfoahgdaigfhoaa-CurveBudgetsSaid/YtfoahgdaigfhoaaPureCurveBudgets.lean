/- CurveBudgets: of a budget there is a line that rises to it by the deadline; the fee is never above the budget: the pure statement, for every input. -/
import Derived.Test.YtfoahgdaigfhoaaCurB
namespace Go.Proofs.Ytfoahgdaigfhoaa.Pure
open Go Go.RowKit Go.Proofs.Ytfoahgdaigfhoaa.QCur Go.Proofs.Ytfoahgdaigfhoaa.CurL Go.Proofs.Ytfoahgdaigfhoaa.Flt Go.Proofs.Ytfoahgdaigfhoaa.FltL Go.Proofs.YtfoahgdaigfhoaaW.PrintWords Go.Proofs.YtfoahgdaigfhoaaW.PrintLast Go.Proofs.YtfoahgdaigfhoaaW.PrintMore
theorem budgets_yes (m : Nat) {s d b w : Int} (x : Int) (h : ofB s d b w = true) :
    coraclelaw16_CurveBudgets.j0 (m + 24) s d b w x 0 (min (b * 1000 / w) 1000000000) 0 false (C (2 * s) (2 * 253)) (C (2 * max s d) (2 * min (b * 1000 / w) 1000000000)) = some true := by
  have hb := ofB_true.1 h
  have y := of_line h
  have hl := lineB_true.1 y
  have q1 : w * (b * 1000 / w) ≤ b * 1000 := Int.mul_ediv_self_le (by omega)
  have hm : min (b * 1000 / w) 1000000000 ≤ b * 1000 / w := by omega
  simp only [coraclelaw16_CurveBudgets.j0]
  rw [if_neg (by simp), mx_max, at_f y, rat_f y x (m + 22)]
  simp only [Option.bind_some]
  have hv := atV_bounds y x
  generalize min (b * 1000 / w) 1000000000 = M at *
  generalize b * 1000 / w = Q at *
  have r1 : w * atV s 253 (max s d) M x ≤ b * 1000 := Int.le_trans (Int.mul_le_mul_of_nonneg_left (by omega) (by omega)) q1
  have r0 : 0 ≤ w * atV s 253 (max s d) M x := Int.mul_nonneg (by omega) (by omega)
  have hu : CurL.up (w * atV s 253 (max s d) M x) ≤ b := by unfold CurL.up; omega
  have hfee : feeS w (atV s 253 (max s d) M x) = (CurL.up (w * atV s 253 (max s d) M x), 0) := by
    unfold feeS; rw [if_pos (by omega)]
  rw [fee_f, hfee]
  simp only [Option.bind_some, if_true]
  rw [decide_eq_false (by omega)]
  simp only [coraclelaw16_CurveBudgets.j1]
  rw [if_neg (by simp), at_f y, w64 (n := s - 1) (by omega) (by omega), at_f y, awake_f (m + 1)]
  have v1 : atV s 253 (max s d) M (max s d) = M := by unfold atV; rw [if_neg (by omega), if_pos (Int.le_refl _)]
  have v2 : atV s 253 (max s d) M (s - 1) = 253 := by unfold atV; rw [if_pos (by omega)]
  simp [v1, v2]
theorem CurveBudgets : coraclelaw16_CurveBudgets.Pure := by
  intro s d b w x _ _ _ _ _
  refine ⟨25, ?_⟩
  unfold coraclelaw16_CurveBudgets.f
  rw [of_f, rof_f 24]
  simp only [Option.bind_some]
  cases h : ofB s d b w
  · have e : (ceq (C 0 0).re (C 0 0).im 0 0 && ceq (C 0 0).re (C 0 0).im 0 0) = true := by decide
    simp only [Bool.false_eq_true, if_false, if_true, coraclelaw16_CurveBudgets.j0]
    rw [if_pos (by decide), if_pos e, awake_f 3]; rfl
  · simp only [if_true]
    exact budgets_yes 1 x h
end Go.Proofs.Ytfoahgdaigfhoaa.Pure
