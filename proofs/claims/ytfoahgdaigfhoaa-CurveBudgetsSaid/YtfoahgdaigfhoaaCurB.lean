/- What the fees, and the document's curve, tell: plain laws over the printed functions. -/
import Derived.Test.YtfoahgdaigfhoaaQCurx8
import Derived.Test.YtfoahgdaigfhoaaCurA
namespace Go.Proofs.Ytfoahgdaigfhoaa.CurL
open Go Go.RowKit Go.Proofs.Ytfoahgdaigfhoaa.QCur Go.Proofs.Ytfoahgdaigfhoaa.Hand Go.Proofs.Ytfoahgdaigfhoaa.Flt Go.Proofs.Ytfoahgdaigfhoaa.FltL Go.Proofs.YtfoahgdaigfhoaaW.PrintWords Go.Proofs.YtfoahgdaigfhoaaW.PrintLast Go.Proofs.YtfoahgdaigfhoaaW.PrintMore
set_option linter.unusedSimpArgs false
theorem money_f (a : Int) : coracleref1_Money.f a = some (okA a) := by
  unfold coracleref1_Money.f okA
  by_cases h : a ≥ 0
  · rw [if_pos h]; simp [h]
  · rw [if_neg h]; simp; omega
theorem held_f (a : Int) (b : Bool) : amount_held.f a b = some (if b && okA a then (a, 0) else (0, 11)) := by
  unfold amount_held.f
  rw [valid_f]
  cases b <;> cases okA a <;> simp
/-- Cut up. -/
def up (n : Int) : Int := (n + 999) / 1000
def feeS (w r : Int) : Int × Int := if 0 ≤ w ∧ w ≤ 4000000 ∧ 0 ≤ r ∧ r ≤ 1000000000 ∧ up (w * r) ≤ 2100000000000000 then (up (w * r), 0) else (0, 11)
theorem prod_bound {w r : Int} (h0 : 0 ≤ w) (h1 : w ≤ 4000000) (h2 : 0 ≤ r) (h3 : r ≤ 1000000000) : 0 ≤ w * r ∧ w * r ≤ 4000000000000000 :=
  ⟨Int.mul_nonneg h0 h2, Int.le_trans (Int.mul_le_mul h1 h3 h2 (by omega)) (by decide)⟩
theorem fee_f (w r : Int) : amount_Fee.f w r = some (feeS w r) := by
  unfold amount_Fee.f feeS
  rw [within_f, within_f]
  simp only [Option.bind_some]
  by_cases h1 : 0 ≤ w ∧ w ≤ 4000000
  · rw [if_pos (by simp [h1])]
    by_cases h2 : 0 ≤ r ∧ r ≤ 1000000000
    · rw [if_pos (by simp [h2])]
      have hp := prod_bound h1.1 h1.2 h2.1 h2.2
      rw [w64 (n := w * r) (by omega) (by omega)]
      generalize hg : w * r = p at *
      have e : wrap64 (Int.tdiv (wrap64 (wrap64 (p + 1000) - 1)) 1000) = up p := by
        rw [w64 (n := p + 1000) (by omega) (by omega), w64 (n := p + 1000 - 1) (by omega) (by omega), Int.tdiv_eq_ediv_of_nonneg (by omega)]
        unfold up
        rw [w64 (by omega) (by omega)]; congr 1; omega
      have hu : 0 ≤ up p := by unfold up; omega
      rw [e, held_f]
      by_cases h3 : up p ≤ 2100000000000000
      · simp [okA, hu, h3, h1, h2]
      · simp [okA, h3]
    · rw [if_neg (by simp; omega), if_neg (by omega)]
  · rw [if_neg (by simp; omega), if_neg (by omega)]
theorem rrate_f (f w : Int) : coracleref1_Rate.f f w = some (rateS f w) := by
  unfold coracleref1_Rate.f rateS
  rw [money_f]
  simp only [Option.bind_some]
  by_cases hf : okA f = true
  · rw [if_pos hf]
    by_cases hw : 1 ≤ w ∧ w ≤ 4000000
    · rw [if_neg (by omega), if_neg (by omega), if_neg (by omega), if_pos ⟨hf, hw.1, hw.2⟩, mn_min, rate_val (okA_true.1 hf) hw]
    · rw [if_neg (c := okA f = true ∧ _) (by omega)]
      by_cases h1 : w < 1
      · rw [if_pos h1]
      · rw [if_neg h1, if_pos (by omega)]
  · rw [if_neg hf, if_neg (by simp [hf])]
theorem rof_j (k : Nat) (b w : Int) (x : Bool) : coracleref1_CurveOf.j0 (k + 1) b w x = some (if x = true then (0, 1) else if (rateS b w).1 < 253 then (0, 1) else ((rateS b w).1, 0)) := by
  simp only [coracleref1_CurveOf.j0]
  rw [rrate_f]
  cases x
  · simp only [Option.bind_some, Bool.false_eq_true, if_false]
    split <;> rfl
  · rfl
theorem rof_f (k : Nat) (s d b w : Int) : coracleref1_CurveOf.f (k + 1) s d b w = some (if ofB s d b w then (min (b * 1000 / w) 1000000000, 0) else (0, 1)) := by
  unfold coracleref1_CurveOf.f
  have jt : coracleref1_CurveOf.j0 (k + 1) b w true = some (0, 1) := by rw [rof_j]; rfl
  cases h : ofB s d b w
  · rw [if_neg (show ¬ (false = true) by decide)]
    have hn : ¬ _ := fun e => Bool.noConfusion (h.symm.trans (ofB_true.2 e))
    by_cases h1 : s < 0
    · rw [if_pos h1, jt]
    · rw [if_neg h1]
      by_cases h2 : s > 1000000
      · rw [if_pos h2, jt]
      · rw [if_neg h2]
        by_cases h3 : d < 0
        · rw [if_pos h3, jt]
        · rw [if_neg h3]
          by_cases h4 : d > 1000000
          · rw [if_pos h4, jt]
          · rw [if_neg h4, money_f]
            simp only [Option.bind_some]
            by_cases h5 : okA b = true
            · have := okA_true.1 h5
              rw [if_pos h5]
              by_cases h6 : w < 1
              · rw [if_pos h6, jt]
              · rw [if_neg h6]
                by_cases h7 : w > 4000000
                · rw [decide_eq_true h7, jt]
                · rw [decide_eq_false h7, rof_j, if_neg (by decide)]
                  have hr : rateS b w = (min (b * 1000 / w) 1000000000, 0) := by
                    unfold rateS; rw [if_pos ⟨h5, by omega, by omega⟩]
                  rw [hr, if_pos (by omega)]
            · rw [if_neg h5, jt]
  · have hb := ofB_true.1 h
    have h5 : okA b = true := okA_true.2 hb.2.2.1
    rw [if_neg (by omega), if_neg (by omega), if_neg (by omega), if_neg (by omega), money_f]
    simp only [Option.bind_some]
    rw [if_pos h5, if_neg (by omega), decide_eq_false (by omega), rof_j, if_neg (by decide)]
    have hr : rateS b w = (min (b * 1000 / w) 1000000000, 0) := by
      unfold rateS; rw [if_pos ⟨h5, by omega, by omega⟩]
    rw [hr, if_neg (by omega)]
    simp
end Go.Proofs.Ytfoahgdaigfhoaa.CurL
