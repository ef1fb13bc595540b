/- What the amounts that a curve asks tell: plain laws over the printed functions. -/
import Derived.Test.YtfoahgdaigfhoaaQCurx6
import Derived.Test.YtfoahgdaigfhoaaCurL
namespace Go.Proofs.Ytfoahgdaigfhoaa.CurL
open Go Go.RowKit Go.Proofs.Ytfoahgdaigfhoaa.QCur Go.Proofs.Ytfoahgdaigfhoaa.Hand Go.Proofs.Ytfoahgdaigfhoaa.Flt Go.Proofs.Ytfoahgdaigfhoaa.FltL Go.Proofs.YtfoahgdaigfhoaaW.PrintWords Go.Proofs.YtfoahgdaigfhoaaW.PrintLast Go.Proofs.YtfoahgdaigfhoaaW.PrintMore
set_option linter.unusedSimpArgs false
def okA (a : Int) : Bool := decide (0 ≤ a) && decide (a ≤ 2100000000000000)
theorem okA_true {a : Int} : okA a = true ↔ 0 ≤ a ∧ a ≤ 2100000000000000 := by simp [okA]
theorem okA_false {a : Int} : okA a = false ↔ a < 0 ∨ 2100000000000000 < a := by
  rw [← Bool.not_eq_true, okA_true]; omega
theorem valid_f (a : Int) : amount_Valid.f a = some (okA a) := by
  unfold amount_Valid.f okA
  by_cases h : a ≥ 0
  · rw [if_pos h]; simp [h]
  · rw [if_neg h]; simp; omega
theorem within_f (a b c : Int) : amount_within.f a b c = some (decide (b ≤ a) && decide (a ≤ c)) := by
  unfold amount_within.f
  by_cases h : a ≥ b
  · rw [if_pos h]; simp [h]
  · rw [if_neg h]; simp; omega
def rateS (f w : Int) : Int × Int := if okA f = true ∧ 1 ≤ w ∧ w ≤ 4000000 then (min (f * 1000 / w) 1000000000, 0) else (0, 11)
theorem rate_val {f w : Int} (hf : 0 ≤ f ∧ f ≤ 2100000000000000) (hw : 1 ≤ w ∧ w ≤ 4000000) : wrap64 (Int.tdiv (wrap64 (f * 1000)) w) = f * 1000 / w := by
  rw [w64 (n := f * 1000) (by omega) (by omega), Int.tdiv_eq_ediv_of_nonneg (by omega)]
  have h0 : 0 ≤ f * 1000 / w := Int.ediv_nonneg (by omega) (by omega)
  have h1 : f * 1000 / w ≤ f * 1000 := Int.ediv_le_self _ (by omega)
  exact w64 (by omega) (by omega)
theorem rate_f (f w : Int) : amount_Rate.f f w = some (rateS f w) := by
  unfold amount_Rate.f rateS
  rw [valid_f, within_f]
  simp only [Option.bind_some]
  by_cases hf : okA f = true
  · rw [if_pos hf]
    by_cases hw : 1 ≤ w ∧ w ≤ 4000000
    · rw [if_pos (by simp [hw]), if_neg (by omega), if_pos ⟨hf, hw.1, hw.2⟩, mn_min, rate_val (okA_true.1 hf) hw]
    · rw [if_neg (by simp; omega), if_neg (by omega)]
  · rw [if_neg hf, if_neg (by simp [hf])]
theorem cm' : (4643105662702714880 : Nat) = G (2 * 253) := by decide
/-- Is there a line of a budget, and to which rate? -/
def ofB (s d b w : Int) : Bool := decide (0 ≤ s) && decide (s ≤ 1000000) && (decide (0 ≤ d) && decide (d ≤ 1000000)) && (okA b && decide (1 ≤ w) && decide (w ≤ 4000000) && decide (253 ≤ min (b * 1000 / w) 1000000000))
theorem ofB_true {s d b w : Int} : ofB s d b w = true ↔ (0 ≤ s ∧ s ≤ 1000000) ∧ (0 ≤ d ∧ d ≤ 1000000) ∧ (0 ≤ b ∧ b ≤ 2100000000000000) ∧ (1 ≤ w ∧ w ≤ 4000000) ∧ 253 ≤ min (b * 1000 / w) 1000000000 := by
  unfold ofB
  simp only [Bool.and_eq_true, decide_eq_true_eq, okA_true]
  constructor
  · rintro ⟨⟨⟨a1, a2⟩, b1, b2⟩, ⟨⟨c1, d1⟩, d2⟩, e⟩; exact ⟨⟨a1, a2⟩, ⟨b1, b2⟩, c1, ⟨d1, d2⟩, e⟩
  · rintro ⟨⟨a1, a2⟩, ⟨b1, b2⟩, c1, ⟨d1, d2⟩, e⟩; exact ⟨⟨⟨a1, a2⟩, b1, b2⟩, ⟨⟨c1, d1⟩, d2⟩, e⟩
theorem of_line {s d b w : Int} (h : ofB s d b w = true) : lineB s 253 (max s d) (min (b * 1000 / w) 1000000000) = true := by
  have := ofB_true.1 h
  rw [lineB_true]; omega
theorem of_f (s d b w : Int) : curve_Of.f s d b w = some (if ofB s d b w then (C (2 * s) (2 * 253), C (2 * max s d) (2 * min (b * 1000 / w) 1000000000), 0) else (C 0 0, C 0 0, 1)) := by
  unfold curve_Of.f
  rw [rate_f, ← C_zero]
  simp only [Option.bind_some]
  cases h : ofB s d b w
  · rw [if_neg (show ¬ (false = true) by decide)]
    have hn : ¬ _ := fun e => Bool.noConfusion (h.symm.trans (ofB_true.2 e))
    by_cases h1 : s ≥ 0
    · rw [if_pos h1]
      by_cases h2 : s ≤ 1000000
      · rw [if_pos h2]
        by_cases h3 : d ≥ 0
        · rw [if_pos h3]
          by_cases h4 : d ≤ 1000000
          · rw [if_pos h4]
            by_cases h5 : w > 4000000
            · rw [if_pos h5]
            · rw [if_neg h5]
              unfold rateS
              by_cases h6 : okA b = true ∧ 1 ≤ w ∧ w ≤ 4000000
              · rw [if_pos h6]
                have := okA_true.1 h6.1
                rw [if_pos (show ((min (b * 1000 / w) 1000000000, (0 : Int)) : Int × Int).2 = 0 from rfl), if_pos (show min (b * 1000 / w) 1000000000 < 253 by omega)]
              · rw [if_neg h6, if_neg (by decide)]
          · rw [if_neg h4]
        · rw [if_neg h3]
      · rw [if_neg h2]
    · rw [if_neg h1]
  · have hb := ofB_true.1 h
    have hl := of_line h
    have hr : rateS b w = (min (b * 1000 / w) 1000000000, 0) := by
      unfold rateS; rw [if_pos ⟨okA_true.2 hb.2.2.1, hb.2.2.2.1.1, hb.2.2.2.1.2⟩]
    rw [if_pos rfl, if_pos hb.1.1, if_pos hb.1.2, if_pos hb.2.1.1, if_pos hb.2.1.2, if_neg (by omega), hr]
    generalize min (b * 1000 / w) 1000000000 = m at *
    have hm := lineB_true.1 hl
    rw [if_pos rfl, if_neg (by omega), mx_max, cm', i_f s (by omega) (by omega), i_f (max s d) (by omega) (by omega), i_f m (by omega) (by omega)]
    have hC1 : (⟨G (2 * s), G (2 * 253)⟩ : C128) = C (2 * s) (2 * 253) := rfl
    have hC2 : (⟨G (2 * max s d), G (2 * m)⟩ : C128) = C (2 * max s d) (2 * m) := rfl
    rw [hC1, hC2, line_in hl]; rfl
end Go.Proofs.Ytfoahgdaigfhoaa.CurL
