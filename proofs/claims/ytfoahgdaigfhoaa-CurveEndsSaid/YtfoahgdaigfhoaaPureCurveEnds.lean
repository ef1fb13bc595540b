/- CurveEnds: a line of one height jumps there; one of one rate stays; each between its ends is between their rates: the pure statement, for every input. -/
import Derived.Test.YtfoahgdaigfhoaaCurL
import Derived.Test.YtfoahgdaigfhoaaQCurx6
namespace Go.Proofs.Ytfoahgdaigfhoaa.Pure
open Go Go.RowKit Go.Proofs.Ytfoahgdaigfhoaa.QCur Go.Proofs.Ytfoahgdaigfhoaa.CurL Go.Proofs.Ytfoahgdaigfhoaa.Flt Go.Proofs.Ytfoahgdaigfhoaa.FltL Go.Proofs.YtfoahgdaigfhoaaW.PrintWords Go.Proofs.YtfoahgdaigfhoaaW.PrintLast Go.Proofs.YtfoahgdaigfhoaaW.PrintMore
theorem ends_j1 (m : Nat) {f wd l mo x : Int} (y : lineB f l (f + wd) (l + mo) = true) (hf : f ≤ 1000) (hw : wd ≤ 1000) :
    coraclelaw16_CurveEnds.j1 (m + 22) f wd l mo x false (C (2 * f) (2 * l)) (C (2 * (f + wd)) (2 * (l + mo))) (C (2 * f) (2 * l)) (C (2 * (f + wd)) (2 * l)) = some true := by
  have hb := lineB_true.1 y
  have y' : lineB f l (f + wd) l = true := lineB_true.2 (by omega)
  have flat : ∀ z, atV f l (f + wd) l z = l := fun z => by have := atV_bounds y' z; omega
  simp only [coraclelaw16_CurveEnds.j1]
  rw [if_neg (by simp), at_f y, at_f y', at_f y, flat, w64 (n := f + wd) (by omega) (by omega), w64 (n := l + mo) (by omega) (by omega), at_f y, awake_f m]
  simp only [Option.bind_some, if_true]
  by_cases h1 : x < f
  · have v : atV f l (f + wd) (l + mo) x = l := by unfold atV; rw [if_pos h1]
    rw [if_pos h1, if_pos v]
  · rw [if_neg h1]
    by_cases h2 : x ≥ f + wd
    · have v : atV f l (f + wd) (l + mo) x = l + mo := by unfold atV; rw [if_neg h1, if_pos h2]
      rw [if_pos h2, if_pos v]
    · have hp := at_mid hb (show f ≤ x by omega) (show x < f + wd by omega)
      have em : l + mo - l = mo := by omega
      have ew : f + wd - f = wd := by omega
      rw [em, ew] at hp
      have v : atV f l (f + wd) (l + mo) x = l + mo * (x - f) / wd := by unfold atV; rw [if_neg h1, if_neg h2, em, ew]
      have v2 : atV f l (f + wd) (l + mo) f = l := by unfold atV; rw [if_neg (by omega), if_neg (by omega)]; simp
      have v3 : atV f l (f + wd) (l + mo) (f + wd) = l + mo := by unfold atV; rw [if_neg (by omega), if_pos (by omega)]
      rw [if_neg h2, if_neg (by omega), w64 (n := x - f) (by omega) (by omega), w64 (n := mo * (x - f)) (by omega) (by omega), Int.tdiv_eq_ediv_of_nonneg hp.1, w64 (n := mo * (x - f) / wd) (by omega) (by omega), w64 (n := l + mo * (x - f) / wd) (by omega) (by omega), v, v2, v3]
      simp
theorem CurveEnds : coraclelaw16_CurveEnds.Pure := by
  intro f wd l mo x _ _ _ _ _
  refine ⟨24, ?_⟩
  have out : coraclelaw16_CurveEnds.j0 24 f wd l mo x true = some true := by
    simp only [coraclelaw16_CurveEnds.j0]
    rw [awake_f 2]; rfl
  unfold coraclelaw16_CurveEnds.f
  by_cases h1 : f < 0
  · rw [if_pos h1]; exact out
  · rw [if_neg h1]
    by_cases h2 : f > 1000
    · rw [if_pos h2]; exact out
    · rw [if_neg h2]
      by_cases h3 : wd < 0
      · rw [if_pos h3]; exact out
      · rw [if_neg h3]
        by_cases h4 : wd > 1000
        · rw [if_pos h4]; exact out
        · rw [if_neg h4]
          by_cases h5 : l < 253
          · rw [if_pos h5]; exact out
          · rw [if_neg h5]
            by_cases h6 : l > 1048576
            · rw [if_pos h6]; exact out
            · rw [if_neg h6]
              by_cases h7 : mo < 0
              · rw [if_pos h7]; exact out
              · rw [if_neg h7]
                by_cases h8 : mo > 1048576
                · rw [if_pos h8]; exact out
                · rw [if_neg h8]
                  by_cases h9 : x < -5
                  · rw [if_pos h9]; exact out
                  · rw [if_neg h9]
                    by_cases h10 : x > 3000
                    · rw [decide_eq_true h10]; exact out
                    · rw [decide_eq_false h10]
                      have y : lineB f l (f + wd) (l + mo) = true := lineB_true.2 (by omega)
                      have y' : lineB f l (f + wd) l = true := lineB_true.2 (by omega)
                      simp only [coraclelaw16_CurveEnds.j0]
                      rw [if_neg (by simp), w64 (n := f + wd) (by omega) (by omega), w64 (n := l + mo) (by omega) (by omega), i_f f (by omega) (by omega), i_f l (by omega) (by omega), i_f (f + wd) (by omega) (by omega), i_f (l + mo) (by omega) (by omega)]
                      have hl : curve_Line.f (⟨G (2 * f), G (2 * l)⟩ : C128) (⟨G (2 * (f + wd)), G (2 * (l + mo))⟩ : C128) = some (C (2 * f) (2 * l), C (2 * (f + wd)) (2 * (l + mo)), 0) := line_in y
                      have hl' : curve_Line.f (⟨G (2 * f), G (2 * l)⟩ : C128) (⟨G (2 * (f + wd)), G (2 * l)⟩ : C128) = some (C (2 * f) (2 * l), C (2 * (f + wd)) (2 * l), 0) := line_in y'
                      rw [hl, hl']
                      exact ends_j1 1 y (by omega) (by omega)
end Go.Proofs.Ytfoahgdaigfhoaa.Pure
