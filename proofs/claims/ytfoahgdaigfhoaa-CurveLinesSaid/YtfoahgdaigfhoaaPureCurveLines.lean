/- CurveLines: of any two points there is a line, or none; at any height it has the rate that the document says: the pure statement, for every input. -/
import Derived.Test.YtfoahgdaigfhoaaCurL
import Derived.Test.YtfoahgdaigfhoaaQCurx4
namespace Go.Proofs.Ytfoahgdaigfhoaa.Pure
open Go Go.RowKit Go.Proofs.Ytfoahgdaigfhoaa.QCur Go.Proofs.Ytfoahgdaigfhoaa.CurL Go.Proofs.Ytfoahgdaigfhoaa.Flt Go.Proofs.Ytfoahgdaigfhoaa.FltL Go.Proofs.YtfoahgdaigfhoaaW.PrintWords Go.Proofs.YtfoahgdaigfhoaaW.PrintLast Go.Proofs.YtfoahgdaigfhoaaW.PrintMore
theorem lines_no (m : Nat) {f l t h x : Int} {p q : C128} {b : Bool} {a' b' c' d' : Int} (ha : Sn a') (hb : Sn b') (hc : Sn c') (hd : Sn d') (hp : p = C a' b') (hq : q = C c' d')
    (hn : (pointB a' b' && pointB c' d' && (decide (a' ≤ c') && decide (b' ≤ d'))) = false) (hb2 : b = false) : coraclelaw16_CurveLines.j2 (m + 22) f l t h x p q 1 b (C 0 0) (C 0 0) = some true := by
  subst hp hq hb2
  have e2 : ceq (C 0 0).re (C 0 0).im 0 0 = true := by decide
  simp only [coraclelaw16_CurveLines.j2]
  rw [at_no ha hb hc hd hn, awake_f m]
  simp [e2]
theorem lines_yes (m : Nat) {f l t h : Int} (x : Int) (y : lineB f l t h = true) : coraclelaw16_CurveLines.j2 (m + 22) f l t h x (C (2 * f) (2 * l)) (C (2 * t) (2 * h)) 0 true (C (2 * f) (2 * l)) (C (2 * t) (2 * h)) = some true := by
  have hb := lineB_true.1 y
  have s1 : Sm (2 * f) := Sm.of (by omega) (by omega)
  have s2 : Sm (2 * l) := Sm.of (by omega) (by omega)
  have s3 : Sm (2 * t) := Sm.of (by omega) (by omega)
  have s4 : Sm (2 * h) := Sm.of (by omega) (by omega)
  simp only [coraclelaw16_CurveLines.j2]
  rw [at_f y, rat_f y x (m + 20), awake_f m, c_eq s1 s2 s1 s2, c_eq s3 s4 s3 s4]
  simp
theorem CurveLines : coraclelaw16_CurveLines.Pure := by
  intro f l t h x half _ _ _ _ _
  refine ⟨24, ?_⟩
  have out : coraclelaw16_CurveLines.j0 24 f l t h x half true = some true := by
    simp only [coraclelaw16_CurveLines.j0]
    rw [awake_f 2]; rfl
  unfold coraclelaw16_CurveLines.f
  by_cases h1 : f < -2097152
  · rw [if_pos h1]; exact out
  · rw [if_neg h1]
    by_cases h2 : f > 2097152
    · rw [if_pos h2]; exact out
    · rw [if_neg h2]
      by_cases h3 : t < -2097152
      · rw [if_pos h3]; exact out
      · rw [if_neg h3]
        by_cases h4 : t > 2097152
        · rw [if_pos h4]; exact out
        · rw [if_neg h4]
          by_cases h5 : l < -2147483648
          · rw [if_pos h5]; exact out
          · rw [if_neg h5]
            by_cases h6 : l > 2147483648
            · rw [if_pos h6]; exact out
            · rw [if_neg h6]
              by_cases h7 : h < -2147483648
              · rw [if_pos h7]; exact out
              · rw [if_neg h7]
                by_cases h8 : h > 2147483648
                · rw [decide_eq_true h8]; exact out
                · rw [decide_eq_false h8]
                  have sf : Sn (2 * f) := ⟨by omega, by omega⟩
                  have sl : Sn (2 * l) := ⟨by omega, by omega⟩
                  have st : Sn (2 * t) := ⟨by omega, by omega⟩
                  have sh : Sn (2 * h) := ⟨by omega, by omega⟩
                  simp only [coraclelaw16_CurveLines.j0]
                  rw [if_neg (by simp), i_f f (by omega) (by omega), i_f l (by omega) (by omega), i_f t (by omega) (by omega), i_f h (by omega) (by omega)]
                  cases half
                  · rw [if_neg (by simp)]
                    have hC1 : (⟨G (2 * f), G (2 * l)⟩ : C128) = C (2 * f) (2 * l) := rfl
                    have hC2 : (⟨G (2 * t), G (2 * h)⟩ : C128) = C (2 * t) (2 * h) := rfl
                    rw [hC1, hC2]
                    simp only [coraclelaw16_CurveLines.j1]
                    cases y : lineB f l t h
                    · have hn : (pointB (2 * f) (2 * l) && pointB (2 * t) (2 * h) && (decide (2 * f ≤ 2 * t) && decide (2 * l ≤ 2 * h))) = false := by
                        rw [Bool.eq_false_iff]
                        intro e
                        rw [Bool.and_eq_true, Bool.and_eq_true, pointB_true, pointB_true, Bool.and_eq_true, decide_eq_true_eq, decide_eq_true_eq] at e
                        have : lineB f l t h = true := lineB_true.2 (by omega)
                        rw [y] at this; cases this
                      have hn' : ¬ _ := fun e => Bool.noConfusion (y.symm.trans (lineB_true.2 e))
                      rw [line_f sf sl st sh, hn]
                      simp only [Option.bind_some]
                      have no := fun b hb => lines_no 0 (f := f) (l := l) (t := t) (h := h) (x := x) (b := b) sf sl st sh rfl rfl hn hb
                      by_cases p1 : f ≥ 0
                      · rw [if_neg (by simp), if_pos p1]
                        by_cases p2 : t ≤ 1000000
                        · rw [if_pos p2]
                          by_cases p3 : f ≤ t
                          · rw [if_pos p3]
                            by_cases p4 : l ≥ 253
                            · rw [if_pos p4]
                              by_cases p5 : h ≤ 1000000000
                              · rw [if_pos p5]
                                exact no _ (decide_eq_false (fun e => hn' (by omega)))
                              · rw [if_neg p5]; exact no _ rfl
                            · rw [if_neg p4]; exact no _ rfl
                          · rw [if_neg p3]; exact no _ rfl
                        · rw [if_neg p2]; exact no _ rfl
                      · rw [if_neg (by simp), if_neg p1]; exact no _ rfl
                    · have hb := lineB_true.1 y
                      rw [line_in y]
                      simp only [Option.bind_some]
                      rw [if_neg (by simp), if_pos hb.1.1, if_pos hb.1.2.2, if_pos hb.1.2.1, if_pos hb.2.1, if_pos hb.2.2.2, decide_eq_true hb.2.2.1]
                      exact lines_yes 0 x y
                  · have half' : (4602678819172646912 : Nat) = G 1 := by decide
                    have so : Sn (2 * f + 1) := ⟨by omega, by omega⟩
                    have fa := fadd (a := 2 * f) (b := 1) sf.sm (by decide) so.sm
                    have fk : fok .add (G (2 * f)) (G 1) = true := by unfold fok; rw [fa]; rfl
                    have fv : fop .add (G (2 * f)) (G 1) = G (2 * f + 1) := by unfold fop; rw [fa]; rfl
                    rw [if_pos rfl, half', if_pos fk, fv]
                    have hC1 : (⟨G (2 * f + 1), G (2 * l)⟩ : C128) = C (2 * f + 1) (2 * l) := rfl
                    have hC2 : (⟨G (2 * t), G (2 * h)⟩ : C128) = C (2 * t) (2 * h) := rfl
                    rw [hC1, hC2]
                    simp only [coraclelaw16_CurveLines.j1]
                    have hn : (pointB (2 * f + 1) (2 * l) && pointB (2 * t) (2 * h) && (decide (2 * f + 1 ≤ 2 * t) && decide (2 * l ≤ 2 * h))) = false := by
                      rw [Bool.eq_false_iff]
                      intro e
                      rw [Bool.and_eq_true, Bool.and_eq_true, pointB_true] at e
                      omega
                    rw [line_f so sl st sh, hn]
                    simp only [Option.bind_some, Bool.false_eq_true, if_false, if_true]
                    exact lines_no 0 so sl st sh rfl rfl hn rfl
end Go.Proofs.Ytfoahgdaigfhoaa.Pure
