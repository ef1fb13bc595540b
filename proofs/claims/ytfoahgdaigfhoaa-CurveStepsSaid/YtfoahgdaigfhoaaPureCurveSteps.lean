/- CurveSteps: from block to block a line rises by what is left, within one; the greater the budget, the greater the rate: the pure statement, for every input. -/
import Derived.Test.YtfoahgdaigfhoaaCurA
import Derived.Test.YtfoahgdaigfhoaaQCurx7
namespace Go.Proofs.Ytfoahgdaigfhoaa.Pure
open Go Go.RowKit Go.Proofs.Ytfoahgdaigfhoaa.QCur Go.Proofs.Ytfoahgdaigfhoaa.CurL Go.Proofs.Ytfoahgdaigfhoaa.Flt Go.Proofs.Ytfoahgdaigfhoaa.FltL Go.Proofs.YtfoahgdaigfhoaaW.PrintWords Go.Proofs.YtfoahgdaigfhoaaW.PrintLast Go.Proofs.YtfoahgdaigfhoaaW.PrintMore
theorem step_bounds {R n g : Int} (hn : 0 < n) : R / n ≤ R * (g + 1) / n - R * g / n ∧ R * (g + 1) / n - R * g / n ≤ R / n + 1 := by
  rw [Int.mul_add, Int.mul_one]
  generalize R * g = a
  have h1 := Int.mul_ediv_add_emod (a + R) n
  have h2 := Int.mul_ediv_add_emod a n
  have h3 := Int.mul_ediv_add_emod R n
  have e1 := Int.emod_nonneg (a + R) (show n ≠ 0 by omega)
  have e2 := Int.emod_nonneg a (show n ≠ 0 by omega)
  have e3 := Int.emod_nonneg R (show n ≠ 0 by omega)
  have f1 := Int.emod_lt_of_pos (a + R) hn
  have f2 := Int.emod_lt_of_pos a hn
  have f3 := Int.emod_lt_of_pos R hn
  have key : n * ((a + R) / n - a / n - R / n) = a % n + R % n - (a + R) % n := by
    rw [Int.mul_sub, Int.mul_sub]; omega
  generalize (a + R) / n - a / n - R / n = q at key
  generalize hp : (a + R) / n = p at *
  generalize hs : a / n = s at *
  generalize hr : R / n = r at *
  have q0 : -1 < p - s - r := by
    refine Int.lt_of_mul_lt_mul_left (a := n) ?_ (by omega)
    have : n * (p - s - r) = a % n + R % n - (a + R) % n := by rw [Int.mul_sub, Int.mul_sub]; omega
    rw [this]; omega
  have q1 : p - s - r < 2 := by
    refine Int.lt_of_mul_lt_mul_left (a := n) ?_ (by omega)
    have : n * (p - s - r) = a % n + R % n - (a + R) % n := by rw [Int.mul_sub, Int.mul_sub]; omega
    rw [this]; omega
  omega
theorem atV_more {f l t h h' x : Int} (hb : (0 ≤ f ∧ f ≤ t ∧ t ≤ 1000000) ∧ 253 ≤ l ∧ l ≤ h ∧ h ≤ 1000000000) (hh : h ≤ h') : atV f l t h x ≤ atV f l t h' x := by
  unfold atV
  split
  · exact Int.le_refl _
  · split
    · exact hh
    · have : (h - l) * (x - f) ≤ (h' - l) * (x - f) := Int.mul_le_mul_of_nonneg_right (by omega) (by omega)
      have := Int.ediv_le_ediv (show 0 < t - f by omega) this
      omega
theorem steps_l {s wd h h' : Int} (y : lineB s 253 (s + wd) h = true) (y' : lineB s 253 (s + wd) h' = true) (hh : h ≤ h') (hs : s ≤ 1000) (hw : 1 ≤ wd) (hw' : wd ≤ 60) : ∀ (d k : Nat) (x : Int), s ≤ x → x + d = s + wd → d + 22 ≤ k →
    coraclelaw16_CurveSteps.l0 k s wd h x (C (2 * s) (2 * 253)) (C (2 * (s + wd)) (2 * h)) (C (2 * s) (2 * 253)) (C (2 * (s + wd)) (2 * h')) = some true := by
  have hb := lineB_true.1 y
  have hb' := lineB_true.1 y'
  intro d
  induction d with
  | zero =>
    intro k x h0 hx hk
    obtain ⟨m, rfl⟩ : ∃ m, k = m + 22 := ⟨k - 22, by omega⟩
    unfold coraclelaw16_CurveSteps.l0
    rw [w64 (n := s + wd) (by omega) (by omega), if_neg (by omega), at_f y', awake_f m]
    have v : atV s 253 (s + wd) h' (s + wd) = h' := by unfold atV; rw [if_neg (by omega), if_pos (by omega)]
    simp [v, hh]
  | succ d ih =>
    intro k x h0 hx hk
    obtain ⟨k, rfl⟩ : ∃ m, k = m + 1 := ⟨k - 1, by omega⟩
    conv => lhs; unfold coraclelaw16_CurveSteps.l0
    rw [w64 (n := s + wd) (by omega) (by omega), if_pos (by omega), at_f y, w64 (n := x + 1) (by omega) (by omega), at_f y, at_f y', w64 (n := h - 253) (by omega) (by omega), Int.tdiv_eq_ediv_of_nonneg (by omega)]
    have q0 : 0 ≤ (h - 253) / wd := Int.ediv_nonneg (by omega) (by omega)
    have q1 : (h - 253) / wd ≤ h - 253 := Int.ediv_le_self _ (by omega)
    have b1 := atV_bounds y x
    have b2 := atV_bounds y (x + 1)
    simp only [Option.bind_some]
    rw [if_neg (by omega), w64 (n := (h - 253) / wd) (by omega) (by omega), w64 (n := (h - 253) / wd + 1) (by omega) (by omega), w64 (n := atV s 253 (s + wd) h (x + 1) - atV s 253 (s + wd) h x) (by omega) (by omega)]
    have v1 : atV s 253 (s + wd) h x = 253 + (h - 253) * (x - s) / wd := by
      unfold atV; rw [if_neg (by omega), if_neg (by omega), show s + wd - s = wd by omega]
    have v2 : atV s 253 (s + wd) h (x + 1) = 253 + (h - 253) * (x - s + 1) / wd := by
      unfold atV
      rw [if_neg (by omega)]
      by_cases c : s + wd ≤ x + 1
      · rw [if_pos c, show x - s + 1 = wd by omega, Int.mul_ediv_cancel _ (by omega)]; omega
      · rw [if_neg c, show s + wd - s = wd by omega, show x + 1 - s = x - s + 1 by omega]
    have sb := step_bounds (R := h - 253) (n := wd) (g := x - s) (by omega)
    have mo := atV_more hb hh (x := x)
    rw [if_neg (by omega), if_neg (by omega), if_neg (by omega)]
    exact ih k (x + 1) (by omega) (by omega) (by omega)
theorem steps_j1 (m : Nat) {s wd b mo w : Int} (hs : 0 ≤ s) (hs' : s ≤ 1000) (hw : 1 ≤ wd) (hw' : wd ≤ 60) (hm : 0 ≤ mo) (hm' : mo ≤ 1073741824) (hg : 100 ≤ w) (hg' : w ≤ 3000) (h : 253 ≤ min (b * 1000 / w) 1000000000) :
    coraclelaw16_CurveSteps.j1 (m + 90) s wd b w 0 false (C (2 * s) (2 * 253)) (C (2 * (s + wd)) (2 * min (b * 1000 / w) 1000000000)) (C (2 * s) (2 * 253)) (C (2 * (s + wd)) (2 * min ((b + mo) * 1000 / w) 1000000000)) = some true := by
  have hle : b * 1000 / w ≤ (b + mo) * 1000 / w := Int.ediv_le_ediv (by omega) (by omega)
  have y : lineB s 253 (s + wd) (min (b * 1000 / w) 1000000000) = true := lineB_true.2 (by omega)
  have y' : lineB s 253 (s + wd) (min ((b + mo) * 1000 / w) 1000000000) = true := lineB_true.2 (by omega)
  simp only [coraclelaw16_CurveSteps.j1]
  rw [if_neg (by simp), w64 (n := s + wd) (by omega) (by omega), at_f y]
  have v : atV s 253 (s + wd) (min (b * 1000 / w) 1000000000) (s + wd) = min (b * 1000 / w) 1000000000 := by unfold atV; rw [if_neg (by omega), if_pos (by omega)]
  simp only [Option.bind_some]
  rw [v]
  exact steps_l y y' (by omega) hs' hw hw' wd.toNat (m + 89) s (by omega) (by omega) (by omega)
theorem CurveSteps : coraclelaw16_CurveSteps.Pure := by
  intro s wd b mo w _ _ _ _ _
  refine ⟨100, ?_⟩
  have out : coraclelaw16_CurveSteps.j0 100 s wd b mo w true = some true := by
    simp only [coraclelaw16_CurveSteps.j0]
    rw [awake_f 78]; rfl
  unfold coraclelaw16_CurveSteps.f
  by_cases h1 : s < 0
  · rw [if_pos h1]; exact out
  · rw [if_neg h1]
    by_cases h2 : s > 1000
    · rw [if_pos h2]; exact out
    · rw [if_neg h2]
      by_cases h3 : wd < 1
      · rw [if_pos h3]; exact out
      · rw [if_neg h3]
        by_cases h4 : wd > 60
        · rw [if_pos h4]; exact out
        · rw [if_neg h4]
          by_cases h5 : b < 1000
          · rw [if_pos h5]; exact out
          · rw [if_neg h5]
            by_cases h6 : b > 1073741824
            · rw [if_pos h6]; exact out
            · rw [if_neg h6]
              by_cases h7 : mo < 0
              · rw [if_pos h7]; exact out
              · rw [if_neg h7]
                by_cases h8 : mo > 1073741824
                · rw [if_pos h8]; exact out
                · rw [if_neg h8]
                  by_cases h9 : w < 100
                  · rw [if_pos h9]; exact out
                  · rw [if_neg h9]
                    by_cases h10 : w > 3000
                    · rw [decide_eq_true h10]; exact out
                    · rw [decide_eq_false h10]
                      simp only [coraclelaw16_CurveSteps.j0]
                      have em : max s (s + wd) = s + wd := by omega
                      have hle : b * 1000 / w ≤ (b + mo) * 1000 / w := Int.ediv_le_ediv (by omega) (by omega)
                      rw [if_neg (by simp), w64 (n := s + wd) (by omega) (by omega), w64 (n := b + mo) (by omega) (by omega), of_f, of_f, em]
                      by_cases hr : 253 ≤ min (b * 1000 / w) 1000000000
                      · have o1 : ofB s (s + wd) b w = true := ofB_true.2 (by omega)
                        have o2 : ofB s (s + wd) (b + mo) w = true := ofB_true.2 (by omega)
                        rw [o1, o2]
                        exact steps_j1 9 (by omega) (by omega) (by omega) (by omega) (by omega) (by omega) (by omega) (by omega) hr
                      · have o1 : ofB s (s + wd) b w = false := by
                          cases h : ofB s (s + wd) b w
                          · rfl
                          · exact absurd (ofB_true.1 h).2.2.2.2 hr
                        have rs : rateS b w = (min (b * 1000 / w) 1000000000, 0) := by
                          unfold rateS; rw [if_pos ⟨okA_true.2 (by omega), by omega, by omega⟩]
                        rw [o1]
                        simp only [Option.bind_some, Bool.false_eq_true, if_false]
                        rw [if_neg (by decide)]
                        simp only [coraclelaw16_CurveSteps.j1]
                        rw [rate_f, rs, awake_f 77]
                        simp only [Option.bind_some, if_true]
                        rw [if_pos (by omega)]
end Go.Proofs.Ytfoahgdaigfhoaa.Pure
