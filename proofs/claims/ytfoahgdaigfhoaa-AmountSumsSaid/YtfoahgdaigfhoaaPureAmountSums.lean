/- AmountSums: numbers are added and taken away, or refused: the pure statement, for every input. -/
import Derived.Test.YtfoahgdaigfhoaaAmtL
namespace Go.Proofs.Ytfoahgdaigfhoaa.Pure
open Go.RowKit Go.Proofs.Ytfoahgdaigfhoaa.QAmt Go.Proofs.YtfoahgdaigfhoaaW.PrintWords Go.Proofs.YtfoahgdaigfhoaaW.PrintLast
theorem AmountSums : coraclelaw4_AmountSums.Pure := by
  intro a b l _ _ _ hs _
  refine ⟨l.length + 10, ?_⟩
  have hl : l.length ≤ 140737488351232 := by omega
  unfold coraclelaw4_AmountSums.f
  rw [awake_f, add_f, radd_f, sub_f, total_f l hl _ (by omega), rtotal_f l hl _ (by omega), money_f, money_f]
  simp only [Option.bind_some]
  by_cases h : (l.length : Int) > 100
  · rw [if_pos h]
  · rw [if_neg h]
    generalize totS 0 l = T
    have hj : ∀ x, coraclelaw4_AmountSums.j0 (l.length + 10) a b (addS a b).1 (addS a b).2 (addS a b).1 (addS a b).2 (subS a b).1 (subS a b).2 T.1 T.2 T.1 T.2 x =
        coraclelaw4_AmountSums.j1 (l.length + 9) a b (subS a b).1 (subS a b).2 x false := by
      intro x
      simp only [coraclelaw4_AmountSums.j0]
      rw [valid_f, money_f]
      simp
    have hk : ∀ x, (x = true → subS a b = (wrap64 (a - b), 0)) → (x = false → subS a b = (0, 11)) → coraclelaw4_AmountSums.j1 (l.length + 9) a b (subS a b).1 (subS a b).2 x false = some true := by
      intro x h1 h2
      simp only [coraclelaw4_AmountSums.j1]
      rw [awake_f]
      cases x with
      | true => rw [h1 rfl]; simp
      | false => rw [h2 rfl]; simp
    rw [hj, hj]
    rcases subS_cases a b with ⟨ha, hb, hc, e⟩ | ⟨hn, e⟩
    · have h1 := okA_true.1 ha
      have h2 := okA_true.1 hb
      have h3 := okA_true.1 hc
      rw [if_pos ha, if_pos hb]
      refine hk _ (fun _ => by rw [e, w64 (by omega) (by omega)]) (fun h => ?_)
      simp only [decide_eq_false_iff_not] at h
      omega
    · have hno : ∀ x, (x = true → okA a = true ∧ okA b = true ∧ b ≤ a) → x = false := by
        intro x hx
        cases x with
        | false => rfl
        | true =>
          obtain ⟨h1, h2, h3⟩ := hx rfl
          have := okA_true.1 h1
          have := okA_true.1 h2
          have : okA (a - b) = true := okA_true.2 (by omega)
          rcases hn with h | h | h <;> simp_all
      have hk' : ∀ x, (x = true → okA a = true ∧ okA b = true ∧ b ≤ a) → coraclelaw4_AmountSums.j1 (l.length + 9) a b (subS a b).1 (subS a b).2 x false = some true := by
        intro x hx
        have := hno x hx
        subst this
        exact hk false (fun h => by cases h) (fun _ => e)
      by_cases ha : okA a = true
      · rw [if_pos ha]
        by_cases hb : okA b = true
        · rw [if_pos hb]; exact hk' _ (fun h => ⟨ha, hb, by simpa using h⟩)
        · rw [if_neg hb]; exact hk' _ (fun h => by cases h)
      · rw [if_neg ha]; exact hk' _ (fun h => by cases h)
end Go.Proofs.Ytfoahgdaigfhoaa.Pure
