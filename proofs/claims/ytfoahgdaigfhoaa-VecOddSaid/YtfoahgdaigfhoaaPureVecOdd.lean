/- VecOdd: what is no pair is none, whatever is asked of it: the pure statement, for every input. -/
import Derived.Test.YtfoahgdaigfhoaaVecL
import Derived.Test.YtfoahgdaigfhoaaQVecx4
namespace Go.Proofs.Ytfoahgdaigfhoaa.Pure
open Go Go.RowKit Go.Proofs.Ytfoahgdaigfhoaa.QVec Go.Proofs.Ytfoahgdaigfhoaa.VecL Go.Proofs.Ytfoahgdaigfhoaa.Flt Go.Proofs.YtfoahgdaigfhoaaW.PrintWords Go.Proofs.YtfoahgdaigfhoaaW.PrintLast Go.Proofs.YtfoahgdaigfhoaaW.PrintMore
theorem half_f (a : Int) (h0 : -1000 ≤ a) (h1 : a ≤ 1000) : fok .quo (fint a) 4611686018427387904 = true ∧ fop .quo (fint a) 4611686018427387904 = G a := by
  have hv : fval .quo (fint a) 4611686018427387904 = some (G a) := by
    have c : (4611686018427387904 : Nat) = G 4 := by decide
    rw [f_int a (by omega) (by omega), c]
    exact half_G a (by omega)
  unfold fok fop
  rw [hv]; exact ⟨rfl, rfl⟩
theorem odd_no (k : Nat) {a b : Int} (h0 : -1000 ≤ a) (h1 : a ≤ 1000) (h2 : -1000 ≤ b) (h3 : b ≤ 1000) (h : okP a b = false) : coraclelaw15_VecOdd.j1 (k + 10) a b (C a b) 0 0 false false = some true := by
  have sa : Sm a := Sm.of (by omega) (by omega)
  have sb : Sm b := Sm.of (by omega) (by omega)
  have c1 : (⟨4607182418800017408, 0⟩ : C128) = C 2 0 := by unfold C; decide
  have r1 : ([C 2 0, C a b] : List C128) = row [(2, 0), (a, b)] := rfl
  have s1 : sumS 0 0 [(2, 0), (a, b)] = (C 0 0, 11) := by simp [sumS, h]
  have e2 : ceq (C 0 0).re (C 0 0).im 0 0 = true := by decide
  have hrow : ∀ c ∈ [((2 : Int), (0 : Int)), (a, b)], Sm c.1 ∧ Sm c.2 := by
    intro c hc
    simp only [List.mem_cons, List.not_mem_nil, or_false] at hc
    rcases hc with rfl | rfl
    · exact ⟨by decide, by decide⟩
    · exact ⟨sa, sb⟩
  simp only [coraclelaw15_VecOdd.j1]
  rw [if_neg (by simp), c1, r1, sum_f [(2, 0), (a, b)] (by simp) hrow _ (by simp), s1, scale_no sa sb h, cross_no1 sa sb h (by decide) (by decide) (k + 7), pair15_in (v := 1) (w := 1) (by decide), awake_f (k + 5)]
  have st : vec_Steeper.f (k + 9) (C a b) (C 2 0) = some false := by
    unfold vec_Steeper.f
    rw [cross_no1 sa sb h (by decide) (by decide) (k + 7)]; rfl
  simp only [Option.bind_some]
  rw [cross_no2 sa sb h (by decide) (by decide) (k + 7), st]
  simp [e2]
theorem odd_yes (k : Nat) {a b : Int} (h0 : -1000 ≤ a) (h1 : a ≤ 1000) (h2 : -1000 ≤ b) (h3 : b ≤ 1000) (h : okP a b = true) : coraclelaw15_VecOdd.j1 (k + 10) a b (C a b) (a / 2) (b / 2) true true = some true := by
  have ho := okP_true.1 h
  simp only [coraclelaw15_VecOdd.j1]
  rw [awake_f (k + 5), Int.tdiv_eq_ediv_of_nonneg (by omega), Int.tdiv_eq_ediv_of_nonneg (by omega), w64 (by omega) (by omega), w64 (by omega) (by omega)]
  simp
theorem VecOdd : coraclelaw15_VecOdd.Pure := by
  intro a b _ _
  refine ⟨12, ?_⟩
  have out : coraclelaw15_VecOdd.j0 12 a b true = some true := by
    simp only [coraclelaw15_VecOdd.j0]
    rw [awake_f 7]; rfl
  unfold coraclelaw15_VecOdd.f
  by_cases h1 : a < -1000
  · rw [if_pos h1]; exact out
  · rw [if_neg h1]
    by_cases h2 : a > 1000
    · rw [if_pos h2]; exact out
    · rw [if_neg h2]
      by_cases h3 : b < -1000
      · rw [if_pos h3]; exact out
      · rw [if_neg h3]
        by_cases h4 : b > 1000
        · rw [decide_eq_true h4]; exact out
        · rw [decide_eq_false h4]
          have sa : Sm a := Sm.of (by omega) (by omega)
          have sb : Sm b := Sm.of (by omega) (by omega)
          obtain ⟨q1, q2⟩ := half_f a (by omega) (by omega)
          obtain ⟨q3, q4⟩ := half_f b (by omega) (by omega)
          have hp := parts_f sa sb
          unfold C at hp
          simp only [coraclelaw15_VecOdd.j0]
          rw [if_neg (by simp), if_pos q1, if_pos q3, q2, q4, hp]
          simp only [Option.bind_some]
          have m1 : Int.tmod a 2 = 0 ↔ a % 2 = 0 := by
            have := Int.mul_tdiv_add_tmod a 2
            have t := tdiv2 a
            omega
          have m2 : Int.tmod b 2 = 0 ↔ b % 2 = 0 := by
            have := Int.mul_tdiv_add_tmod b 2
            have t := tdiv2 b
            omega
          have no := fun h => odd_no 1 (a := a) (b := b) (by omega) (by omega) (by omega) (by omega) h
          have yes := fun h => odd_yes 1 (a := a) (b := b) (by omega) (by omega) (by omega) (by omega) h
          unfold C at no yes
          cases h : okP a b
          · have hn : ¬ ((0 ≤ a ∧ a ≤ 4200000000000000 ∧ a % 2 = 0) ∧ 0 ≤ b ∧ b ≤ 8000000 ∧ b % 2 = 0) := fun e => by rw [okP_true.2 e] at h; cases h
            have hno := no h
            by_cases p1 : a ≥ 0
            · rw [if_pos p1]
              by_cases p2 : Int.tmod a 2 = 0
              · rw [if_pos p2]
                by_cases p3 : b ≥ 0
                · rw [if_pos p3]
                  have p4 : ((Int.tmod b 2) == 0) = false := by
                    rw [beq_eq_false_iff_ne]
                    intro e
                    have := m1.1 p2
                    have := m2.1 e
                    exact hn (by omega)
                  rw [p4]; exact hno
                · rw [if_neg p3]; exact hno
              · rw [if_neg p2]; exact hno
            · rw [if_neg p1]; exact hno
          · have ho := okP_true.1 h
            have hyes := yes h
            rw [if_pos ho.1.1, if_pos (m1.2 ho.1.2.2), if_pos ho.2.1, show ((Int.tmod b 2) == 0) = true by rw [beq_iff_eq]; exact m2.2 ho.2.2.2]
            exact hyes
end Go.Proofs.Ytfoahgdaigfhoaa.Pure
