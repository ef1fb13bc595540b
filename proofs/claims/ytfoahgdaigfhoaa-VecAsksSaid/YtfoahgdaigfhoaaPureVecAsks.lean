/- VecAsks: any two numbers are a pair, or none; pairs are told, scaled and compared: the pure statement, for every input. -/
import Derived.Test.YtfoahgdaigfhoaaVecL
import Derived.Test.YtfoahgdaigfhoaaQVecx3
namespace Go.Proofs.Ytfoahgdaigfhoaa.Pure
open Go Go.RowKit Go.Proofs.Ytfoahgdaigfhoaa.QVec Go.Proofs.Ytfoahgdaigfhoaa.VecL Go.Proofs.Ytfoahgdaigfhoaa.Flt Go.Proofs.YtfoahgdaigfhoaaW.PrintWords Go.Proofs.YtfoahgdaigfhoaaW.PrintLast Go.Proofs.YtfoahgdaigfhoaaW.PrintMore
def ksgn (H L : Int) : Int := if H > 0 then 1 else if H < 0 then -1 else sgn L
theorem asks_k (m : Nat) (a b c : Int) (d : C128) (e f : Int) (g : Bool) (i : C128) (H L : Int) :
    (if H > 0 then coraclelaw15_VecAsks.j2 (m + 5) a b c d e f g i 0 H L true else (if H = 0 then coraclelaw15_VecAsks.j2 (m + 5) a b c d e f g i 0 H L (decide (L > 0)) else coraclelaw15_VecAsks.j2 (m + 5) a b c d e f g i 0 H L false)) = coraclelaw15_VecAsks.j7 m a b c d e f g i (ksgn H L) := by
  unfold ksgn sgn
  rcases Int.lt_trichotomy H 0 with h | h | h
  · have h1 : ¬ H > 0 := by omega
    have h2 : ¬ H = 0 := by omega
    by_cases hl : L > 0 <;> simp [coraclelaw15_VecAsks.j2, coraclelaw15_VecAsks.j3, coraclelaw15_VecAsks.j4, coraclelaw15_VecAsks.j5, coraclelaw15_VecAsks.j6, h, h1, h2, hl]
  · subst h
    rcases Int.lt_trichotomy L 0 with hl | hl | hl
    · have h3 : ¬ L > 0 := by omega
      simp [coraclelaw15_VecAsks.j2, coraclelaw15_VecAsks.j3, coraclelaw15_VecAsks.j4, coraclelaw15_VecAsks.j5, coraclelaw15_VecAsks.j6, hl, h3]
    · subst hl
      simp [coraclelaw15_VecAsks.j2, coraclelaw15_VecAsks.j3, coraclelaw15_VecAsks.j4, coraclelaw15_VecAsks.j5, coraclelaw15_VecAsks.j6]
    · simp [coraclelaw15_VecAsks.j2, coraclelaw15_VecAsks.j3, coraclelaw15_VecAsks.j4, coraclelaw15_VecAsks.j5, coraclelaw15_VecAsks.j6, hl]
  · have h1 : ¬ H < 0 := by omega
    by_cases hl : L < 0 <;> simp [coraclelaw15_VecAsks.j2, coraclelaw15_VecAsks.j3, coraclelaw15_VecAsks.j4, coraclelaw15_VecAsks.j5, coraclelaw15_VecAsks.j6, h, h1, hl]
theorem ksgn_eq (H L : Int) (h0 : -1048576 < L) (h1 : L < 1048576) : ksgn H L = sgn (H * 1048576 + L) := by
  unfold ksgn sgn
  by_cases a : H > 0
  · rw [if_pos a, if_pos (by omega)]
  · rw [if_neg a]
    by_cases b : H < 0
    · rw [if_pos b, if_neg (by omega), if_pos (by omega)]
    · have : H = 0 := by omega
      subst this; simp
theorem asks_j7 (m : Nat) {v w x y : Int} (h : inB v w = true) (h' : inB x y = true) (n : Int) : coraclelaw15_VecAsks.j7 (m + 12) v w n (C (2 * v) (2 * w)) v w true (C (2 * x) (2 * y)) (sgn (v * y - x * w)) = some true := by
  have hb := inB_true.1 h
  have hj9 : coraclelaw15_VecAsks.j9 (m + 10) v w n (C (2 * v) (2 * w)) v w true (C (2 * x) (2 * y)) (sgn (v * y - x * w)) (if fitB v w n then C (2 * (n * v)) (2 * (n * w)) else C 0 0) (fitB v w n) false = some true := by
    simp only [coraclelaw15_VecAsks.j9]
    rw [cross_in h h' (m + 7), cross_in h' h (m + 7), steeper_in h h' (m + 7), awake_f (m + 5)]
    have hs : sgn (x * w - v * y) = wrap64 (-sgn (v * y - x * w)) := by
      unfold sgn
      rcases Int.lt_trichotomy (v * y) (x * w) with a | a | a
      · rw [if_pos (by omega), if_neg (by omega), if_pos (by omega)]; exact (w64 (by decide) (by decide)).symm
      · rw [if_neg (by omega), if_neg (by omega), if_neg (by omega), if_neg (by omega)]; exact (w64 (by decide) (by decide)).symm
      · rw [if_neg (by omega), if_pos (by omega), if_pos (by omega)]; exact (w64 (by decide) (by decide)).symm
    have h1 : decide (v * y > x * w) = true ↔ sgn (v * y - x * w) = 1 := by
      unfold sgn
      by_cases a : v * y - x * w > 0
      · rw [if_pos a]; simp; omega
      · rw [if_neg a]
        constructor
        · intro e; simp at e; omega
        · intro e; split at e <;> simp at e
    rw [hs]
    generalize sgn (v * y - x * w) = k at *
    cases hf : fitB v w n
    · rw [show (if false = true then C (2 * (n * v)) (2 * (n * w)) else C 0 0) = C 0 0 from rfl, parts_f (by decide) (by decide)]
      by_cases hk : k = 1
      · simp [hk, h1.2 hk]
      · have : decide (v * y > x * w) = false := by
          cases hd : decide (v * y > x * w)
          · rfl
          · exact absurd (h1.1 hd) hk
        simp [hk, this]
    · have hf' := fitB_true.1 hf
      have p1 : 0 ≤ n * v := Int.mul_nonneg hf'.1 hb.1
      have p2 : 0 ≤ n * w := Int.mul_nonneg hf'.1 hb.2.2.1
      rw [if_pos rfl, parts_in (inB_true.2 ⟨p1, hf'.2.2.1, p2, hf'.2.2.2⟩), w64 (n := n * v) (by omega) (by omega), w64 (n := n * w) (by omega) (by omega)]
      by_cases hk : k = 1
      · simp [hk, h1.2 hk]
      · have : decide (v * y > x * w) = false := by
          cases hd : decide (v * y > x * w)
          · rfl
          · exact absurd (h1.1 hd) hk
        simp [hk, this]
  have hj8 : ∀ b, b = fitB v w n → coraclelaw15_VecAsks.j8 (m + 11) v w n (C (2 * v) (2 * w)) v w true (C (2 * x) (2 * y)) (sgn (v * y - x * w)) (if fitB v w n then (C (2 * (n * v)) (2 * (n * w)), (0 : Int)) else (C 0 0, 11)).1 (if fitB v w n then (C (2 * (n * v)) (2 * (n * w)), (0 : Int)) else (C 0 0, 11)).2 b = some true := by
    intro b hbb
    subst hbb
    simp only [coraclelaw15_VecAsks.j8]
    cases hf : fitB v w n
    · rw [hf] at hj9
      simpa using hj9
    · rw [hf] at hj9
      simpa using hj9
  simp only [coraclelaw15_VecAsks.j7]
  rw [scale_in h]
  simp only [Option.bind_some]
  by_cases h1 : n ≥ 0
  · rw [if_pos h1]
    by_cases h2 : n ≤ 10000
    · rw [if_pos h2]
      by_cases h3 : n = 0
      · rw [if_pos h3]
        refine hj8 _ (Eq.symm (fitB_true.2 ?_))
        subst h3; omega
      · rw [if_neg h3]
        have d1 := div_le (v := v) (show 0 < n by omega) (show (0 : Int) ≤ 2100000000000000 by decide) (by decide)
        have d2 := div_le (v := w) (show 0 < n by omega) (show (0 : Int) ≤ 4000000 by decide) (by decide)
        by_cases h4 : v ≤ wrap64 (Int.tdiv 2100000000000000 n)
        · rw [if_pos h4]
          refine hj8 _ ?_
          rw [Bool.eq_iff_iff, fitB_true, decide_eq_true_eq, d2]
          have := d1.1 h4
          omega
        · rw [if_neg h4]
          refine hj8 _ (Eq.symm ?_)
          cases hf : fitB v w n
          · rfl
          · exact absurd (d1.2 (fitB_true.1 hf).2.2.1) h4
    · rw [if_neg h2]
      refine hj8 _ (Eq.symm ?_)
      cases hf : fitB v w n
      · rfl
      · exact absurd (fitB_true.1 hf).2.1 h2
  · rw [if_neg h1]
    refine hj8 _ (Eq.symm ?_)
    cases hf : fitB v w n
    · rfl
    · exact absurd (fitB_true.1 hf).1 h1
theorem asks_j1 (m : Nat) {v w x y : Int} (h : inB v w = true) (h' : inB x y = true) (n : Int) : coraclelaw15_VecAsks.j1 (m + 18) v w x y n (C (2 * v) (2 * w)) false = some true := by
  have hb := inB_true.1 h
  have hb' := inB_true.1 h'
  simp only [coraclelaw15_VecAsks.j1]
  rw [if_neg (by simp), parts_in h, pair15_in h']
  simp only [Option.bind_some]
  have hv : Int.tdiv v 1048576 = v / 1048576 := Int.tdiv_eq_ediv_of_nonneg hb.1
  have hx : Int.tdiv x 1048576 = x / 1048576 := Int.tdiv_eq_ediv_of_nonneg hb'.1
  have hv2 : Int.tmod v 1048576 = v % 1048576 := Int.tmod_eq_emod_of_nonneg hb.1
  have hx2 : Int.tmod x 1048576 = x % 1048576 := Int.tmod_eq_emod_of_nonneg hb'.1
  rw [hv, hx, hv2, hx2, w64 (n := v / 1048576) (by omega) (by omega), w64 (n := x / 1048576) (by omega) (by omega)]
  have e1 : v * y = 1048576 * (v / 1048576 * y) + v % 1048576 * y := by
    conv => lhs; rw [show v = 1048576 * (v / 1048576) + v % 1048576 by omega]
    rw [Int.add_mul, Int.mul_assoc]
  have e2 : x * w = 1048576 * (x / 1048576 * w) + x % 1048576 * w := by
    conv => lhs; rw [show x = 1048576 * (x / 1048576) + x % 1048576 by omega]
    rw [Int.add_mul, Int.mul_assoc]
  have p1 : 0 ≤ v / 1048576 * y := Int.mul_nonneg (by omega) (by omega)
  have p2 : v / 1048576 * y ≤ 2002716064 * 4000000 := Int.mul_le_mul (by omega) (by omega) (by omega) (by omega)
  have p3 : 0 ≤ x / 1048576 * w := Int.mul_nonneg (by omega) (by omega)
  have p4 : x / 1048576 * w ≤ 2002716064 * 4000000 := Int.mul_le_mul (by omega) (by omega) (by omega) (by omega)
  have q1 : 0 ≤ v % 1048576 * y := Int.mul_nonneg (by omega) (by omega)
  have q2 : v % 1048576 * y ≤ 1048576 * 4000000 := Int.mul_le_mul (by omega) (by omega) (by omega) (by omega)
  have q3 : 0 ≤ x % 1048576 * w := Int.mul_nonneg (by omega) (by omega)
  have q4 : x % 1048576 * w ≤ 1048576 * 4000000 := Int.mul_le_mul (by omega) (by omega) (by omega) (by omega)
  have hj := asks_j7 m h h' n
  rw [e1, e2] at hj
  generalize v / 1048576 * y = P at *
  generalize x / 1048576 * w = Q at *
  generalize v % 1048576 * y = P2 at *
  generalize x % 1048576 * w = Q2 at *
  rw [w64 (n := P) (by omega) (by omega), w64 (n := Q) (by omega) (by omega), w64 (n := P2) (by omega) (by omega), w64 (n := Q2) (by omega) (by omega), w64 (n := P - Q) (by omega) (by omega), w64 (n := P2 - Q2) (by omega) (by omega)]
  have t0 : 1048576 * Int.tdiv (P2 - Q2) 1048576 + Int.tmod (P2 - Q2) 1048576 = P2 - Q2 := Int.mul_tdiv_add_tmod _ _
  have t1 : Int.tmod (P2 - Q2) 1048576 < 1048576 := Int.tmod_lt_of_pos _ (by decide)
  have t2 : -1048576 < Int.tmod (P2 - Q2) 1048576 := Int.lt_tmod_of_pos _ (by decide)
  generalize Int.tdiv (P2 - Q2) 1048576 = T at *
  generalize Int.tmod (P2 - Q2) 1048576 = L at *
  rw [w64 (n := T) (by omega) (by omega), w64 (n := P - Q + T) (by omega) (by omega), asks_k (m + 12), ksgn_eq _ _ t2 t1]
  have : (P - Q + T) * 1048576 + L = 1048576 * P + P2 - (1048576 * Q + Q2) := by omega
  rw [this]
  exact hj
theorem VecAsks : coraclelaw15_VecAsks.Pure := by
  intro v w x y n _ _ _ _ _
  refine ⟨20, ?_⟩
  unfold coraclelaw15_VecAsks.f
  rw [of_f, in_f]
  simp only [Option.bind_some]
  have hout : ∀ c, coraclelaw15_VecAsks.j1 19 v w x y n c true = some true := by
    intro c
    simp only [coraclelaw15_VecAsks.j1]
    rw [awake_f 14]; rfl
  cases h : inB v w
  · have e2 : ceq (C 0 0).re (C 0 0).im 0 0 = true := by decide
    simp [e2, coraclelaw15_VecAsks.j0, in_f, h, hout]
  · simp only [if_true, coraclelaw15_VecAsks.j0, in_f, h, Option.bind_some]
    cases h' : inB x y
    · simp [hout]
    · have := asks_j1 1 h h' n
      simp [this]
end Go.Proofs.Ytfoahgdaigfhoaa.Pure
