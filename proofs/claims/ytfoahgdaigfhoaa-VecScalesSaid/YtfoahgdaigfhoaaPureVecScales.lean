/- VecScales: so often a pair is so many of it added; what is steeper stays so: the pure statement, for every input. -/
import Derived.Test.YtfoahgdaigfhoaaVecL
import Derived.Test.YtfoahgdaigfhoaaQVecx5
namespace Go.Proofs.Ytfoahgdaigfhoaa.Pure
open Go Go.RowKit Go.Proofs.Ytfoahgdaigfhoaa.QVec Go.Proofs.Ytfoahgdaigfhoaa.VecL Go.Proofs.Ytfoahgdaigfhoaa.Flt Go.Proofs.YtfoahgdaigfhoaaW.PrintWords Go.Proofs.YtfoahgdaigfhoaaW.PrintLast Go.Proofs.YtfoahgdaigfhoaaW.PrintMore
theorem sum_same {v w : Int} (hv : 0 ≤ v) (hw : 0 ≤ w) : ∀ (n : Nat) (i : Int), 0 ≤ i → (i + n) * v ≤ 2100000000000000 → (i + n) * w ≤ 4000000 → inB v w = true →
    sumS (2 * (i * v)) (2 * (i * w)) (List.replicate n (2 * v, 2 * w)) = (C (2 * ((i + n) * v)) (2 * ((i + n) * w)), 0) := by
  intro n
  induction n with
  | zero => intro i _ _ _ _; simp [sumS]
  | succ n ih =>
    intro i hi h1 h2 hin
    have e : i + ((n + 1 : Nat) : Int) = (i + 1) + (n : Int) := by omega
    rw [e] at h1 h2 ⊢
    have m1 : (i + 1) * v ≤ (i + 1 + n) * v := Int.mul_le_mul_of_nonneg_right (by omega) hv
    have m2 : (i + 1) * w ≤ (i + 1 + n) * w := Int.mul_le_mul_of_nonneg_right (by omega) hw
    have m3 : 0 ≤ (i + 1) * v := Int.mul_nonneg (by omega) hv
    have m4 : 0 ≤ (i + 1) * w := Int.mul_nonneg (by omega) hw
    have a1 : 2 * (i * v) + 2 * v = 2 * ((i + 1) * v) := by rw [Int.add_mul]; omega
    have a2 : 2 * (i * w) + 2 * w = 2 * ((i + 1) * w) := by rw [Int.add_mul]; omega
    have k1 : okP (2 * v) (2 * w) = true := by rw [okP_in]; exact hin
    have k2 : okP (2 * ((i + 1) * v)) (2 * ((i + 1) * w)) = true := by rw [okP_in]; exact inB_true.2 (by omega)
    simp only [List.replicate_succ, sumS]
    rw [if_pos k1, a1, a2, if_pos k2]
    exact ih (i + 1) (by omega) h1 h2 hin
theorem scales_l (v w x y n : Int) (hn : 0 ≤ n) (hn' : n ≤ 40) (a b : C128) : ∀ (d k i : Nat), (i : Int) + d = n → d < k →
    coraclelaw15_VecScales.l0 k v w x y n a b (List.replicate i a) (i : Int) = coraclelaw15_VecScales.l0 (k - d) v w x y n a b (List.replicate n.toNat a) n := by
  intro d
  induction d with
  | zero =>
    intro k i hd hk
    have : (i : Int) = n := by omega
    rw [this, show i = n.toNat by omega, Nat.sub_zero]
  | succ d ih =>
    intro k i hd hk
    obtain ⟨k, rfl⟩ : ∃ m, k = m + 1 := ⟨k - 1, by omega⟩
    conv => lhs; unfold coraclelaw15_VecScales.l0
    rw [if_pos (by omega), if_pos (by rw [List.length_replicate]; omega)]
    have e : List.replicate i a ++ [a] = List.replicate (i + 1) a := by rw [List.replicate_succ']
    have ew : wrap64 ((i : Int) + 1) = ((i + 1 : Nat) : Int) := by rw [w64 (by omega) (by omega)]; omega
    rw [e, ew, ih k (i + 1) (by omega) (by omega)]
    congr 1; omega
theorem prod_le {a b A B : Int} (h0 : 0 ≤ a) (h1 : a ≤ A) (h2 : 0 ≤ b) (h3 : b ≤ B) : 0 ≤ a * b ∧ a * b ≤ A * B :=
  ⟨Int.mul_nonneg h0 h2, Int.mul_le_mul h1 h3 h2 (by omega)⟩
theorem sgn_scale (n p q : Int) (hn : 1 ≤ n) : sgn (n * p - n * q) = sgn (p - q) := by
  rw [← Int.mul_sub]
  generalize p - q = d
  unfold sgn
  rcases Int.lt_trichotomy d 0 with h | h | h
  · have : n * d < 0 := Int.mul_neg_of_pos_of_neg (by omega) h
    rw [if_neg (by omega), if_pos this, if_neg (by omega), if_pos h]
  · subst h; simp
  · have : 0 < n * d := Int.mul_pos (by omega) h
    rw [if_pos this, if_pos h]
theorem scales_end (m : Nat) {v w x y n : Int} (h : inB v w = true) (h' : inB x y = true) (hn : 1 ≤ n) (hn' : n ≤ 40) (hv : v ≤ 1073741824) (hx : x ≤ 1073741824) (hw : w ≤ 50000) (hy : y ≤ 50000) :
    coraclelaw15_VecScales.l0 (m + 50) v w x y n (C (2 * v) (2 * w)) (C (2 * x) (2 * y)) (List.replicate n.toNat (C (2 * v) (2 * w))) n = some true := by
  have hb := inB_true.1 h
  have hb' := inB_true.1 h'
  have b1 := prod_le (show 0 ≤ n by omega) hn' hb.1 hv
  have b2 := prod_le (show 0 ≤ n by omega) hn' hb.2.2.1 hw
  have b3 := prod_le (show 0 ≤ n by omega) hn' hb'.1 hx
  have b4 := prod_le (show 0 ≤ n by omega) hn' hb'.2.2.1 hy
  have r : List.replicate n.toNat (C (2 * v) (2 * w)) = row (List.replicate n.toNat (2 * v, 2 * w)) := by simp [row]
  have s : sumS 0 0 (List.replicate n.toNat (2 * v, 2 * w)) = (C (2 * (n * v)) (2 * (n * w)), 0) := by
    have hz := sum_same hb.1 hb.2.2.1 n.toNat 0 (Int.le_refl _)
    rw [show (0 : Int) + (n.toNat : Int) = n by omega, Int.zero_mul, Int.zero_mul] at hz
    exact hz (by omega) (by omega) h
  have f1 : fitB v w n = true := fitB_true.2 (by omega)
  have f2 : fitB x y n = true := fitB_true.2 (by omega)
  have f3 : fitB v w 1 = true := fitB_true.2 (by omega)
  have f4 : fitB v w 0 = true := fitB_true.2 (by omega)
  have i1 : inB (n * v) (n * w) = true := inB_true.2 (by omega)
  have i2 : inB (n * x) (n * y) = true := inB_true.2 (by omega)
  have q1 := prod_le hb.1 hv hb'.2.2.1 hy
  have q2 := prod_le hb'.1 hx hb.2.2.1 hw
  unfold coraclelaw15_VecScales.l0
  rw [if_neg (by omega), r, sum_f _ (by rw [List.length_replicate]; omega) (fun c hc => by rw [List.eq_of_mem_replicate hc]; exact Sm_in h) _ (by rw [List.length_replicate]; omega), s, scale_in h, scale_in h', scale_in h, scale_in h, f1, f2, f3, f4]
  simp only [Option.bind_some, if_true]
  have c1 : ceq (C (2 * (n * v)) (2 * (n * w))).re (C (2 * (n * v)) (2 * (n * w))).im (C (2 * (n * v)) (2 * (n * w))).re (C (2 * (n * v)) (2 * (n * w))).im = true := by
    rw [c_eq (Sm_in i1).1 (Sm_in i1).2 (Sm_in i1).1 (Sm_in i1).2]; simp
  have c2 : ceq (C (2 * (1 * v)) (2 * (1 * w))).re (C (2 * (1 * v)) (2 * (1 * w))).im (C (2 * v) (2 * w)).re (C (2 * v) (2 * w)).im = true := by
    rw [Int.one_mul, Int.one_mul, c_eq (Sm_in h).1 (Sm_in h).2 (Sm_in h).1 (Sm_in h).2]; simp
  have c3 : ceq (C (2 * (0 * v)) (2 * (0 * w))).re (C (2 * (0 * v)) (2 * (0 * w))).im 0 0 = true := by
    rw [Int.zero_mul, Int.zero_mul]; decide
  rw [if_pos c1, if_pos c2, if_pos c3, cross_in i1 i2 (m + 47), cross_in h h' (m + 47), cross_in h i1 (m + 47), steeper_in h h' (m + 47), awake_f (m + 45)]
  have e1 : n * v * (n * y) - n * x * (n * w) = n * (n * (v * y)) - n * (n * (x * w)) := by
    simp only [Int.mul_assoc, Int.mul_left_comm]
  have e2 : sgn (v * (n * w) - n * v * w) = 0 := by
    have : v * (n * w) - n * v * w = 0 := by rw [Int.mul_left_comm, Int.mul_assoc]; omega
    rw [this]; rfl
  rw [e1, sgn_scale _ _ _ hn, sgn_scale _ _ _ hn, e2, w64 (n := v * y) (by omega) (by omega), w64 (n := x * w) (by omega) (by omega)]
  by_cases c : x * w < v * y <;> simp [c]
theorem VecScales : coraclelaw15_VecScales.Pure := by
  intro v w x y n _ _ _ _ _
  refine ⟨120, ?_⟩
  have out : coraclelaw15_VecScales.j0 120 v w x y n true = some true := by
    simp only [coraclelaw15_VecScales.j0]
    rw [awake_f 115]; rfl
  unfold coraclelaw15_VecScales.f
  rw [in_f, in_f]
  simp only [Option.bind_some]
  cases h : inB v w
  · simp [out]
  · cases h' : inB x y
    · simp [out]
    · simp only [if_true]
      by_cases h1 : n < 1
      · rw [if_pos h1]; exact out
      · rw [if_neg h1]
        by_cases h2 : n > 40
        · rw [if_pos h2]; exact out
        · rw [if_neg h2]
          by_cases h3 : v > 1073741824
          · rw [if_pos h3]; exact out
          · rw [if_neg h3]
            by_cases h4 : x > 1073741824
            · rw [if_pos h4]; exact out
            · rw [if_neg h4]
              by_cases h5 : w > 50000
              · rw [if_pos h5]; exact out
              · rw [if_neg h5]
                by_cases h6 : y > 50000
                · rw [decide_eq_true h6]; exact out
                · rw [decide_eq_false h6]
                  simp only [coraclelaw15_VecScales.j0]
                  rw [if_neg (by simp), pair15_in h, pair15_in h']
                  simp only [Option.bind_some]
                  have hl := scales_l v w x y n (by omega) (by omega) (C (2 * v) (2 * w)) (C (2 * x) (2 * y)) n.toNat 119 0 (by omega) (by omega)
                  have e : (119 - n.toNat) = (69 - n.toNat) + 50 := by omega
                  rw [e, scales_end (69 - n.toNat) h h' (by omega) (by omega) (by omega) (by omega) (by omega) (by omega)] at hl
                  exact hl
end Go.Proofs.Ytfoahgdaigfhoaa.Pure
