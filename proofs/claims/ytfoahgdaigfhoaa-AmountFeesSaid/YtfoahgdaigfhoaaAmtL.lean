/- What the functions of package amount, and the reference's, tell: plain laws over the printed functions. -/
import Derived.Test.YtfoahgdaigfhoaaQAmtx3
import Derived.Test.YtfoahgdaigfhoaaQAmtx2
namespace Go.Proofs.Ytfoahgdaigfhoaa.Pure
open Go.RowKit Go.Proofs.Ytfoahgdaigfhoaa.QAmt Go.Proofs.YtfoahgdaigfhoaaW.PrintWords Go.Proofs.YtfoahgdaigfhoaaW.PrintLast Go.Proofs.YtfoahgdaigfhoaaW.PrintMore
set_option linter.unusedSimpArgs false

def okA (a : Int) : Bool := decide (0 ≤ a) && decide (a ≤ 2100000000000000)
theorem okA_true {a : Int} : okA a = true ↔ 0 ≤ a ∧ a ≤ 2100000000000000 := by simp [okA]
theorem okA_false {a : Int} : okA a = false ↔ a < 0 ∨ 2100000000000000 < a := by
  rw [← Bool.not_eq_true, okA_true]; omega
theorem w64 {n : Int} (h0 : -9223372036854775808 ≤ n) (h1 : n ≤ 9223372036854775807) : wrap64 n = n := by unfold wrap64; omega
theorem wf64 {n : Int} (h : (Lit.int .i64 n).wf = true) : -9223372036854775808 ≤ n ∧ n ≤ 9223372036854775807 := by
  simp only [Lit.wf, Bool.and_eq_true, decide_eq_true_eq] at h
  exact h
theorem valid_f (a : Int) : amount_Valid.f a = some (okA a) := by
  unfold amount_Valid.f okA
  by_cases h : a ≥ 0
  · rw [if_pos h]; simp [h]
  · rw [if_neg h]; simp; omega
theorem money_f (a : Int) : coracleref1_Money.f a = some (okA a) := by
  unfold coracleref1_Money.f okA
  by_cases h : a ≥ 0
  · rw [if_pos h]; simp [h]
  · rw [if_neg h]; simp; omega
theorem held_f (a : Int) (b : Bool) : amount_held.f a b = some (if b && okA a then (a, 0) else (0, 11)) := by
  unfold amount_held.f
  rw [valid_f]
  cases b <;> cases okA a <;> simp
def addS (a b : Int) : Int × Int := if okA a && okA b && okA (wrap64 (a + b)) then (wrap64 (a + b), 0) else (0, 11)
theorem add_f (a b : Int) : amount_Add.f a b = some (addS a b) := by
  unfold amount_Add.f addS
  simp only [valid_f, held_f]
  cases okA a <;> cases okA b <;> cases okA (wrap64 (a + b)) <;> simp
theorem radd_f (a b : Int) : coracleref1_Add.f a b = some (addS a b) := by
  unfold coracleref1_Add.f addS
  simp only [money_f]
  cases okA a <;> cases okA b <;> cases okA (wrap64 (a + b)) <;> simp
def subS (a b : Int) : Int × Int := if okA a && okA b && okA (wrap64 (a - b)) then (wrap64 (a - b), 0) else (0, 11)
theorem sub_f (a b : Int) : amount_Sub.f a b = some (subS a b) := by
  unfold amount_Sub.f subS
  simp only [valid_f, held_f]
  cases okA a <;> cases okA b <;> cases okA (wrap64 (a - b)) <;> simp
/-- A sum is told, or refused. -/
theorem addS_cases (a b : Int) : (okA a = true ∧ okA b = true ∧ okA (a + b) = true ∧ addS a b = (a + b, 0)) ∨ ((okA a = false ∨ okA b = false ∨ okA (a + b) = false) ∧ addS a b = (0, 11)) := by
  unfold addS
  cases ha : okA a
  · exact .inr ⟨.inl rfl, by simp⟩
  · cases hb : okA b
    · exact .inr ⟨.inr (.inl rfl), by simp⟩
    · have := okA_true.1 ha
      have := okA_true.1 hb
      rw [w64 (by omega) (by omega)]
      cases hc : okA (a + b)
      · exact .inr ⟨.inr (.inr rfl), by simp⟩
      · exact .inl ⟨rfl, rfl, rfl, by simp⟩
theorem subS_cases (a b : Int) : (okA a = true ∧ okA b = true ∧ okA (a - b) = true ∧ subS a b = (a - b, 0)) ∨ ((okA a = false ∨ okA b = false ∨ okA (a - b) = false) ∧ subS a b = (0, 11)) := by
  unfold subS
  cases ha : okA a
  · exact .inr ⟨.inl rfl, by simp⟩
  · cases hb : okA b
    · exact .inr ⟨.inr (.inl rfl), by simp⟩
    · have := okA_true.1 ha
      have := okA_true.1 hb
      rw [w64 (by omega) (by omega)]
      cases hc : okA (a - b)
      · exact .inr ⟨.inr (.inr rfl), by simp⟩
      · exact .inl ⟨rfl, rfl, rfl, by simp⟩

/-- The sum of a row, each sum on the way asked. -/
def totS : Int → List Int → Int × Int
  | s, [] => (s, 0)
  | s, a :: r => if (addS s a).2 = 0 then totS (addS s a).1 r else addS s a
theorem rd_at {xs : List Int} {i : Nat} (h : i < xs.length) : rd xs (i : Int) = xs[i] := by
  unfold rd; rw [Int.toNat_natCast]; simp [List.getD_eq_getElem?_getD, h]
theorem drop_at {xs : List Int} {i : Nat} (h : i < xs.length) : xs.drop i = xs[i] :: xs.drop (i + 1) := by
  rw [List.drop_eq_getElem_cons h]
theorem total_l (xs : List Int) (hx : xs.length ≤ 140737488351232) : ∀ (d k i : Nat) (s : Int), i + d = xs.length → d < k → amount_Total.l0 k s 0 xs (xs.length : Int) (i : Int) = some (totS s (xs.drop i)) := by
  intro d
  induction d with
  | zero =>
    intro k i s hd hk
    obtain ⟨k, rfl⟩ : ∃ m, k = m + 1 := ⟨k - 1, by omega⟩
    have : xs.drop i = [] := List.drop_of_length_le (by omega)
    simp only [amount_Total.l0]
    rw [if_neg (by omega), this]; rfl
  | succ d ih =>
    intro k i s hd hk
    obtain ⟨k, rfl⟩ : ∃ m, k = m + 1 := ⟨k - 1, by omega⟩
    have hi : i < xs.length := by omega
    simp only [amount_Total.l0]
    rw [if_pos (by omega), if_pos (by omega), if_pos (by omega), add_f, rd_at hi, drop_at hi]
    simp only [Option.bind_some, totS]
    by_cases h : (addS s xs[i]).2 = 0
    · rw [if_pos h, if_pos h, h]
      have : wrap64 ((i : Int) + 1) = ((i + 1 : Nat) : Int) := by rw [w64 (by omega) (by omega)]; omega
      rw [this]
      exact ih k (i + 1) _ (by omega) (by omega)
    · rw [if_neg h, if_neg h]
theorem total_f (xs : List Int) (hx : xs.length ≤ 140737488351232) (k : Nat) (hk : xs.length < k) : amount_Total.f k xs = some (totS 0 xs) := by
  unfold amount_Total.f
  have := total_l xs hx xs.length k 0 0 (by omega) hk
  simpa using this
theorem addS_zero (a b : Int) (h : (addS a b).2 ≠ 0) : addS a b = (0, 11) := by
  rcases addS_cases a b with ⟨_, _, _, e⟩ | ⟨_, e⟩
  · rw [e] at h; exact absurd rfl h
  · exact e
theorem rtotal_l (xs : List Int) (hx : xs.length ≤ 140737488351232) : ∀ (d k i : Nat) (s : Int), i + d = xs.length → d < k → coracleref1_Total.l0 k xs s (i : Int) = some (totS s (xs.drop i)) := by
  intro d
  induction d with
  | zero =>
    intro k i s hd hk
    obtain ⟨k, rfl⟩ : ∃ m, k = m + 1 := ⟨k - 1, by omega⟩
    have : xs.drop i = [] := List.drop_of_length_le (by omega)
    simp only [coracleref1_Total.l0]
    rw [if_neg (by omega), this]; rfl
  | succ d ih =>
    intro k i s hd hk
    obtain ⟨k, rfl⟩ : ∃ m, k = m + 1 := ⟨k - 1, by omega⟩
    have hi : i < xs.length := by omega
    simp only [coracleref1_Total.l0]
    rw [if_pos (by omega), if_pos (by omega), radd_f, rd_at hi, drop_at hi]
    simp only [Option.bind_some, totS]
    by_cases h : (addS s xs[i]).2 = 0
    · rw [if_pos h, if_pos h]
      have : wrap64 ((i : Int) + 1) = ((i + 1 : Nat) : Int) := by rw [w64 (by omega) (by omega)]; omega
      rw [this]
      exact ih k (i + 1) _ (by omega) (by omega)
    · rw [if_neg h, if_neg h, addS_zero _ _ h]
theorem rtotal_f (xs : List Int) (hx : xs.length ≤ 140737488351232) (k : Nat) (hk : xs.length < k) : coracleref1_Total.f k xs = some (totS 0 xs) := by
  unfold coracleref1_Total.f
  have := rtotal_l xs hx xs.length k 0 0 (by omega) hk
  simpa using this

theorem within_f (a b c : Int) : amount_within.f a b c = some (decide (b ≤ a) && decide (a ≤ c)) := by
  unfold amount_within.f
  by_cases h : a ≥ b
  · rw [if_pos h]; simp [h]
  · rw [if_neg h]; simp; omega
/-- Cut up. -/
def up (n : Int) : Int := (n + 999) / 1000
def feeS (w r : Int) : Int × Int := if 0 ≤ w ∧ w ≤ 4000000 ∧ 0 ≤ r ∧ r ≤ 1000000000 ∧ up (w * r) ≤ 2100000000000000 then (up (w * r), 0) else (0, 11)
theorem prod_bound {w r : Int} (h0 : 0 ≤ w) (h1 : w ≤ 4000000) (h2 : 0 ≤ r) (h3 : r ≤ 1000000000) : 0 ≤ w * r ∧ w * r ≤ 4000000000000000 :=
  ⟨Int.mul_nonneg h0 h2, Int.le_trans (Int.mul_le_mul h1 h3 h2 (by omega)) (by decide)⟩
theorem fee_f (w r : Int) : amount_Fee.f w r = some (feeS w r) := by
  unfold amount_Fee.f feeS
  rw [within_f, within_f]
  simp only [Option.bind_some]
  by_cases h1 : 0 ≤ w ∧ w ≤ 4000000
  · rw [if_pos (by simp [h1])]
    by_cases h2 : 0 ≤ r ∧ r ≤ 1000000000
    · rw [if_pos (by simp [h2])]
      have hp := prod_bound h1.1 h1.2 h2.1 h2.2
      rw [w64 (n := w * r) (by omega) (by omega)]
      generalize hg : w * r = p at *
      have e : wrap64 (Int.tdiv (wrap64 (wrap64 (p + 1000) - 1)) 1000) = up p := by
        rw [w64 (n := p + 1000) (by omega) (by omega), w64 (n := p + 1000 - 1) (by omega) (by omega), Int.tdiv_eq_ediv_of_nonneg (by omega)]
        unfold up
        rw [w64 (by omega) (by omega)]; congr 1; omega
      have hu : 0 ≤ up p := by unfold up; omega
      rw [e, held_f]
      by_cases h3 : up p ≤ 2100000000000000
      · simp [okA, hu, h3, h1, h2]
      · simp [okA, h3]
    · rw [if_neg (by simp; omega), if_neg (by omega)]
  · rw [if_neg (by simp; omega), if_neg (by omega)]
theorem rfee_j (k : Nat) (w r : Int) (b : Bool) (hb : b = true ∨ (0 ≤ w ∧ w ≤ 4000000 ∧ 0 ≤ r ∧ r ≤ 1000000000)) : coracleref1_Fee.j0 (k + 1) w r b = some (if b then (0, 11) else feeS w r) := by
  simp only [coracleref1_Fee.j0]
  cases b with
  | true => simp
  | false =>
    have h := hb.resolve_left (by simp)
    have hp := prod_bound h.1 h.2.1 h.2.2.1 h.2.2.2
    rw [if_neg (by simp), w64 (n := w * r) (by omega) (by omega), money_f, money_f]
    unfold feeS
    generalize hg : w * r = p at *
    have e1 : Int.tdiv p 1000 = p / 1000 := Int.tdiv_eq_ediv_of_nonneg hp.1
    have e2 : Int.tmod p 1000 = p % 1000 := Int.tmod_eq_emod_of_nonneg hp.1
    rw [e1, e2, w64 (n := p / 1000) (by omega) (by omega), w64 (n := p / 1000 + 1) (by omega) (by omega)]
    have hu : 0 ≤ up p := by unfold up; omega
    by_cases hm : p % 1000 > 0
    · rw [if_pos hm]
      have e : p / 1000 + 1 = up p := by unfold up; omega
      rw [e]
      by_cases h3 : up p ≤ 2100000000000000
      · simp [okA, hu, h3, h]
      · simp [okA, h3]
    · rw [if_neg hm]
      have e : p / 1000 = up p := by unfold up; omega
      rw [e]
      by_cases h3 : up p ≤ 2100000000000000
      · simp [okA, hu, h3, h]
      · simp [okA, h3]
theorem rfee_f (k : Nat) (w r : Int) : coracleref1_Fee.f (k + 1) w r = some (feeS w r) := by
  unfold coracleref1_Fee.f
  by_cases h1 : w < 0
  · rw [if_pos h1, rfee_j _ _ _ _ (.inl rfl)]; unfold feeS; rw [if_neg (c := 0 ≤ w ∧ _) (by omega)]; rfl
  · rw [if_neg h1]
    by_cases h2 : w > 4000000
    · rw [if_pos h2, rfee_j _ _ _ _ (.inl rfl)]; unfold feeS; rw [if_neg (c := 0 ≤ w ∧ _) (by omega)]; rfl
    · rw [if_neg h2]
      by_cases h3 : r < 0
      · rw [if_pos h3, rfee_j _ _ _ _ (.inl rfl)]; unfold feeS; rw [if_neg (c := 0 ≤ w ∧ _) (by omega)]; rfl
      · rw [if_neg h3]
        by_cases h4 : r > 1000000000
        · rw [rfee_j _ _ _ _ (.inl (by simp [h4]))]; unfold feeS; rw [if_neg (c := 0 ≤ w ∧ _) (by omega)]; simp [h4]
        · rw [rfee_j _ _ _ _ (.inr (by omega))]; simp [h4]
def rateS (f w : Int) : Int × Int := if okA f = true ∧ 1 ≤ w ∧ w ≤ 4000000 then (min (f * 1000 / w) 1000000000, 0) else (0, 11)
theorem mn_min (a b : Int) : mn a b = min a b := by unfold mn; split <;> omega
theorem rate_val {f w : Int} (hf : 0 ≤ f ∧ f ≤ 2100000000000000) (hw : 1 ≤ w ∧ w ≤ 4000000) : wrap64 (Int.tdiv (wrap64 (f * 1000)) w) = f * 1000 / w := by
  rw [w64 (n := f * 1000) (by omega) (by omega), Int.tdiv_eq_ediv_of_nonneg (by omega)]
  have h0 : 0 ≤ f * 1000 / w := Int.ediv_nonneg (by omega) (by omega)
  have h1 : f * 1000 / w ≤ f * 1000 := Int.ediv_le_self _ (by omega)
  exact w64 (by omega) (by omega)
theorem rate_f (f w : Int) : amount_Rate.f f w = some (rateS f w) := by
  unfold amount_Rate.f rateS
  rw [valid_f, within_f]
  simp only [Option.bind_some]
  by_cases hf : okA f = true
  · rw [if_pos hf]
    by_cases hw : 1 ≤ w ∧ w ≤ 4000000
    · rw [if_pos (by simp [hw]), if_neg (by omega), if_pos ⟨hf, hw.1, hw.2⟩, mn_min, rate_val (okA_true.1 hf) hw]
    · rw [if_neg (by simp; omega), if_neg (by omega)]
  · rw [if_neg hf, if_neg (by simp [hf])]
theorem rrate_f (f w : Int) : coracleref1_Rate.f f w = some (rateS f w) := by
  unfold coracleref1_Rate.f rateS
  rw [money_f]
  simp only [Option.bind_some]
  by_cases hf : okA f = true
  · rw [if_pos hf]
    by_cases hw : 1 ≤ w ∧ w ≤ 4000000
    · rw [if_neg (by omega), if_neg (by omega), if_neg (by omega), if_pos ⟨hf, hw.1, hw.2⟩, mn_min, rate_val (okA_true.1 hf) hw]
    · rw [if_neg (c := okA f = true ∧ _) (by omega)]
      by_cases h1 : w < 1
      · rw [if_pos h1]
      · rw [if_neg h1, if_pos (by omega)]
  · rw [if_neg hf, if_neg (by simp [hf])]
theorem awake_f (k : Nat) : coraclelaw4_awake.f (k + 1) = some true := by
  unfold coraclelaw4_awake.f
  rw [fee_f, fee_f, add_f, total_f [] (by decide) (k + 1) (by simp), valid_f, valid_f]
  simp [feeS, up, addS, totS, okA, wrap64]
end Go.Proofs.Ytfoahgdaigfhoaa.Pure
