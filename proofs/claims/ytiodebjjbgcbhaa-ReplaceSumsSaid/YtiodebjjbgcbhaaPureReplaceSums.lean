/- ReplaceSums: one that takes the place of several pays for all of them together, and for itself: the pure statement, for every input. -/
import Derived.Test.YtiodebjjbgcbhaaRepL
import Derived.Test.YtiodebjjbgcbhaaQRepx6
import Derived.Test.YtiodebjjbgcbhaaQRepx8
namespace Go.Proofs.Ytiodebjjbgcbhaa.Pure
open Go.RowKit Go.Proofs.Ytiodebjjbgcbhaa.QRep Go.Proofs.Ytiodebjjbgcbhaa.RepL Go.Proofs.YtiodebjjbgcbhaaW.PrintWords Go.Proofs.YtiodebjjbgcbhaaW.PrintLast Go.Proofs.YtiodebjjbgcbhaaW.PrintMore
theorem awake_up (k : Nat) (hk : 40 ≤ k) : coraclelaw18_awake.f k = some true := up coraclelaw18_awake.mono coraclelaw18_awake.at40 k hk
theorem rd1 (x : S39) : rd_T39 [x] 0 = x := rfl
theorem sums_out (k : Nat) (hk : 41 ≤ k) (fees : List Int) (x3 : List S39) (x4 x6 : Int) (x0 : List S38) (x2 x5 x7 : Int) : coraclelaw18_ReplaceSums.j2 k fees x3 x4 x6 true x0 x2 x5 x7 = some true := by
  obtain ⟨k, rfl⟩ : ∃ j, k = j + 1 := ⟨k - 1, by omega⟩
  rw [coraclelaw18_ReplaceSums.j2, if_pos rfl, awake_up k (by omega)]
  rfl
theorem sums_next (fees : List Int) (i k : Nat) (hi : i < fees.length) (hn : fees.length ≤ 20) (x4 : Int) :
    coraclelaw18_ReplaceSums.j2 (k + 3) fees (bats fees i) x4 i false (ins i) 0 0 1000 = coraclelaw18_ReplaceSums.l0 (k + 2) fees (bats fees (i + 1)) (wrap64 (x4 + rd fees i)) (wrap64 ((i : Int) + 1)) (ins (i + 1)) 0 0 1000 := by
  have hb := batches1 k [inp i] (rd fees i) 999
  simp only [inp] at hb
  rw [coraclelaw18_ReplaceSums.j2, if_neg (by decide), if_pos (by omega), if_pos (by omega)]
  simp only [Option.bind_some]
  rw [if_pos (by simp), if_pos (by rw [ins_len]; omega), hb]
  simp only [Option.bind_some]
  rw [if_pos (by simp), if_pos (by rw [bats_len]; omega), bats_succ, ins_succ]
  rfl
theorem sums_end (fees : List Int) (h0 : 0 < fees.length) (hn : fees.length ≤ 20) (hf : ∀ x ∈ fees, 0 ≤ x ∧ x ≤ 1099511627776) (k : Nat) (hk : 200 ≤ k) :
    coraclelaw18_ReplaceSums.l0 (k + 1) fees (bats fees fees.length) fees.sum fees.length (ins fees.length) 0 0 1000 = some true := by
  have hs : ∀ l : List Int, (∀ x ∈ l, 0 ≤ x ∧ x ≤ 1099511627776) → 0 ≤ l.sum ∧ l.sum ≤ 1099511627776 * (l.length : Int) := by
    intro l
    induction l with
    | nil => intro _; simp
    | cons x l ih =>
      intro h
      have h1 := h x (by simp)
      have h2 := ih (fun y hy => h y (by simp [hy]))
      rw [List.sum_cons, List.length_cons]
      omega
  have h1 := hs fees hf
  have hm : ∀ (a f r : Int), replace_May.f k (bats fees fees.length) (ins fees.length) [] a f r = some (decide (999 < r) && decide (f ≥ 40 + 164 * (fees.length : Int) + fees.sum)) := by
    intro a f r
    have := may_f fees fees.length k hn h0 (fun x hx => (hf x (List.mem_of_mem_take hx)).1) (by rw [List.take_length]; omega) (Nat.le_refl _) (by omega) a f r
    rwa [List.take_length] at this
  have hc : ∀ (b c : Int), replace_Conflicts.f k (bats fees fees.length) (ins fees.length) [] 0 b c = some (idx fees.length) := fun b c => conflicts_f fees fees.length k (by omega) (by omega) [] 0 b c
  have hb : ∀ fee rate : Int, coraclelaw18_batches.f k [(⟨(⟨ins fees.length, [], 0⟩ : S28), fee, rate⟩ : S30)] = some [bat (ins fees.length) fee rate] := by
    intro fee rate
    obtain ⟨k, rfl⟩ : ∃ j, k = j + 2 := ⟨k - 2, by omega⟩
    exact batches1 k _ fee rate
  rw [coraclelaw18_ReplaceSums.l0, if_neg (by omega), rweight_f fees.length k 0 (by omega) (by omega)]
  simp only [Option.bind_some]
  rw [w64 (n := fees.sum + (40 + 164 * (fees.length : Int))) (by omega) (by omega), w64 (n := fees.sum + (40 + 164 * (fees.length : Int)) - 1) (by omega) (by omega), w64 (n := fees.sum + (40 + 164 * (fees.length : Int)) - 1 + 1) (by omega) (by omega)]
  simp only [hb, Option.bind_some, rd1, bat, hm, hc, List.length_cons, List.length_nil]
  have h01 : (0 : Int) < ((0 + 1 : Nat) : Int) := by decide
  simp only [h01, if_true]
  rw [decide_eq_true (show (999 : Int) < 1000 by decide), decide_eq_true (show fees.sum + (40 + 164 * (fees.length : Int)) ≥ 40 + 164 * (fees.length : Int) + fees.sum by omega), decide_eq_false (show ¬ fees.sum + (40 + 164 * (fees.length : Int)) - 1 ≥ 40 + 164 * (fees.length : Int) + fees.sum by omega), decide_eq_false (show ¬ (999 : Int) < 999 by decide)]
  obtain ⟨k, rfl⟩ : ∃ j, k = j + 1 := ⟨k - 1, by omega⟩
  simp only [Bool.and_true, Bool.and_false, Bool.false_and]
  rw [coraclelaw18_ReplaceSums.j3, if_pos rfl, if_neg (by decide), if_neg (by decide), idx_len, if_pos rfl, awake_up k (by omega)]
  rfl
theorem sums_loop (fees : List Int) (h0 : 0 < fees.length) (hn : fees.length ≤ 20) : ∀ m i k, i + m = fees.length → (∀ x ∈ fees.take i, 0 ≤ x ∧ x ≤ 1099511627776) → 2 * m + 300 ≤ k →
    coraclelaw18_ReplaceSums.l0 k fees (bats fees i) (fees.take i).sum i (ins i) 0 0 1000 = some true := by
  have hs : ∀ l : List Int, (∀ x ∈ l, 0 ≤ x ∧ x ≤ 1099511627776) → 0 ≤ l.sum ∧ l.sum ≤ 1099511627776 * (l.length : Int) := by
    intro l
    induction l with
    | nil => intro _; simp
    | cons x l ih =>
      intro h
      have h1 := h x (by simp)
      have h2 := ih (fun y hy => h y (by simp [hy]))
      rw [List.sum_cons, List.length_cons]
      omega
  intro m
  induction m with
  | zero =>
    intro i k hi hf hk
    obtain rfl : i = fees.length := by omega
    obtain ⟨k, rfl⟩ : ∃ j, k = j + 1 := ⟨k - 1, by omega⟩
    rw [List.take_length] at hf ⊢
    exact sums_end fees h0 hn hf k (by omega)
  | succ m ih =>
    intro i k hi hf hk
    have hi' : i < fees.length := by omega
    obtain ⟨k, rfl⟩ : ∃ j, k = j + 4 := ⟨k - 4, by omega⟩
    rw [coraclelaw18_ReplaceSums.l0, if_pos (by omega), if_pos (by omega)]
    by_cases hlo : rd fees i < 0
    · rw [if_pos hlo]
      exact sums_out _ (by omega) _ _ _ _ _ _ _ _
    · rw [if_neg hlo]
      by_cases hhi : rd fees i > 1099511627776
      · rw [decide_eq_true hhi]
        exact sums_out _ (by omega) _ _ _ _ _ _ _ _
      · rw [decide_eq_false hhi, sums_next fees i k hi' hn]
        have h1 := hs _ hf
        have h2 : ((fees.take i).length : Int) ≤ 20 := by rw [List.length_take]; omega
        rw [w64 (n := (fees.take i).sum + rd fees i) (by omega) (by omega), w64 (n := (i : Int) + 1) (by omega) (by omega), ← sum_take fees i hi']
        refine ih (i + 1) (k + 2) (by omega) (fun x hx => ?_) (by omega)
        rw [List.take_add_one, List.getElem?_eq_getElem hi'] at hx
        rcases List.mem_append.1 hx with hx | hx
        · exact hf x hx
        · have hx' : x = rd fees i := by simpa [rd, List.getD, List.getElem?_eq_getElem hi'] using hx
          omega
theorem ReplaceSums : coraclelaw18_ReplaceSums.Pure := by
  intro fees _ _ _
  refine ⟨1000, ?_⟩
  unfold coraclelaw18_ReplaceSums.f
  by_cases h : (fees.length : Int) = 0
  · rw [if_pos h, coraclelaw18_ReplaceSums.j0, if_pos rfl, awake_up _ (by omega)]
    rfl
  · rw [if_neg h]
    by_cases h2 : (fees.length : Int) > 20
    · rw [decide_eq_true h2, coraclelaw18_ReplaceSums.j0, if_pos rfl, awake_up _ (by omega)]
      rfl
    · rw [decide_eq_false h2, coraclelaw18_ReplaceSums.j0, if_neg (by decide)]
      have := sums_loop fees (by omega) (by omega) fees.length 0 999 (by omega) (fun x hx => by simp at hx) (by omega)
      simpa [bats, ins] using this
end Go.Proofs.Ytiodebjjbgcbhaa.Pure
