/- What the functions of replace answer, told for rows of like inputs: plain Lean, no program in sight. -/
import Derived.Test.YtiodebjjbgcbhaaQRepx2
import Derived.Test.YtiodebjjbgcbhaaQRepx3
import Derived.Test.YtiodebjjbgcbhaaQRepx4
import Derived.Test.YtiodebjjbgcbhaaQRepx5
import Derived.Test.YtiodebjjbgcbhaaQRepx7
namespace Go.Proofs.Ytiodebjjbgcbhaa.RepL
open Go.RowKit Go.Proofs.Ytiodebjjbgcbhaa.QRep Go.Proofs.YtiodebjjbgcbhaaW.PrintWords Go.Proofs.YtiodebjjbgcbhaaW.PrintLast Go.Proofs.YtiodebjjbgcbhaaW.PrintMore
theorem w64 {n : Int} (h0 : -9223372036854775808 ≤ n) (h1 : n ≤ 9223372036854775807) : wrap64 n = n := by unfold wrap64; omega
/-- What is answered in so many rounds is answered in more. -/
theorem up {α : Type} {f : Nat → Option α} (hm : ∀ k, LeO (f k) (f (k + 1))) {k0 : Nat} {r : α} (h : f k0 = some r) : ∀ k, k0 ≤ k → f k = some r := by
  intro k hk
  induction hk with
  | refl => exact h
  | step _ ih => exact hm _ _ ih
abbrev In := S38
/-- An input that spends output i of the transaction of zeros. -/
def inp (i : Int) : In := (⟨(⟨(⟨0, 0, 0, 0, 0, 0, 0, 0, 0, 0, 0, 0, 0, 0, 0, 0, 0, 0, 0, 0, 0, 0, 0, 0, 0, 0, 0, 0, 0, 0, 0, 0⟩ : S32), i⟩ : S34), 0, (⟨0, 0, (⟨#[]⟩ : ByteArray)⟩ : S36)⟩ : S38)
/-- A batch of such inputs. -/
def bat (l : List In) (fee rate : Int) : S39 := ⟨⟨l, [], 0⟩, fee, rate⟩
theorem batches1 (k : Nat) (l : List In) (fee rate : Int) : coraclelaw18_batches.f (k + 2) [(⟨(⟨l, [], 0⟩ : S28), fee, rate⟩ : S30)] = some [bat l fee rate] := by
  simp [coraclelaw18_batches.f, coraclelaw18_batches.l0, rd_T30, bat, wrap64]
/-- The first n inputs. -/
def ins (n : Nat) : List In := (List.range n).map fun j : Nat => inp j
theorem ins_len (n : Nat) : (ins n).length = n := by simp [ins]
theorem ins_succ (n : Nat) : ins (n + 1) = ins n ++ [inp n] := by simp [ins, List.range_succ]
theorem ins_at (n i : Nat) (h : i < n) : rd_T38 (ins n) i = inp i := by
  simp [rd_T38, ins, h]
theorem wit0 (i : Int) : tx_Wit.f (inp i).f2.f0 = some 0 := rfl
theorem rwit0 (i : Int) : coracleref1_Wit.f (inp i).f2.f0 = some 0 := rfl
theorem weight_l (n : Nat) (a : Int) (h0 : 0 ≤ a) (h1 : a ≤ 1000000) (hn : n ≤ 1000) : ∀ m i k, i + m = n → m < k → tx_Weight.l0 k a (ins n) n i = some a := by
  intro m
  induction m with
  | zero =>
    intro i k hi hk
    obtain ⟨k, rfl⟩ : ∃ j, k = j + 1 := ⟨k - 1, by omega⟩
    rw [tx_Weight.l0, if_neg (by omega)]
  | succ m ih =>
    intro i k hi hk
    obtain ⟨k, rfl⟩ : ∃ j, k = j + 1 := ⟨k - 1, by omega⟩
    rw [tx_Weight.l0, if_pos (by omega), if_pos (by omega), if_pos (by rw [ins_len]; omega), ins_at n i (by omega), wit0]
    simp only [Option.bind_some]
    rw [w64 (n := a + 0) (by omega) (by omega), w64 (n := (i : Int) + 1) (by omega) (by omega), Int.add_zero]
    exact ih (i + 1) k (by omega) (by omega)
theorem weight_f (n k : Nat) (a : Int) (hn : n ≤ 1000) (hk : n < k) : tx_Weight.f k (ins n) [] a = some (40 + 164 * (n : Int)) := by
  unfold tx_Weight.f
  rw [ins_len, List.length_nil, w64 (n := 41 * (n : Int)) (by omega) (by omega), w64 (n := 10 + 41 * (n : Int)) (by omega) (by omega), w64 (n := 34 * ((0 : Nat) : Int)) (by omega) (by omega), w64 (n := 10 + 41 * (n : Int) + 34 * ((0 : Nat) : Int)) (by omega) (by omega), w64 (by omega) (by omega), show 4 * (10 + 41 * (n : Int) + 34 * ((0 : Nat) : Int)) = 40 + 164 * n by omega]
  exact weight_l n _ (by omega) (by omega) hn n 0 k (by omega) hk
theorem rweight_l (n : Nat) (l : List S64) (x a : Int) (h0 : 0 ≤ a) (h1 : a ≤ 1000000) (hn : n ≤ 1000) : ∀ m i k, i + m = n → m < k → coracleref1_Weight.l0 k a i (ins n) l x = some a := by
  intro m
  induction m with
  | zero =>
    intro i k hi hk
    obtain ⟨k, rfl⟩ : ∃ j, k = j + 1 := ⟨k - 1, by omega⟩
    rw [coracleref1_Weight.l0, if_neg (by rw [ins_len]; omega)]
  | succ m ih =>
    intro i k hi hk
    obtain ⟨k, rfl⟩ : ∃ j, k = j + 1 := ⟨k - 1, by omega⟩
    rw [coracleref1_Weight.l0, if_pos (by rw [ins_len]; omega), if_pos (by omega), ins_at n i (by omega), rwit0]
    simp only [Option.bind_some]
    rw [w64 (n := a + 0) (by omega) (by omega), w64 (n := (i : Int) + 1) (by omega) (by omega), Int.add_zero]
    exact ih (i + 1) k (by omega) (by omega)
theorem rweight_f (n k : Nat) (a : Int) (hn : n ≤ 1000) (hk : n < k) : coracleref1_Weight.f k (ins n) [] a = some (40 + 164 * (n : Int)) := by
  unfold coracleref1_Weight.f
  rw [ins_len, List.length_nil, w64 (n := 41 * (n : Int)) (by omega) (by omega), w64 (n := 10 + 41 * (n : Int)) (by omega) (by omega), w64 (n := 34 * ((0 : Nat) : Int)) (by omega) (by omega), w64 (n := 10 + 41 * (n : Int) + 34 * ((0 : Nat) : Int)) (by omega) (by omega), w64 (by omega) (by omega), show 4 * (10 + 41 * (n : Int) + 34 * ((0 : Nat) : Int)) = 40 + 164 * n by omega]
  exact rweight_l n _ a _ (by omega) (by omega) hn n 0 k (by omega) hk
/-! ### Money -/
theorem add_f (a b : Int) (h0 : 0 ≤ a) (h1 : 0 ≤ b) (h2 : a + b ≤ 2100000000000000) : amount_Add.f a b = some (a + b, 0) := by
  have e1 : amount_Valid.f a = some true := by unfold amount_Valid.f; rw [if_pos (by omega), decide_eq_true (by omega)]
  have e2 : amount_Valid.f b = some true := by unfold amount_Valid.f; rw [if_pos (by omega), decide_eq_true (by omega)]
  have e3 : amount_Valid.f (a + b) = some true := by unfold amount_Valid.f; rw [if_pos (by omega), decide_eq_true (by omega)]
  unfold amount_Add.f
  rw [e1, e2]
  simp only [Option.bind_some, if_true, w64 (n := a + b) (by omega) (by omega), amount_held.f, e3]
theorem sum_take (l : List Int) (i : Nat) (h : i < l.length) : (l.take (i + 1)).sum = (l.take i).sum + rd l i := by
  rw [List.take_add_one, List.getElem?_eq_getElem h, List.sum_append]
  simp [rd, List.getD, List.getElem?_eq_getElem h]
theorem sum_nonneg (l : List Int) (h : ∀ x ∈ l, 0 ≤ x) : 0 ≤ l.sum := by
  induction l with
  | nil => simp
  | cons x l ih =>
    have := h x (by simp)
    have := ih (fun y hy => h y (by simp [hy]))
    rw [List.sum_cons]; omega
theorem sum_take_le (l : List Int) (h : ∀ x ∈ l, 0 ≤ x) (i : Nat) : (l.take i).sum ≤ l.sum := by
  have e : (l.take i).sum + (l.drop i).sum = l.sum := by rw [← List.sum_append, List.take_append_drop]
  have := sum_nonneg (l.drop i) (fun x hx => h x (List.mem_of_mem_drop hx))
  omega
theorem total_l (l : List Int) (h : ∀ x ∈ l, 0 ≤ x) (hs : l.sum ≤ 2100000000000000) (hl : l.length ≤ 1000000) : ∀ m i k, i + m = l.length → m < k → amount_Total.l0 k (l.take i).sum 0 l l.length i = some (l.sum, 0) := by
  intro m
  induction m with
  | zero =>
    intro i k hi hk
    obtain ⟨k, rfl⟩ : ∃ j, k = j + 1 := ⟨k - 1, by omega⟩
    rw [amount_Total.l0, if_neg (by omega), List.take_of_length_le (by omega)]
  | succ m ih =>
    intro i k hi hk
    obtain ⟨k, rfl⟩ : ∃ j, k = j + 1 := ⟨k - 1, by omega⟩
    have hi' : i < l.length := by omega
    have e := sum_take l i hi'
    have h3 := sum_take_le l h (i + 1)
    have h4 := sum_nonneg (l.take i) (fun x hx => h x (List.mem_of_mem_take hx))
    have h5 : 0 ≤ rd l i := by
      have : rd l i = l[i] := by simp [rd, List.getD, List.getElem?_eq_getElem hi']
      rw [this]; exact h _ (List.getElem_mem hi')
    rw [amount_Total.l0, if_pos (by omega), if_pos (by omega), if_pos (by omega), add_f _ _ h4 h5 (by omega)]
    simp only [Option.bind_some, if_true]
    rw [← e, w64 (n := (i : Int) + 1) (by omega) (by omega)]
    exact ih (i + 1) k (by omega) (by omega)
theorem total_f (l : List Int) (k : Nat) (h : ∀ x ∈ l, 0 ≤ x) (hs : l.sum ≤ 2100000000000000) (hl : l.length ≤ 1000000) (hk : l.length < k) : amount_Total.f k l = some (l.sum, 0) := total_l l h hs hl l.length 0 k (by omega) hk
theorem fee_f (w : Int) (h0 : 0 ≤ w) (h1 : w ≤ 4000000) : amount_Fee.f w 1000 = some (w, 0) := by
  have e1 : amount_within.f w 0 4000000 = some true := by unfold amount_within.f; rw [if_pos (by omega), decide_eq_true (by omega)]
  have e2 : amount_within.f 1000 0 1000000000 = some true := by decide
  have e3 : amount_Valid.f w = some true := by unfold amount_Valid.f; rw [if_pos (by omega), decide_eq_true (by omega)]
  have e4 : wrap64 (Int.tdiv (wrap64 ((wrap64 ((wrap64 (w * 1000)) + 1000)) - 1)) 1000) = w := by
    rw [w64 (n := w * 1000) (by omega) (by omega), w64 (n := w * 1000 + 1000) (by omega) (by omega), w64 (n := w * 1000 + 1000 - 1) (by omega) (by omega)]
    have : Int.tdiv (w * 1000 + 1000 - 1) 1000 = w := by rw [Int.tdiv_eq_ediv_of_nonneg (by omega)]; omega
    rw [this, w64 (by omega) (by omega)]
  unfold amount_Fee.f
  rw [e1, e2]
  simp only [Option.bind_some, if_true, e4, amount_held.f, e3]
/-! ### Who is in the way -/
theorem oeq_refl (x : S34) : oeq x x = true := by simp [oeq]
/-- Rounds' batches: each spends one output of its own. -/
def bats (fees : List Int) (n : Nat) : List S39 := (List.range n).map fun j : Nat => bat [inp j] (rd fees j) 999
theorem bats_len (fees : List Int) (n : Nat) : (bats fees n).length = n := by simp [bats]
theorem bats_succ (fees : List Int) (n : Nat) : bats fees (n + 1) = bats fees n ++ [bat [inp n] (rd fees n) 999] := by simp [bats, List.range_succ]
theorem bats_at (fees : List Int) (n i : Nat) (h : i < n) : rd_T39 (bats fees n) i = bat [inp i] (rd fees i) 999 := by
  simp [rd_T39, bats, h]
theorem f2_at (fees : List Int) (n i : Nat) (h : i < n) : (rd_T39 (bats fees n) i).f2 = 999 := by rw [bats_at fees n i h]; rfl
theorem f1_at (fees : List Int) (n i : Nat) (h : i < n) : (rd_T39 (bats fees n) i).f1 = rd fees i := by rw [bats_at fees n i h]; rfl
theorem conflict_in (n i : Nat) (h : i < n) (x y : List S64) (a b : Int) : tx_Conflict.f [inp i] x a (ins n) y b = some true := by
  unfold tx_Conflict.f
  rw [List.any_cons, ← Go.Proofs.Ytiodebjjbgcbhaa.FindQ.firstOf_nonneg]
  have : ((ins n).any fun y => oeq y.f0 (inp i).f0) = true := List.any_eq_true.2 ⟨inp i, by simp [ins]; exact ⟨i, h, rfl⟩, oeq_refl _⟩
  rw [this]
  rfl
/-- All places. -/
def idx (n : Nat) : List Int := (List.range n).map fun j : Nat => (j : Int)
theorem idx_len (n : Nat) : (idx n).length = n := by simp [idx]
theorem idx_succ (n : Nat) : idx (n + 1) = idx n ++ [(n : Int)] := by simp [idx, List.range_succ]
theorem idx_at (n i : Nat) (h : i < n) : rd (idx n) i = i := by simp [rd, idx, h]
theorem conflicts_l (fees : List Int) (n : Nat) (hn : n ≤ 1000) (l : List S64) (a b c : Int) : ∀ m i k, i + m = n → m < k → replace_Conflicts.l0 k (idx i) (bats fees n) n i (ins n) l a b c = some (idx n) := by
  intro m
  induction m with
  | zero =>
    intro i k hi hk
    obtain ⟨k, rfl⟩ : ∃ j, k = j + 1 := ⟨k - 1, by omega⟩
    rw [replace_Conflicts.l0, if_neg (by omega), show i = n by omega]
  | succ m ih =>
    intro i k hi hk
    obtain ⟨k, rfl⟩ : ∃ j, k = j + 1 := ⟨k - 1, by omega⟩
    rw [replace_Conflicts.l0, if_pos (by omega), if_pos (by omega), if_pos (by rw [bats_len]; omega), bats_at fees n i (by omega)]
    simp only [bat]
    rw [conflict_in n i (by omega)]
    simp only [Option.bind_some, if_true]
    rw [if_pos (by rw [idx_len]; omega), w64 (n := (i : Int) + 1) (by omega) (by omega), ← idx_succ]
    exact ih (i + 1) k (by omega) (by omega)
theorem conflicts_f (fees : List Int) (n k : Nat) (hn : n ≤ 1000) (hk : n < k) (l : List S64) (a b c : Int) : replace_Conflicts.f k (bats fees n) (ins n) l a b c = some (idx n) := by
  unfold replace_Conflicts.f
  rw [bats_len]
  exact conflicts_l fees n hn l a b c n 0 k (by omega) hk
/-! ### May it come? -/
theorem may_l (fees : List Int) (n : Nat) (hn : n ≤ 20) (W : Int) (hf : ∀ x ∈ fees.take n, 0 ≤ x) (h0 : 0 ≤ W) (hs : W + (fees.take n).sum ≤ 2100000000000000) (hl : n ≤ fees.length) (l : List S64) (a f r : Int) (hr : 999 < r) :
    ∀ m i k, i + m = n → m + n + 10 < k → replace_May.l0 k (bats fees n) false (W :: fees.take i) (idx n) n i (ins n) l a f r = some (decide (f ≥ W + (fees.take n).sum)) := by
  intro m
  induction m with
  | zero =>
    intro i k hi hk
    obtain ⟨k, rfl⟩ : ∃ j, k = j + 1 := ⟨k - 1, by omega⟩
    obtain rfl : i = n := by omega
    rw [replace_May.l0, if_neg (by omega), total_f (W :: fees.take i) k (fun x hx => by rcases List.mem_cons.1 hx with rfl | hx; exact h0; exact hf x hx) (by rw [List.sum_cons]; exact hs) (by simp; omega) (by simp; omega)]
    simp only [Option.bind_some, if_true, List.sum_cons]
  | succ m ih =>
    intro i k hi hk
    obtain ⟨k, rfl⟩ : ∃ j, k = j + 1 := ⟨k - 1, by omega⟩
    rw [replace_May.l0, if_pos (by omega), if_pos (by omega), if_pos (by rw [idx_len]; omega), idx_at n i (by omega), if_pos (by omega), if_pos (by rw [bats_len]; omega), f2_at fees n i (by omega), f1_at fees n i (by omega), if_neg (by omega), if_pos (by simp; omega), w64 (n := (i : Int) + 1) (by omega) (by omega)]
    have e : W :: fees.take i ++ [rd fees i] = W :: fees.take (i + 1) := by
      rw [List.take_add_one, List.getElem?_eq_getElem (by omega)]
      simp [rd, List.getD, List.getElem?_eq_getElem (show i < fees.length by omega)]
    rw [e]
    exact ih (i + 1) k (by omega) (by omega)
theorem may_f (fees : List Int) (n k : Nat) (hn : n ≤ 20) (h1 : 0 < n) (hf : ∀ x ∈ fees.take n, 0 ≤ x) (hs : 40 + 164 * (n : Int) + (fees.take n).sum ≤ 2100000000000000) (hl : n ≤ fees.length) (hk : 100 ≤ k) (a f r : Int) :
    replace_May.f k (bats fees n) (ins n) [] a f r = some (decide (999 < r) && decide (f ≥ 40 + 164 * (n : Int) + (fees.take n).sum)) := by
  unfold replace_May.f
  rw [conflicts_f fees n k (by omega) (by omega), weight_f n k a (by omega) (by omega)]
  simp only [Option.bind_some]
  rw [fee_f _ (by omega) (by omega)]
  simp only [Option.bind_some, idx_len]
  rw [if_neg (by omega), if_neg (by omega)]
  obtain ⟨k, rfl⟩ : ∃ j, k = j + 2 := ⟨k - 2, by omega⟩
  rw [replace_May.j0, if_neg (by decide), idx_len]
  by_cases hr : 999 < r
  · rw [show ([40 + 164 * (n : Int)] : List Int) = (40 + 164 * (n : Int)) :: fees.take 0 by simp, show replace_May.l0 (k + 1) (bats fees n) false ((40 + 164 * (n : Int)) :: fees.take 0) (idx n) n 0 (ins n) [] a f r = _ from may_l fees n hn _ hf (by omega) hs hl _ _ _ _ hr n 0 (k + 1) (by omega) (by omega), decide_eq_true hr]
    rfl
  · have hb : (rd_T39 (bats fees n) 0).f2 = 999 := f2_at fees n 0 (by omega)
    have hi : rd (idx n) 0 = 0 := idx_at n 0 (by omega)
    rw [replace_May.l0, if_pos (by omega), if_pos (by omega), if_pos (by rw [idx_len]; omega), hi, if_pos (by omega), if_pos (by rw [bats_len]; omega), hb, if_pos (by omega), decide_eq_false hr]
    rfl
end Go.Proofs.Ytiodebjjbgcbhaa.RepL
