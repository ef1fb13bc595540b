import Derived.Test.YtiodebjjbgcbhaaGreatPurBatB
namespace Go.Proofs.YtiodebjjbgcbhaaGreat.Pure
open Go Go.RowKit Go.Proofs YtiodebjjbgcbhaaGreatW.PrintWords YtiodebjjbgcbhaaGreatW.PrintLast YtiodebjjbgcbhaaGreatW.PrintMore YtiodebjjbgcbhaaGreat Inp QLef LefL Hand
set_option linter.unusedVariables false
set_option linter.unusedSimpArgs false
theorem few_l (l : List S42) (hl : l.length < 1000000) : ∀ (d i : Nat), i + d = l.length → ∃ b : Bool, (∀ k, 2 * d + 2 ≤ k → coraclelaw17_few.l0 k l (i : Int) = some b) ∧ (b = true → l.length ≤ 40) := by
 intro d
 induction d with
 | zero =>
  intro i hd
  refine ⟨decide ((l.length : Int) ≤ 40), fun k hk => ?_, fun h => by have := of_decide_eq_true h; omega⟩
  obtain ⟨k, rfl⟩ : ∃ m, k = m + 2 := ⟨k - 2, by omega⟩
  rw [coraclelaw17_few.l0, if_neg (by omega), coraclelaw17_few.j1, if_neg (by decide)]
 | succ d ih =>
  intro i hd
  by_cases h60 : (i : Int) < 60
  ·by_cases hs : (((rd_T42 l (i : Int)).f2.f0.f2).size : Int) > 100
   ·refine ⟨false, fun k hk => ?_, fun h => by cases h⟩
    obtain ⟨k, rfl⟩ : ∃ m, k = m + 2 := ⟨k - 2, by omega⟩
    rw [coraclelaw17_few.l0, if_pos (by omega), decide_eq_true h60, coraclelaw17_few.j1, if_pos rfl, if_pos (by omega), if_pos (by omega), if_pos hs]
   ·obtain ⟨b, h1, h2⟩ := ih (i + 1) (by omega)
    refine ⟨b, fun k hk => ?_, h2⟩
    obtain ⟨k, rfl⟩ : ∃ m, k = m + 2 := ⟨k - 2, by omega⟩
    rw [coraclelaw17_few.l0, if_pos (by omega), decide_eq_true h60, coraclelaw17_few.j1, if_pos rfl, if_pos (by omega), if_pos (by omega), if_neg hs, w64' (by omega) (by omega)]
    exact h1 k (by omega)
  ·refine ⟨decide ((l.length : Int) ≤ 40), fun k hk => ?_, fun h => by have := of_decide_eq_true h; omega⟩
   obtain ⟨k, rfl⟩ : ∃ m, k = m + 2 := ⟨k - 2, by omega⟩
   rw [coraclelaw17_few.l0, if_pos (by omega), decide_eq_false h60, coraclelaw17_few.j1, if_neg (by decide)]
theorem few_f (l : List S42) : ∃ b : Bool, (∃ k0, ∀ k, k0 ≤ k → coraclelaw17_few.f k l = some b) ∧ (b = true → l.length ≤ 40) := by
 by_cases hl : l.length < 1000000
 ·obtain ⟨b, h1, h2⟩ := few_l l hl l.length 0 (by omega)
  exact ⟨b, ⟨2 * l.length + 2, fun k hk => h1 k hk⟩, h2⟩
 ·-- the first sixty tell
  have key : ∀ (d i : Nat), i + d = 60 → ∃ b : Bool, (∀ k, 2 * d + 2 ≤ k → coraclelaw17_few.l0 k l (i : Int) = some b) ∧ (b = true → l.length ≤ 40) := by
   intro d
   induction d with
   | zero =>
    intro i hd
    refine ⟨decide ((l.length : Int) ≤ 40), fun k hk => ?_, fun h => by have := of_decide_eq_true h; omega⟩
    obtain ⟨k, rfl⟩ : ∃ m, k = m + 2 := ⟨k - 2, by omega⟩
    rw [coraclelaw17_few.l0, if_pos (by omega), decide_eq_false (by omega), coraclelaw17_few.j1, if_neg (by decide)]
   | succ d ih =>
    intro i hd
    by_cases hs : (((rd_T42 l (i : Int)).f2.f0.f2).size : Int) > 100
    ·refine ⟨false, fun k hk => ?_, fun h => by cases h⟩
     obtain ⟨k, rfl⟩ : ∃ m, k = m + 2 := ⟨k - 2, by omega⟩
     rw [coraclelaw17_few.l0, if_pos (by omega), decide_eq_true (by omega), coraclelaw17_few.j1, if_pos rfl, if_pos (by omega), if_pos (by omega), if_pos hs]
    ·obtain ⟨b, h1, h2⟩ := ih (i + 1) (by omega)
     refine ⟨b, fun k hk => ?_, h2⟩
     obtain ⟨k, rfl⟩ : ∃ m, k = m + 2 := ⟨k - 2, by omega⟩
     rw [coraclelaw17_few.l0, if_pos (by omega), decide_eq_true (by omega), coraclelaw17_few.j1, if_pos rfl, if_pos (by omega), if_pos (by omega), if_neg hs, w64' (by omega) (by omega)]
     exact h1 k (by omega)
  obtain ⟨b, h1, h2⟩ := key 60 0 (by omega)
  exact ⟨b, ⟨122, fun k hk => h1 k (by omega)⟩, h2⟩
end Go.Proofs.YtiodebjjbgcbhaaGreat.Pure
