/- What few comes to; points told apart. -/
import Derived.Test.YtiodebjjbgcbhaaPurBatB
import Derived.Test.YtiodebjjbgcbhaaPurBatC
namespace Go.Proofs.Ytiodebjjbgcbhaa.Pure
open Go Go.RowKit Go.Proofs.Ytiodebjjbgcbhaa.Inp Go.Proofs.Ytiodebjjbgcbhaa.QLef Go.Proofs.Ytiodebjjbgcbhaa.LefL Go.Proofs.Ytiodebjjbgcbhaa.Hand Go.Proofs.YtiodebjjbgcbhaaW.PrintWords Go.Proofs.YtiodebjjbgcbhaaW.PrintLast Go.Proofs.YtiodebjjbgcbhaaW.PrintMore
set_option linter.unusedVariables false
set_option linter.unusedSimpArgs false
theorem few_l (l : List S68) (hl : l.length < 1000000) : ∀ (d i : Nat), i + d = l.length → ∃ b : Bool, (∀ k, 2 * d + 2 ≤ k → coraclelaw17_few.l0 k l (i : Int) = some b) ∧ (b = true → l.length ≤ 40) := by
 intro d
 induction d with
 | zero =>
  intro i hd
  refine ⟨decide ((l.length : Int) ≤ 40), fun k hk => ?_, fun h => by have := of_decide_eq_true h; omega⟩
  obtain ⟨k, rfl⟩ : ∃ m, k = m + 2 := ⟨k - 2, by omega⟩
  rw [coraclelaw17_few.l0, if_neg (by omega), coraclelaw17_few.j1, if_neg (by decide)]
 | succ d ih =>
  intro i hd
  by_cases h60 : (i : Int) < 60
  ·by_cases hs : (((rd_T68 l (i : Int)).f2.f0.f2).size : Int) > 100
   ·refine ⟨false, fun k hk => ?_, fun h => by cases h⟩
    obtain ⟨k, rfl⟩ : ∃ m, k = m + 2 := ⟨k - 2, by omega⟩
    rw [coraclelaw17_few.l0, if_pos (by omega), decide_eq_true h60, coraclelaw17_few.j1, if_pos rfl, if_pos (by omega), if_pos (by omega), if_pos hs]
   ·obtain ⟨b, h1, h2⟩ := ih (i + 1) (by omega)
    refine ⟨b, fun k hk => ?_, h2⟩
    obtain ⟨k, rfl⟩ : ∃ m, k = m + 2 := ⟨k - 2, by omega⟩
    rw [coraclelaw17_few.l0, if_pos (by omega), decide_eq_true h60, coraclelaw17_few.j1, if_pos rfl, if_pos (by omega), if_pos (by omega), if_neg hs, w64' (by omega) (by omega)]
    exact h1 k (by omega)
  ·refine ⟨decide ((l.length : Int) ≤ 40), fun k hk => ?_, fun h => by have := of_decide_eq_true h; omega⟩
   obtain ⟨k, rfl⟩ : ∃ m, k = m + 2 := ⟨k - 2, by omega⟩
   rw [coraclelaw17_few.l0, if_pos (by omega), decide_eq_false h60, coraclelaw17_few.j1, if_neg (by decide)]
/-- few: one answer, with enough rounds; a great row is not looked at. -/
theorem few_f (l : List S68) : ∃ b : Bool, (∃ k0, ∀ k, k0 ≤ k → coraclelaw17_few.f k l = some b) ∧ (b = true → l.length ≤ 40) := by
 by_cases hl : l.length < 1000000
 ·obtain ⟨b, h1, h2⟩ := few_l l hl l.length 0 (by omega)
  exact ⟨b, ⟨2 * l.length + 2, fun k hk => h1 k hk⟩, h2⟩
 ·-- the first sixty tell
  have key : ∀ (d i : Nat), i + d = 60 → ∃ b : Bool, (∀ k, 2 * d + 2 ≤ k → coraclelaw17_few.l0 k l (i : Int) = some b) ∧ (b = true → l.length ≤ 40) := by
   intro d
   induction d with
   | zero =>
    intro i hd
    refine ⟨decide ((l.length : Int) ≤ 40), fun k hk => ?_, fun h => by have := of_decide_eq_true h; omega⟩
    obtain ⟨k, rfl⟩ : ∃ m, k = m + 2 := ⟨k - 2, by omega⟩
    rw [coraclelaw17_few.l0, if_pos (by omega), decide_eq_false (by omega), coraclelaw17_few.j1, if_neg (by decide)]
   | succ d ih =>
    intro i hd
    by_cases hs : (((rd_T68 l (i : Int)).f2.f0.f2).size : Int) > 100
    ·refine ⟨false, fun k hk => ?_, fun h => by cases h⟩
     obtain ⟨k, rfl⟩ : ∃ m, k = m + 2 := ⟨k - 2, by omega⟩
     rw [coraclelaw17_few.l0, if_pos (by omega), decide_eq_true (by omega), coraclelaw17_few.j1, if_pos rfl, if_pos (by omega), if_pos (by omega), if_pos hs]
    ·obtain ⟨b, h1, h2⟩ := ih (i + 1) (by omega)
     refine ⟨b, fun k hk => ?_, h2⟩
     obtain ⟨k, rfl⟩ : ∃ m, k = m + 2 := ⟨k - 2, by omega⟩
     rw [coraclelaw17_few.l0, if_pos (by omega), decide_eq_true (by omega), coraclelaw17_few.j1, if_pos rfl, if_pos (by omega), if_pos (by omega), if_neg hs, w64' (by omega) (by omega)]
     exact h1 k (by omega)
  obtain ⟨b, h1, h2⟩ := key 60 0 (by omega)
  exact ⟨b, ⟨122, fun k hk => h1 k (by omega)⟩, h2⟩
theorem oeq_iff (x y : S34) : oeq x y = true ↔ x = y := by
 constructor
 ·intro h
  unfold oeq at h
  simp only [Bool.and_eq_true, beq_iff_eq] at h
  obtain ⟨⟨h0, h1, h2, h3, h4, h5, h6, h7, h8, h9, h10, h11, h12, h13, h14, h15, h16, h17, h18, h19, h20, h21, h22, h23, h24, h25, h26, h27, h28, h29, h30, h31⟩, hn⟩ := h
  obtain ⟨⟨x0, x1, x2, x3, x4, x5, x6, x7, x8, x9, x10, x11, x12, x13, x14, x15, x16, x17, x18, x19, x20, x21, x22, x23, x24, x25, x26, x27, x28, x29, x30, x31⟩, n⟩ := x
  obtain ⟨⟨y0, y1, y2, y3, y4, y5, y6, y7, y8, y9, y10, y11, y12, y13, y14, y15, y16, y17, y18, y19, y20, y21, y22, y23, y24, y25, y26, y27, y28, y29, y30, y31⟩, m⟩ := y
  simp only [] at h0 h1 h2 h3 h4 h5 h6 h7 h8 h9 h10 h11 h12 h13 h14 h15 h16 h17 h18 h19 h20 h21 h22 h23 h24 h25 h26 h27 h28 h29 h30 h31 hn
  subst h0 h1 h2 h3 h4 h5 h6 h7 h8 h9 h10 h11 h12 h13 h14 h15 h16 h17 h18 h19 h20 h21 h22 h23 h24 h25 h26 h27 h28 h29 h30 h31 hn
  rfl
 ·intro h
  subst h
  simp [oeq]
end Go.Proofs.Ytiodebjjbgcbhaa.Pure
