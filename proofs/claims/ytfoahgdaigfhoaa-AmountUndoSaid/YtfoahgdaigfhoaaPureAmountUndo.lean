/- AmountUndo: what was added is taken away again; a total is the total of its parts' totals: the pure statement, for every input. -/
import Derived.Test.YtfoahgdaigfhoaaAmtL
namespace Go.Proofs.Ytfoahgdaigfhoaa.Pure
open Go.RowKit Go.Proofs.Ytfoahgdaigfhoaa.QAmt Go.Proofs.YtfoahgdaigfhoaaW.PrintWords Go.Proofs.YtfoahgdaigfhoaaW.PrintLast
def sumL : List Int → Int
  | [] => 0
  | a :: r => a + sumL r
theorem sumL_append (x y : List Int) : sumL (x ++ y) = sumL x + sumL y := by
  induction x with
  | nil => simp [sumL]
  | cons a r ih => simp [sumL, ih]; omega
theorem sumL_pos (x : List Int) (h : x.all okA = true) : 0 ≤ sumL x := by
  induction x with
  | nil => simp [sumL]
  | cons a r ih =>
    simp only [List.all_cons, Bool.and_eq_true] at h
    have := ih h.2
    have := okA_true.1 h.1
    simp only [sumL]; omega
theorem tot_char (l : List Int) : ∀ s, okA s = true → totS s l = if l.all okA = true ∧ s + sumL l ≤ 2100000000000000 then (s + sumL l, 0) else (0, 11) := by
  induction l with
  | nil =>
    intro s hs
    have := okA_true.1 hs
    simp only [totS, sumL, List.all_nil]
    rw [if_pos ⟨trivial, by omega⟩]; simp
  | cons a r ih =>
    intro s hs
    have hs' := okA_true.1 hs
    simp only [totS, sumL, List.all_cons, Bool.and_eq_true]
    rcases addS_cases s a with ⟨_, ha, hc, e⟩ | ⟨hn, e⟩
    · rw [e]
      have := okA_true.1 ha
      have := okA_true.1 hc
      rw [if_pos rfl, ih _ hc]
      by_cases hr : r.all okA = true ∧ s + a + sumL r ≤ 2100000000000000
      · rw [if_pos hr, if_pos ⟨⟨ha, hr.1⟩, by omega⟩]; congr 1; omega
      · rw [if_neg hr, if_neg (fun h => hr ⟨h.1.2, by omega⟩)]
    · rw [e, if_neg (by decide), if_neg]
      rintro ⟨⟨ha, hr⟩, hle⟩
      have := okA_true.1 ha
      have := sumL_pos r hr
      have : okA (s + a) = true := okA_true.2 (by omega)
      rcases hn with h | h | h <;> simp_all
theorem place_bound {n : Nat} {at_ : Int} (hn : n ≤ 50) :
    ∃ p : Nat, p ≤ n ∧ Int.tmod (wrap64 ((wrap64 ((Int.tmod at_ (wrap64 ((n : Int) + 1))) + (n : Int))) + 1)) (wrap64 ((n : Int) + 1)) = (p : Int) := by
  rw [w64 (n := (n : Int) + 1) (by omega) (by omega)]
  have hr : -(n : Int) ≤ Int.tmod at_ ((n : Int) + 1) ∧ Int.tmod at_ ((n : Int) + 1) ≤ n := by
    have a := Int.tmod_lt_of_pos at_ (show 0 < (n : Int) + 1 by omega)
    have b := Int.lt_tmod_of_pos at_ (show 0 < (n : Int) + 1 by omega)
    omega
  generalize Int.tmod at_ ((n : Int) + 1) = t at *
  rw [w64 (n := t + n) (by omega) (by omega), w64 (n := t + n + 1) (by omega) (by omega), Int.tmod_eq_emod_of_nonneg (by omega)]
  have a := Int.emod_nonneg (t + n + 1) (show (n : Int) + 1 ≠ 0 by omega)
  have b := Int.emod_lt_of_pos (t + n + 1) (show 0 < (n : Int) + 1 by omega)
  exact ⟨((t + n + 1) % ((n : Int) + 1)).toNat, by omega, by omega⟩
theorem undo_j1 (l : List Int) (p m : Nat) (hm : 2 ≤ m) : coraclelaw4_AmountUndo.j1 m (totS 0 (l.take p)).1 (totS 0 (l.drop p)).1 (totS 0 l).1 (totS 0 l).2 (if (totS 0 (l.take p)).2 = 0 then ((totS 0 (l.drop p)).2 != 0) else true) = some true := by
  obtain ⟨m, rfl⟩ : ∃ q, m = q + 2 := ⟨m - 2, by omega⟩
  simp only [coraclelaw4_AmountUndo.j1]
  rw [awake_f, add_f]
  have hz : okA 0 = true := by decide
  have e : l = l.take p ++ l.drop p := (List.take_append_drop p l).symm
  have eall : l.all okA = ((l.take p).all okA && (l.drop p).all okA) := by rw [← List.all_append, ← e]
  have esum : sumL l = sumL (l.take p) + sumL (l.drop p) := by rw [← sumL_append, ← e]
  rw [tot_char l 0 hz, tot_char (l.take p) 0 hz, tot_char (l.drop p) 0 hz, eall, esum]
  generalize l.take p = x
  generalize l.drop p = y
  by_cases hx : x.all okA = true
  · have px := sumL_pos x hx
    by_cases hy : y.all okA = true
    · have py := sumL_pos y hy
      simp only [hx, hy, Bool.and_self, true_and, Int.zero_add]
      by_cases h1 : sumL x ≤ 2100000000000000
      · by_cases h2 : sumL y ≤ 2100000000000000
        · rw [if_pos h1, if_pos h2]
          rcases addS_cases (sumL x) (sumL y) with ⟨_, _, hc, ea⟩ | ⟨hn, ea⟩
          · have := okA_true.1 hc
            simp [ea, this]
          · have : ¬ sumL x + sumL y ≤ 2100000000000000 := by
              intro h
              have : okA (sumL x) = true := okA_true.2 (by omega)
              have : okA (sumL y) = true := okA_true.2 (by omega)
              have : okA (sumL x + sumL y) = true := okA_true.2 (by omega)
              rcases hn with h | h | h <;> simp_all
            simp [ea, this]
        · have : ¬ sumL x + sumL y ≤ 2100000000000000 := by omega
          simp [h1, h2, this]
      · have : ¬ sumL x + sumL y ≤ 2100000000000000 := by omega
        simp [h1, this]
    · simp only [hx, hy, Bool.true_and, true_and]
      split <;> simp
  · simp [hx]
theorem undo_j0 (l : List Int) (at_ : Int) (m : Nat) (hl : l.length ≤ 50) (hm : 60 ≤ m) : coraclelaw4_AmountUndo.j0 m l at_ = some true := by
  obtain ⟨m, rfl⟩ : ∃ q, m = q + 1 := ⟨m - 1, by omega⟩
  obtain ⟨p, hp, e⟩ := place_bound (at_ := at_) hl
  simp only [coraclelaw4_AmountUndo.j0]
  rw [e, w64 (n := (l.length : Int) + 1) (by omega) (by omega), if_neg (by omega), if_pos (by omega), if_pos (by omega), Int.toNat_natCast]
  rw [total_f (l.take p) (by simp; omega) m (by simp; omega), total_f (l.drop p) (by simp; omega) m (by simp; omega), total_f l (by omega) m (by omega)]
  simp only [Option.bind_some]
  have := undo_j1 l p m (by omega)
  by_cases c : (totS 0 (l.take p)).2 = 0
  · rw [if_pos c] at this ⊢; exact this
  · rw [if_neg c] at this ⊢; exact this
theorem AmountUndo : coraclelaw4_AmountUndo.Pure := by
  intro a b l at_ _ _ _ _ _ _
  refine ⟨100, ?_⟩
  unfold coraclelaw4_AmountUndo.f
  rw [awake_f, add_f, add_f]
  simp only [Option.bind_some]
  by_cases h : (l.length : Int) > 50
  · rw [if_pos h]
  · rw [if_neg h]
    have hj := undo_j0 l at_ 100 (by omega) (by omega)
    rw [hj]
    rcases addS_cases a b with ⟨ha, hb, hc, e⟩ | ⟨_, e⟩
    · rw [e]
      simp only []
      rw [sub_f]
      have e2 : subS (a + b) b = (a, 0) := by
        rcases subS_cases (a + b) b with ⟨_, _, _, e⟩ | ⟨hn, _⟩
        · rw [e]; congr 1; omega
        · have : okA (a + b - b) = true := by rw [show a + b - b = a by omega]; exact ha
          rcases hn with h | h | h <;> simp_all
      have e3 : addS b a = (a + b, 0) := by
        rcases addS_cases b a with ⟨_, _, _, e⟩ | ⟨hn, _⟩
        · rw [e]; congr 1; omega
        · have : okA (b + a) = true := by rw [show b + a = a + b by omega]; exact hc
          rcases hn with h | h | h <;> simp_all
      simp [e2, e3]
    · rw [e]; simp
end Go.Proofs.Ytfoahgdaigfhoaa.Pure
