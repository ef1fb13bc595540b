import Derived.Shelf.SlSortCmp.InsertionK
import Derived.Test.YtiodebjjbgcbhaaGreatOrdO
namespace Go.Proofs.YtiodebjjbgcbhaaGreat.SortO
open Go.RowKit Go.Sort Go.Shelf Go.Lib Go.Proofs YtiodebjjbgcbhaaGreatW.PrintWords YtiodebjjbgcbhaaGreat RowK OrdO
theorem cmp3_flip (x y : Int) : cmp3 y x = - cmp3 x y := by unfold cmp3; repeat' split <;> omega
theorem cmp3_zero {x y : Int} (h : cmp3 x y = 0) : x = y := by
 unfold cmp3 at h
 by_cases a : x < y
 ·rw [if_pos a] at h; omega
 ·rw [if_neg a] at h
  by_cases b : y < x
  ·rw [if_pos b] at h; omega
  ·omega
theorem cmp3_self (x : Int) : cmp3 x x = 0 := by unfold cmp3; rw [if_neg (by omega), if_neg (by omega)]
theorem cmp3_neg {x y : Int} : cmp3 x y < 0 ↔ x < y := by
 unfold cmp3
 by_cases a : x < y
 ·rw [if_pos a]; exact ⟨fun _ => a, fun _ => by omega⟩
 ·rw [if_neg a]
  by_cases b : y < x
  ·rw [if_pos b]; omega
  ·rw [if_neg b]; omega
theorem lcmp_flip : ∀ xs ys : List Int, lcmp ys xs = - lcmp xs ys
 | [], [] => rfl
 | [], _ :: _ => rfl
 | _ :: _, [] => rfl
 | x :: xs, y :: ys => by
  simp only [lcmp, cmp3_flip x y]
  by_cases h : cmp3 x y = 0
  ·rw [if_pos (by omega), if_pos h]; exact lcmp_flip xs ys
  ·rw [if_neg (by omega), if_neg h]
theorem lcmp_zero : ∀ {xs ys : List Int}, lcmp xs ys = 0 → xs = ys
 | [], [], _ => rfl
 | [], _ :: _, h => by simp [lcmp] at h
 | _ :: _, [], h => by simp [lcmp] at h
 | x :: xs, y :: ys, h => by
  simp only [lcmp] at h
  by_cases hz : cmp3 x y = 0
  ·rw [if_pos hz] at h; rw [cmp3_zero hz, lcmp_zero h]
  ·rw [if_neg hz] at h; exact absurd h hz
theorem lcmp_self : ∀ xs : List Int, lcmp xs xs = 0
 | [] => rfl
 | x :: xs => by simp only [lcmp, cmp3_self, if_true]; exact lcmp_self xs
theorem lcmp_trans : ∀ {xs ys zs : List Int}, lcmp xs ys < 0 → lcmp ys zs < 0 → lcmp xs zs < 0
 | [], [], _, h, _ => by simp [lcmp] at h
 | _ :: _, [], _, h, _ => by simp [lcmp] at h
 | [], _ :: _, [], _, h => by simp [lcmp] at h
 | [], _ :: _, _ :: _, _, _ => by simp [lcmp]
 | _ :: _, _ :: _, [], _, h => by simp [lcmp] at h
 | x :: xs, y :: ys, z :: zs, h1, h2 => by
  simp only [lcmp] at *
  by_cases a : cmp3 x y = 0
  ·rw [if_pos a] at h1
   by_cases b : cmp3 y z = 0
   ·rw [if_pos b] at h2
    rw [cmp3_zero a, b, if_pos rfl]
    exact lcmp_trans h1 h2
   ·rw [if_neg b] at h2
    rw [cmp3_zero a, if_neg b]; exact h2
  ·rw [if_neg a] at h1
   by_cases b : cmp3 y z = 0
   ·rw [← cmp3_zero b, if_neg a]; exact h1
   ·rw [if_neg b] at h2
    have h3 : cmp3 x z < 0 := cmp3_neg.2 (by have := cmp3_neg.1 h1; have := cmp3_neg.1 h2; omega)
    rw [if_neg (by omega)]; exact h3
section
variable {α : Type} (bs : α → List Int) (nn : α → Int)
theorem ocmp_flip (x y : α) : ocmp bs nn y x = - ocmp bs nn x y := by
 unfold ocmp
 rw [lcmp_flip (bs x) (bs y), cmp3_flip (nn x) (nn y)]
 by_cases h : lcmp (bs x) (bs y) = 0
 ·rw [if_pos (by omega), if_pos h]
 ·rw [if_neg (by omega), if_neg h]
theorem ocmp_zero {x y : α} (h : ocmp bs nn x y = 0) : bs x = bs y ∧ nn x = nn y := by
 unfold ocmp at h
 by_cases hz : lcmp (bs x) (bs y) = 0
 ·rw [if_pos hz] at h; exact ⟨lcmp_zero hz, cmp3_zero h⟩
 ·rw [if_neg hz] at h; exact absurd h hz
theorem ocmp_trans {x y z : α} (h1 : ocmp bs nn x y < 0) (h2 : ocmp bs nn y z < 0) : ocmp bs nn x z < 0 := by
 unfold ocmp at *
 by_cases a : lcmp (bs x) (bs y) = 0
 ·rw [if_pos a] at h1
  by_cases b : lcmp (bs y) (bs z) = 0
  ·rw [if_pos b] at h2
   rw [lcmp_zero a, b, if_pos rfl]
   exact cmp3_neg.2 (by have := cmp3_neg.1 h1; have := cmp3_neg.1 h2; omega)
  ·rw [if_neg b] at h2
   rw [lcmp_zero a, if_neg b]; exact h2
 ·rw [if_neg a] at h1
  by_cases b : lcmp (bs y) (bs z) = 0
  ·rw [← lcmp_zero b, if_neg a]; exact h1
  ·rw [if_neg b] at h2
   have := lcmp_trans h1 h2
   rw [if_neg (by omega)]; exact this
end
section
variable {α : Type} [Inhabited α] {enc : α → List Value}
omit [Inhabited α] in
theorem flat_len (k : Nat) (hk : ∀ x, (enc x).length = k) : ∀ zs : List α, (zs.flatMap enc).length = zs.length * k
 | [] => by simp
 | x :: xs => by rw [List.flatMap_cons, List.length_append, hk, flat_len k hk xs, List.length_cons, Nat.add_mul, Nat.one_mul, Nat.add_comm]
end
end Go.Proofs.YtiodebjjbgcbhaaGreat.SortO
