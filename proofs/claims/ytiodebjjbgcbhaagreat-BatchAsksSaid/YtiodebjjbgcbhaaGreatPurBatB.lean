import Derived.Test.YtiodebjjbgcbhaaGreatInpV
namespace Go.Proofs.YtiodebjjbgcbhaaGreat.Pure
open Go Go.RowKit Go.Proofs YtiodebjjbgcbhaaGreatW.PrintWords YtiodebjjbgcbhaaGreatW.PrintLast YtiodebjjbgcbhaaGreatW.PrintMore YtiodebjjbgcbhaaGreat Inp QLef LefL Hand
set_option linter.unusedVariables false
set_option linter.unusedSimpArgs false
theorem rd68 (l : List S42) (i : Nat) (h : i < l.length) : rd_T42 l (i : Int) = l[i] := by
 unfold rd_T42
 rw [Int.toNat_natCast, List.getD_eq_getElem?_getD, List.getElem?_eq_getElem h]
 rfl
theorem mades_l (l : List S42) (hl : l.length < 1000000) : ∀ (d k i : Nat) (acc : List S38), i + d = l.length → acc.length = i → d < k → coraclelaw17_mades.l0 k l acc (i : Int) = some (acc ++ (l.drop i).map to90) := by
 intro d
 induction d with
 | zero =>
  intro k i acc hd ha hk
  obtain ⟨k, rfl⟩ : ∃ m, k = m + 1 := ⟨k - 1, by omega⟩
  unfold coraclelaw17_mades.l0
  rw [if_neg (by omega), List.drop_of_length_le (by omega)]
  simp
 | succ d ih =>
  intro k i acc hd ha hk
  obtain ⟨k, rfl⟩ : ∃ m, k = m + 1 := ⟨k - 1, by omega⟩
  have hi : i < l.length := by omega
  unfold coraclelaw17_mades.l0
  rw [if_pos (by omega), if_pos (by omega)]
  show (if acc.length < 1034834473200 then coraclelaw17_mades.l0 k l (acc ++ [to90 (rd_T42 l (i : Int))]) (wrap64 ((i : Int) + 1)) else none) = _
  rw [if_pos (by omega), w64' (by omega) (by omega), show ((i : Int) + 1) = ((i + 1 : Nat) : Int) by omega, ih k (i + 1) _ (by omega) (by simp [ha]) (by omega), rd68 l i hi, List.drop_eq_getElem_cons hi, lc_, List.append_assoc]
  rfl
theorem mades_f (l : List S42) (hl : l.length < 1000000) (k : Nat) (hk : l.length < k) : coraclelaw17_mades.f k l = some (l.map to90) := by
 unfold coraclelaw17_mades.f
 have h := mades_l l hl l.length k 0 [] (by omega) rfl hk
 simpa using h
end Go.Proofs.YtiodebjjbgcbhaaGreat.Pure
