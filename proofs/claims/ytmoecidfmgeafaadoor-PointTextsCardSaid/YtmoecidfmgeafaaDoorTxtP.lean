/- What the program and the document read of a text is one: plain Lean, no program in sight. -/
import Derived.Test.YtmoecidfmgeafaaDoorTxtH
namespace Go.Proofs.YtmoecidfmgeafaaDoor.Txt
open Go.RowKit Go.Proofs.YtmoecidfmgeafaaDoor.QPnt Go.Proofs.YtmoecidfmgeafaaDoorW.PrintWords Go.Proofs.YtmoecidfmgeafaaDoorW.PrintLast Go.Proofs.YtmoecidfmgeafaaDoorW.PrintMore
set_option linter.unusedVariables false
/-! ### Digits -/
theorem dg16 (n : Nat) (h : n < 16) : nib (dg (n : Int)) = (n : Int) ∧ dg (n : Int) ≠ 58 := by
  have hh : ∀ n : Fin 16, nib (dg ((n.val : Nat) : Int)) = ((n.val : Nat) : Int) ∧ dg ((n.val : Nat) : Int) ≠ 58 := by decide +kernel
  exact hh ⟨n, h⟩
theorem dgv (v : Int) (h0 : 0 ≤ v) (h1 : v < 16) : nib (dg v) = v ∧ dg v ≠ 58 := by
  obtain ⟨n, rfl⟩ := Int.eq_ofNat_of_zero_le h0
  exact dg16 n (by omega)
theorem two_at : ∀ (l : List Int) (j : Nat) (h : j < l.length), (l.flatMap two)[2 * j]? = some (dg (l[j] / 16)) ∧ (l.flatMap two)[2 * j + 1]? = some (dg (l[j] % 16))
  | [], _, h => by simp at h
  | a :: l, 0, _ => by simp [two]
  | a :: l, j + 1, h => by
    have ih := two_at l j (by simpa using h)
    have e1 : 2 * (j + 1) = 2 * j + 2 := by omega
    have e2 : 2 * (j + 1) + 1 = 2 * j + 1 + 2 := by omega
    rw [List.flatMap_cons, e2, e1]
    have hl : (two a).length = 2 := rfl
    rw [List.getElem?_append_right (by omega), List.getElem?_append_right (by omega), hl]
    exact ih
theorem htext_at (hs : List Int) (hl : hs.length = 32) (k : Nat) (hk : k < 32) : (htext hs).getD (2 * (31 - k)) 0 = dg (hs[k] / 16) ∧ (htext hs).getD (2 * (31 - k) + 1) 0 = dg (hs[k] % 16) := by
  have hj : 31 - k < hs.reverse.length := by rw [List.length_reverse, hl]; omega
  obtain ⟨h1, h2⟩ := two_at hs.reverse (31 - k) hj
  have e : hs.reverse[31 - k]'hj = hs[k] := by
    rw [List.getElem_reverse]
    congr 1
    omega
  rw [e] at h1 h2
  unfold htext
  rw [List.getD_eq_getElem?_getD, List.getD_eq_getElem?_getD, h1, h2]
  exact ⟨rfl, rfl⟩
theorem hparse_text (hs : List Int) (hl : hs.length = 32) (hb : ∀ v ∈ hs, 0 ≤ v ∧ v < 256) : hparse (htext hs) = (hs, true) := by
  have hlen : (htext hs).length = 64 := by rw [htext_len, hl]
  have at_ : ∀ k (hk : k < 32), nib ((htext hs).getD (2 * (31 - k)) 0) = hs[k] / 16 ∧ nib ((htext hs).getD (2 * (31 - k) + 1) 0) = hs[k] % 16 := fun k hk => by
    obtain ⟨h1, h2⟩ := htext_at hs hl k hk
    obtain ⟨b0, b1⟩ := hb hs[k] (List.getElem_mem _)
    rw [h1, h2]
    exact ⟨(dgv _ (by omega) (by omega)).1, (dgv _ (by omega) (by omega)).1⟩
  have hg : good (htext hs) 64 := fun j hj => by
    obtain ⟨h1, h2⟩ := at_ (31 - j / 2) (by omega)
    obtain ⟨b0, b1⟩ := hb (hs[31 - j / 2]'(by omega)) (List.getElem_mem _)
    have e : 31 - (31 - j / 2) = j / 2 := by omega
    rw [e] at h1 h2
    by_cases ev : j % 2 = 0
    · rw [show 2 * (j / 2) = j by omega] at h1
      omega
    · rw [show 2 * (j / 2) + 1 = j by omega] at h2
      omega
  unfold hparse
  rw [if_pos ⟨hlen, hg⟩]
  congr 1
  apply List.ext_getElem
  · rw [part_len, hl]
  · intro k h1 h2
    have hk : k < 32 := by rw [part_len] at h1; exact h1
    obtain ⟨a1, a2⟩ := at_ k hk
    rw [part_get _ 64 k hk, if_pos (by omega), a1, a2]
    omega
/-! ### The ':' -/
theorem two_58 (v : Int) (h0 : 0 ≤ v) (h1 : v < 256) : ∀ c ∈ two v, c ≠ 58 := by
  intro c hc
  unfold two at hc
  rcases List.mem_cons.1 hc with rfl | hc
  · exact (dgv _ (by omega) (by omega)).2
  · rcases List.mem_cons.1 hc with rfl | hc
    · exact (dgv _ (by omega) (by omega)).2
    · cases hc
theorem htext_58 (hs : List Int) (hb : ∀ v ∈ hs, 0 ≤ v ∧ v < 256) : ∀ c ∈ htext hs, c ≠ 58 := by
  intro c hc
  unfold htext at hc
  obtain ⟨v, hv, hc⟩ := List.mem_flatMap.1 hc
  obtain ⟨h0, h1⟩ := hb v (List.mem_reverse.1 hv)
  exact two_58 v h0 h1 c hc
theorem idx_at (d : List UInt8) : ∀ l : List UInt8, (∀ c ∈ l, c ≠ 58) → Lib.indexByte (l ++ 58 :: d) 58 = (l.length : Int)
  | [], _ => by
    rw [List.nil_append]
    unfold Lib.indexByte
    rfl
  | b :: l, h => by
    have ih := idx_at d l (fun c hc => h c (List.mem_cons_of_mem _ hc))
    have hb : (b == 58) = false := beq_eq_false_iff_ne.mpr (h b List.mem_cons_self)
    rw [List.cons_append]
    unfold Lib.indexByte
    rw [hb, ih]
    have : (((l.length : Nat) : Int) == -1) = false := beq_eq_false_iff_ne.mpr (by omega)
    rw [this]
    simp
/-! ### Texts of outpoints -/
def okN (x : S25) : Prop := 0 ≤ x.f1 ∧ x.f1 ≤ 99
theorem pt_in {x : S25} (h : okN x) : (pt x).data.toList = htext (bsO x) ++ 58 :: Lib.decDigits x.f1.toNat := by
  unfold pt
  rw [if_neg (by have := h.1; omega), if_neg (by have := h.2; omega), ByteArray.data_append, ByteArray.data_append, Array.toList_append, Array.toList_append]
  show (htext (bsO x)).toArray.toList ++ [58] ++ (Lib.decDigits x.f1.toNat).toArray.toList = _
  rw [List.toList_toArray, List.toList_toArray, List.append_assoc]
  rfl
theorem pt_out {x : S25} (h : ¬ okN x) : pt x = ⟨#[]⟩ := by
  unfold pt okN at *
  by_cases h0 : x.f1 < 0
  · rw [if_pos h0]
  · rw [if_neg h0, if_pos (by omega)]
theorem dec_facts (n : Nat) (h : n < 100) : 1 ≤ (Lib.decDigits n).length ∧ (Lib.decDigits n).length ≤ 2 ∧ Lib.atoiAll (Lib.decDigits n) = .ok (n : Int) ∧ numF (Lib.decDigits n) = (n : Int) := by
  have hh : ∀ n : Fin 100, 1 ≤ (Lib.decDigits n.val).length ∧ (Lib.decDigits n.val).length ≤ 2 ∧ (match Lib.atoiAll (Lib.decDigits n.val) with | .ok v => v == ((n.val : Nat) : Int) | _ => false) = true ∧ numF (Lib.decDigits n.val) = ((n.val : Nat) : Int) := by decide +kernel
  obtain ⟨a, b, c, d⟩ := hh ⟨n, h⟩
  refine ⟨a, b, ?_, d⟩
  revert c
  cases Lib.atoiAll (Lib.decDigits n)
  case ok v => intro c; rw [eq_of_beq c]
  case range => intro c; cases c
  · intro c; cases c
theorem ofL_self (x : S25) : ofL (bsO x) x.f1 = x := rfl
theorem ext_list {s : ByteArray} {l : List UInt8} (h : s.data.toList = l) : s = ⟨l.toArray⟩ := by
  apply ByteArray.ext
  rw [← h]
theorem bs_len (x : S25) : (bsO x).length = 32 := rfl
theorem pt_size {x : S25} (h : okN x) : (pt x).size = 65 + (Lib.decDigits x.f1.toNat).length := by
  rw [← size_list, pt_in h, List.length_append, htext_len, bs_len, List.length_cons]
  omega
theorem cut_pt {x : S25} (hw : wfO x) (h : okN x) : cutOf (pt x) = (⟨(htext (bsO x)).toArray⟩, ⟨(Lib.decDigits x.f1.toNat).toArray⟩, true) := by
  have hl := pt_in h
  have hi : Lib.indexByte (pt x).data.toList 58 = 64 := by
    rw [hl, idx_at _ _ (htext_58 _ hw), htext_len, bs_len]
    rfl
  have hsz := pt_size h
  obtain ⟨d1, d2, _, _⟩ := dec_facts x.f1.toNat (by have := h.1; have := h.2; omega)
  have hone : (((⟨#[58]⟩ : ByteArray).size : Nat) : Int) = 1 := rfl
  have hwr : wrap64 ((64 : Int) + 1) = 65 := by unfold wrap64; omega
  unfold cutOf strings_Cut.f stringslite_Cut.f stringslite_Index.f
  rw [if_pos rfl, Option.bind_some, hi, hone, hwr, if_pos (by decide), if_pos (by decide), if_pos (by omega), if_pos (by decide), if_pos (by omega), Option.bind_some, Option.getD_some]
  have hh : (htext (bsO x)).length = 64 := by rw [htext_len, bs_len]
  have e1 : (pt x).extract 0 ((64 : Int).toNat) = ⟨(htext (bsO x)).toArray⟩ := by
    apply ext_list
    rw [ByteArray.data_extract, Array.toList_extract, hl, List.extract_eq_take_drop]
    show ((htext (bsO x) ++ _).drop 0).take (64 - 0) = _
    rw [List.drop_zero, List.take_append_of_le_length (by omega), List.take_of_length_le (by omega)]
  have e2 : (pt x).extract ((65 : Int).toNat) (pt x).size = ⟨(Lib.decDigits x.f1.toNat).toArray⟩ := by
    apply ext_list
    rw [ByteArray.data_extract, Array.toList_extract, hl, List.extract_eq_take_drop]
    show ((htext (bsO x) ++ 58 :: Lib.decDigits x.f1.toNat).drop 65).take ((pt x).size - 65) = _
    have : (htext (bsO x) ++ 58 :: Lib.decDigits x.f1.toNat).drop 65 = Lib.decDigits x.f1.toNat := by
      have e : htext (bsO x) ++ 58 :: Lib.decDigits x.f1.toNat = (htext (bsO x) ++ [58]) ++ Lib.decDigits x.f1.toNat := by simp
      rw [e, List.drop_append_of_le_length (by simp [hh]), List.drop_of_length_le (by simp [hh]), List.nil_append]
    rw [this, List.take_of_length_le (by omega)]
  show (_, _, true) = _
  rw [e1, e2]
theorem pp_pt {x : S25} (hw : wfO x) (h : okN x) : pp (pt x) = (x, true) := by
  have hc := cut_pt hw h
  obtain ⟨d1, d2, d3, d4⟩ := dec_facts x.f1.toNat (by have := h.1; have := h.2; omega)
  have hn : numR ⟨(Lib.decDigits x.f1.toNat).toArray⟩ = some x.f1 := by
    unfold numR
    show (match Lib.atoiAll (Lib.decDigits x.f1.toNat).toArray.toList with | .ok v => some v | _ => none) = _
    rw [List.toList_toArray, d3, Int.toNat_of_nonneg h.1]
  have hp : hparse (htext (bsO x)).toArray.toList = (bsO x, true) := by
    rw [List.toList_toArray]
    exact hparse_text _ (bs_len x) hw
  unfold pp
  rw [hc]
  simp only [hn, hp, ofL_self, and_self, if_true]
theorem rp_pt {x : S25} (hw : wfO x) (h : okN x) : rp (pt x) = (x, true) := by
  have hl := pt_in h
  have hsz := pt_size h
  obtain ⟨d1, d2, d3, d4⟩ := dec_facts x.f1.toNat (by have := h.1; have := h.2; omega)
  have hh : (htext (bsO x)).length = 64 := by rw [htext_len, bs_len]
  have e1 : ((pt x).extract 0 64).data.toList = htext (bsO x) := by
    rw [ByteArray.data_extract, Array.toList_extract, hl, List.extract_eq_take_drop, List.drop_zero, List.take_append_of_le_length (by omega), List.take_of_length_le (by omega)]
  have e2 : (pt x).data.toList.drop 65 = Lib.decDigits x.f1.toNat := by
    have e : htext (bsO x) ++ 58 :: Lib.decDigits x.f1.toNat = (htext (bsO x) ++ [58]) ++ Lib.decDigits x.f1.toNat := by simp
    rw [hl, e, List.drop_append_of_le_length (by simp [hh]), List.drop_of_length_le (by simp [hh]), List.nil_append]
  unfold rp
  rw [if_pos (by omega), e1, e2, hparse_text _ (bs_len x) hw, d4, Int.toNat_of_nonneg h.1]
  simp only [ofL_self, and_self, if_true]
theorem hparse_empty : hparse [] = (List.replicate 32 0, false) := by
  unfold hparse
  rw [if_neg (fun h => by simp at h)]
theorem pp_empty : pp ⟨#[]⟩ = (z25, false) := by
  have hc : cutOf ⟨#[]⟩ = (⟨#[]⟩, ⟨#[]⟩, false) := rfl
  unfold pp
  rw [hc]
  show (match numR (⟨#[]⟩ : ByteArray) with | some v => if (hparse []).2 = true ∧ pt (ofL (hparse []).1 v) = (⟨#[]⟩ : ByteArray) then (ofL (hparse []).1 v, true) else (z25, false) | none => (z25, false)) = _
  rw [hparse_empty]
  cases numR ⟨#[]⟩ with
  | none => rfl
  | some v => simp
theorem pp_cases (s : ByteArray) : pp s = (z25, false) ∨ ∃ x, wfO x ∧ okN x ∧ pt x = s ∧ pp s = (x, true) := by
  have key : pp s = (z25, false) ∨ ∃ x, wfO x ∧ pt x = s ∧ pp s = (x, true) := by
    unfold pp
    cases hn : numR (cutOf s).2.1 with
    | none => exact .inl rfl
    | some v =>
      by_cases h : (hparse (cutOf s).1.data.toList).2 = true ∧ pt (ofL (hparse (cutOf s).1.data.toList).1 v) = s
      · exact Or.inr ⟨ofL (hparse (cutOf s).1.data.toList).1 v, by unfold wfO; rw [bs_ofL _ (hparse_len _) v]; exact hparse_bytes _, h.2, if_pos h⟩
      · exact Or.inl (if_neg h)
  rcases key with h | ⟨x, hw, he, hp⟩
  · exact .inl h
  · by_cases ho : okN x
    · exact .inr ⟨x, hw, ho, he, hp⟩
    · rw [pt_out ho] at he
      rw [← he, pp_empty]
      exact .inl rfl
theorem rp_cases (s : ByteArray) : rp s = (z25, false) ∨ ∃ x, wfO x ∧ okN x ∧ pt x = s ∧ rp s = (x, true) := by
  unfold rp
  by_cases hz : 66 ≤ s.size ∧ s.size ≤ 67
  · rw [if_pos hz]
    by_cases h : (hparse (s.extract 0 64).data.toList).2 = true ∧ pt (ofL (hparse (s.extract 0 64).data.toList).1 (numF (s.data.toList.drop 65))) = s
    · rw [if_pos h]
      refine .inr ⟨_, by unfold wfO; rw [bs_ofL _ (hparse_len _) _]; exact hparse_bytes _, ?_, h.2, rfl⟩
      by_cases ho : okN (ofL (hparse (s.extract 0 64).data.toList).1 (numF (s.data.toList.drop 65)))
      · exact ho
      · have he := h.2
        rw [pt_out ho] at he
        rw [← he] at hz
        have : (⟨#[]⟩ : ByteArray).size = 0 := rfl
        omega
    · rw [if_neg h]
      exact .inl rfl
  · rw [if_neg hz]
    exact .inl rfl
/-- One answer. -/
theorem pp_rp (s : ByteArray) : pp s = rp s := by
  rcases pp_cases s with h | ⟨x, hw, ho, he, hp⟩
  · rcases rp_cases s with h2 | ⟨y, hw2, ho2, he2, hp2⟩
    · rw [h, h2]
    · have := pp_pt hw2 ho2
      rw [he2, h] at this
      cases this
  · have := rp_pt hw ho
    rw [he] at this
    rw [hp, this]
end Go.Proofs.YtmoecidfmgeafaaDoor.Txt
