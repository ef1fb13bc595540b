/- ReplaceAlike: two batches are alike just if they spend the same, in whatever order: the pure statement, for every input. -/
import Derived.Test.YtiodebjjbgcbhaaQRepx8
import Derived.Test.YtiodebjjbgcbhaaAlkL
import Derived.Test.YtiodebjjbgcbhaaXA
namespace Go.Proofs.Ytiodebjjbgcbhaa.Pure
open Go.RowKit Go.Proofs.Ytiodebjjbgcbhaa.QRep Go.Proofs.Ytiodebjjbgcbhaa.AlkL Go.Proofs.YtiodebjjbgcbhaaW.PrintWords Go.Proofs.YtiodebjjbgcbhaaW.PrintLast Go.Proofs.YtiodebjjbgcbhaaW.PrintMore
theorem awake_up (k : Nat) (hk : 40 ≤ k) : coraclelaw18_awake.f k = some true := up coraclelaw18_awake.mono coraclelaw18_awake.at40 k hk
theorem rd39 (x : S39) : rd_T39 [x] 0 = x := rfl
/-- A number's letter. -/
def lt (a : Int) : Int := Int.tmod (wrap64 ((Int.tmod a 10) + 10)) 10
theorem lt_bd (a : Int) : 0 ≤ lt a ∧ lt a ≤ 9 := by
  have h1 : -10 < Int.tmod a 10 ∧ Int.tmod a 10 < 10 := by
    have h := Int.tmod_eq_emod_of_nonneg (a := a) (b := 10)
    by_cases ha : 0 ≤ a
    · rw [Int.tmod_eq_emod_of_nonneg ha]; omega
    · have e : Int.tmod a 10 = - Int.tmod (-a) 10 := by rw [Int.neg_tmod, Int.neg_neg]
      rw [e, Int.tmod_eq_emod_of_nonneg (by omega)]; omega
  unfold lt
  rw [w64 (by omega) (by omega), Int.tmod_eq_emod_of_nonneg (by omega)]
  omega
theorem last (k : Nat) (hk : 200 ≤ k) (l m : List Int) (hl : l.length ≤ 100) (hm : m.length ≤ 100) (al : Bool) (ha : al = true ↔ l.Perm m) :
    coraclelaw18_ReplaceAlike.j6 (k + 1) (meets l m) al (l.map inp) 0 0 0 (m.map inp) 0 0 0 = some true := by
  obtain ⟨p, hp, hp2⟩ := put_f k l m (by omega) (by omega) (by omega)
  obtain ⟨b1, h1, hb1⟩ := alike_f k l m (by omega) (by omega) (by omega) (by omega)
  obtain ⟨b2, h2, hb2⟩ := alike_f k m l (by omega) (by omega) (by omega) (by omega)
  have hb : ∀ x : List Int, coraclelaw18_batches.f k [(⟨(⟨x.map inp, [], 0⟩ : S28), 0, 0⟩ : S30)] = some [bat (x.map inp)] := fun x => by
    obtain ⟨j, rfl⟩ : ∃ j, k = j + 2 := ⟨k - 2, by omega⟩
    exact batches1 j _
  have hc : replace_Conflicts.f k [bat (l.map inp)] (m.map inp) [] 0 0 0 = some (if meets l m = true then [0] else []) := by
    obtain ⟨j, rfl⟩ : ∃ j, k = j + 2 := ⟨k - 2, by omega⟩
    exact conflicts_f j l m
  have e1 : b1 = al := by rw [Bool.eq_iff_iff, hb1, ha]
  have e2 : b2 = al := by rw [Bool.eq_iff_iff, hb2, ha]; exact ⟨fun h => h.symm, fun h => h.symm⟩
  subst e1
  subst e2
  rw [coraclelaw18_ReplaceAlike.j6, hb l]
  simp only [Option.bind_some]
  rw [if_pos (show (0 : Int) < (([bat (l.map inp)].length : Nat) : Int) from by show (0 : Int) < 1; decide), hb m]
  simp only [Option.bind_some]
  rw [if_pos (show (0 : Int) < (([bat (m.map inp)].length : Nat) : Int) from by show (0 : Int) < 1; decide)]
  simp only [rd39]
  rw [show replace_Conflicts.f k [(⟨(⟨(bat (l.map inp)).f0.f0, (bat (l.map inp)).f0.f1, (bat (l.map inp)).f0.f2⟩ : S28), (bat (l.map inp)).f1, (bat (l.map inp)).f2⟩ : S39)] (bat (m.map inp)).f0.f0 (bat (m.map inp)).f0.f1 (bat (m.map inp)).f0.f2 (bat (m.map inp)).f1 (bat (m.map inp)).f2 = _ from hc,
    show replace_Put.f k [(⟨(⟨(bat (l.map inp)).f0.f0, (bat (l.map inp)).f0.f1, (bat (l.map inp)).f0.f2⟩ : S28), (bat (l.map inp)).f1, (bat (l.map inp)).f2⟩ : S39)] (bat (m.map inp)).f0.f0 (bat (m.map inp)).f0.f1 (bat (m.map inp)).f0.f2 (bat (m.map inp)).f1 (bat (m.map inp)).f2 = _ from hp,
    show replace_Alike.f k (bat (l.map inp)).f0.f0 (bat (l.map inp)).f0.f1 (bat (l.map inp)).f0.f2 (bat (l.map inp)).f1 (bat (l.map inp)).f2 (bat (m.map inp)).f0.f0 (bat (m.map inp)).f0.f1 (bat (m.map inp)).f0.f2 (bat (m.map inp)).f1 (bat (m.map inp)).f2 = _ from h1,
    show replace_Alike.f k (bat (m.map inp)).f0.f0 (bat (m.map inp)).f0.f1 (bat (m.map inp)).f0.f2 (bat (m.map inp)).f1 (bat (m.map inp)).f2 (bat (l.map inp)).f0.f0 (bat (l.map inp)).f0.f1 (bat (l.map inp)).f0.f2 (bat (l.map inp)).f1 (bat (l.map inp)).f2 = _ from h2]
  simp only [Option.bind_some, awake_up k (by omega)]
  cases hme : meets l m
  · rw [if_pos (by simp), if_pos (by simp), if_pos (by simp), if_pos (by simp), if_pos (by simp), if_pos (by rw [hp2 hme]; rfl)]
  · rw [if_pos (by simp), if_pos (by simp), if_pos (by simp), if_pos (by simp), if_neg (by simp)]
/-- So often a letter stands in the first ones. -/
def cnt (l : List Int) (j : Int) : Int := ((l.count j : Nat) : Int)
theorem cnt_le (l : List Int) (j : Int) : 0 ≤ cnt l j ∧ cnt l j ≤ l.length := by
  unfold cnt
  have := List.count_le_length (a := j) (l := l)
  omega
theorem cnt_snoc (l : List Int) (v j : Int) : cnt (l ++ [v]) j = cnt l j + if v = j then 1 else 0 := by
  unfold cnt
  rw [List.count_append, List.count_cons, List.count_nil]
  by_cases h : v = j
  · subst h; simp
  · rw [if_neg h]; simp [h]
theorem cnt_on (l : List Int) (j : Int) (h : l.length ≤ 100) : wrap64 (cnt l j + 1) = cnt (l ++ [j]) j := by
  have := cnt_le l j
  rw [cnt_snoc, if_pos rfl, w64 (by omega) (by omega)]
theorem cnt_off (l : List Int) {v j : Int} (h : v ≠ j) : cnt l j = cnt (l ++ [v]) j := by rw [cnt_snoc, if_neg h, Int.add_zero]
/-- What is left of a letter. -/
def dif (l m : List Int) (j : Int) : Int := cnt l j - cnt m j
theorem dif_on (l m : List Int) (j : Int) (h : l.length ≤ 100) (h2 : m.length ≤ 100) : wrap64 (dif l m j - 1) = dif l (m ++ [j]) j := by
  have := cnt_le l j
  have := cnt_le m j
  unfold dif
  rw [cnt_snoc, if_pos rfl, w64 (by omega) (by omega)]
  omega
theorem dif_off (l m : List Int) {v j : Int} (h : v ≠ j) : dif l m j = dif l (m ++ [v]) j := by unfold dif; rw [cnt_snoc, if_neg h, Int.add_zero]
theorem dif_nil (l : List Int) (j : Int) : dif l [] j = cnt l j := by unfold dif cnt; simp
/-- The letters. -/
def Lts (l : List Int) : Prop := ∀ x ∈ l, 0 ≤ x ∧ x ≤ 9
theorem perm_dif (l m : List Int) (hl : Lts l) (hm : Lts m) : (dif l m 0 == 0 && (dif l m 1 == 0 && (dif l m 2 == 0 && (dif l m 3 == 0 && (dif l m 4 == 0 && (dif l m 5 == 0 && (dif l m 6 == 0 && (dif l m 7 == 0 && (dif l m 8 == 0 && (dif l m 9 == 0)))))))))) = true ↔ l.Perm m := by
  rw [List.perm_iff_count]
  simp only [Bool.and_eq_true, beq_iff_eq]
  constructor
  · rintro ⟨h0, h1, h2, h3, h4, h5, h6, h7, h8, h9⟩ a
    by_cases ha : 0 ≤ a ∧ a ≤ 9
    · have h : a = 0 ∨ a = 1 ∨ a = 2 ∨ a = 3 ∨ a = 4 ∨ a = 5 ∨ a = 6 ∨ a = 7 ∨ a = 8 ∨ a = 9 := by omega
      unfold dif cnt at *
      rcases h with rfl | rfl | rfl | rfl | rfl | rfl | rfl | rfl | rfl | rfl <;> omega
    · rw [List.count_eq_zero.2 (fun h => ha (hl a h)), List.count_eq_zero.2 (fun h => ha (hm a h))]
  · intro h
    unfold dif cnt
    simp only [h, Int.sub_self]
    simp
section
variable (a b : List Int) (t : Int)
/-- The first i letters of the first list. -/
def LA (i : Nat) : List Int := (a.take i).map lt
theorem LA_len (i : Nat) (h : i ≤ a.length) : (LA a i).length = i := by simp [LA]; omega
theorem LA_succ (i : Nat) (h : i < a.length) : LA a (i + 1) = LA a i ++ [lt a[i]] := by
  unfold LA; rw [List.take_succ_eq_append_getElem h, List.map_append]; rfl
theorem LA_lts (i : Nat) : Lts (LA a i) := fun x hx => by
  obtain ⟨y, _, rfl⟩ := List.mem_map.1 hx
  exact lt_bd y
theorem rdI (i : Nat) (h : i < a.length) : rd a i = a[i] := by simp [rd, List.getElem?_eq_getElem h]
/-- .. and of the second one, turned. -/
def ix (i : Nat) : Int := Int.tmod (wrap64 ((i : Int) + ((mx t 0) % (b.length : Int)))) (b.length : Int)
def LB : Nat → List Int
  | 0 => []
  | i + 1 => LB i ++ [lt (rd b (ix b t i))]
theorem LB_len : ∀ i, (LB b t i).length = i
  | 0 => rfl
  | i + 1 => by rw [LB, List.length_append, LB_len i]; rfl
theorem LB_lts : ∀ i, Lts (LB b t i)
  | 0 => fun x hx => by cases hx
  | i + 1 => fun x hx => by
    rw [LB] at hx
    rcases List.mem_append.1 hx with hx | hx
    · exact LB_lts i x hx
    · have := List.mem_singleton.1 hx
      subst this
      exact lt_bd _
theorem ix_bd (i : Nat) (h : i < b.length) (hb : b.length ≤ 100) : 0 ≤ ix b t i ∧ ix b t i < b.length := by
  unfold ix
  have h1 := Int.emod_nonneg (mx t 0) (show (b.length : Int) ≠ 0 by omega)
  have h2 := Int.emod_lt_of_pos (mx t 0) (show (0 : Int) < b.length by omega)
  rw [w64 (by omega) (by omega), Int.tmod_eq_emod_of_nonneg (by omega)]
  exact ⟨Int.emod_nonneg _ (by omega), Int.emod_lt_of_pos _ (by omega)⟩
theorem meets_nil (l : List Int) : meets l [] = false := by unfold meets; rw [List.any_eq_false]; intro x _; simp
theorem meets_snoc (l m : List Int) (v : Int) : meets l (m ++ [v]) = (meets l m || l.contains v) := by
  rw [meets_comm, meets, List.any_append]
  rw [show (m.any fun i => l.contains i) = meets m l from rfl, meets_comm m l]
  simp
end
theorem first_loop (a b : List Int) (t : Int) (ha : a.length ≤ 20) : ∀ m i k, i + m = a.length → ∃ _ : True,
    coraclelaw18_ReplaceAlike.l0 (k + 2 * m + 1) a b t false i ((LA a i).map inp) 0 0 0 0 0 0 (cnt (LA a i) 0) (cnt (LA a i) 1) (cnt (LA a i) 2) (cnt (LA a i) 3) (cnt (LA a i) 4) (cnt (LA a i) 5) (cnt (LA a i) 6) (cnt (LA a i) 7) (cnt (LA a i) 8) (cnt (LA a i) 9) =
    coraclelaw18_ReplaceAlike.l1 k b t false 0 ((LA a a.length).map inp) 0 0 0 [] 0 0 0 (cnt (LA a a.length) 0) (cnt (LA a a.length) 1) (cnt (LA a a.length) 2) (cnt (LA a a.length) 3) (cnt (LA a a.length) 4) (cnt (LA a a.length) 5) (cnt (LA a a.length) 6) (cnt (LA a a.length) 7) (cnt (LA a a.length) 8) (cnt (LA a a.length) 9) := by
  intro m
  induction m with
  | zero =>
    intro i k hi
    refine ⟨trivial, ?_⟩
    obtain rfl : i = a.length := by omega
    rw [show k + 2 * 0 + 1 = k + 1 from rfl, coraclelaw18_ReplaceAlike.l0, if_neg (by omega)]
  | succ m ih =>
    intro i k hi
    refine ⟨trivial, ?_⟩
    obtain ⟨_, h⟩ := ih (i + 1) k (by omega)
    have hl := LA_len a i (by omega)
    rw [show k + 2 * (m + 1) + 1 = (k + 2 * m + 1) + 1 + 1 by omega, coraclelaw18_ReplaceAlike.l0, if_pos (by omega), if_pos (by omega), rdI a i (by omega)]
    rw [show Int.tmod (wrap64 ((Int.tmod a[i] 10) + 10)) 10 = lt a[i] from rfl, coraclelaw18_ReplaceAlike.j2, if_pos (by rw [List.length_map, hl]; omega)]
    simp only [Option.bind_some]
    have hb := lt_bd a[i]
    have hx : (LA a i).map inp ++ [inp (lt a[i])] = (LA a (i + 1)).map inp := by rw [LA_succ a i (by omega), List.map_append]; rfl
    rw [show (⟨(⟨(⟨0, 0, 0, 0, 0, 0, 0, 0, 0, 0, 0, 0, 0, 0, 0, 0, 0, 0, 0, 0, 0, 0, 0, 0, 0, 0, 0, 0, 0, 0, 0, 0⟩ : S32), lt a[i]⟩ : S34), 0, (⟨0, 0, (⟨#[]⟩ : ByteArray)⟩ : S36)⟩ : S38) = inp (lt a[i]) from rfl, hx, w64 (n := (i : Int) + 1) (by omega) (by omega)]
    rw [LA_succ a i (by omega)] at h ⊢
    have hle : (LA a i).length ≤ 100 := by omega
    have hv : lt a[i] = 0 ∨ lt a[i] = 1 ∨ lt a[i] = 2 ∨ lt a[i] = 3 ∨ lt a[i] = 4 ∨ lt a[i] = 5 ∨ lt a[i] = 6 ∨ lt a[i] = 7 ∨ lt a[i] = 8 ∨ lt a[i] = 9 := by omega
    generalize lt a[i] = v at *
    rcases hv with rfl | hv
    · rw [if_pos rfl, cnt_on _ 0 hle, cnt_off (LA a i) (v := 0) (j := 1) (by decide), cnt_off (LA a i) (v := 0) (j := 2) (by decide), cnt_off (LA a i) (v := 0) (j := 3) (by decide), cnt_off (LA a i) (v := 0) (j := 4) (by decide), cnt_off (LA a i) (v := 0) (j := 5) (by decide), cnt_off (LA a i) (v := 0) (j := 6) (by decide), cnt_off (LA a i) (v := 0) (j := 7) (by decide), cnt_off (LA a i) (v := 0) (j := 8) (by decide), cnt_off (LA a i) (v := 0) (j := 9) (by decide)]
      exact h
    rcases hv with rfl | hv
    · rw [if_neg (by decide), if_pos rfl, cnt_on _ 1 hle, cnt_off (LA a i) (v := 1) (j := 0) (by decide), cnt_off (LA a i) (v := 1) (j := 2) (by decide), cnt_off (LA a i) (v := 1) (j := 3) (by decide), cnt_off (LA a i) (v := 1) (j := 4) (by decide), cnt_off (LA a i) (v := 1) (j := 5) (by decide), cnt_off (LA a i) (v := 1) (j := 6) (by decide), cnt_off (LA a i) (v := 1) (j := 7) (by decide), cnt_off (LA a i) (v := 1) (j := 8) (by decide), cnt_off (LA a i) (v := 1) (j := 9) (by decide)]
      exact h
    rcases hv with rfl | hv
    · rw [if_neg (by decide), if_neg (by decide), if_pos rfl, cnt_on _ 2 hle, cnt_off (LA a i) (v := 2) (j := 0) (by decide), cnt_off (LA a i) (v := 2) (j := 1) (by decide), cnt_off (LA a i) (v := 2) (j := 3) (by decide), cnt_off (LA a i) (v := 2) (j := 4) (by decide), cnt_off (LA a i) (v := 2) (j := 5) (by decide), cnt_off (LA a i) (v := 2) (j := 6) (by decide), cnt_off (LA a i) (v := 2) (j := 7) (by decide), cnt_off (LA a i) (v := 2) (j := 8) (by decide), cnt_off (LA a i) (v := 2) (j := 9) (by decide)]
      exact h
    rcases hv with rfl | hv
    · rw [if_neg (by decide), if_neg (by decide), if_neg (by decide), if_pos rfl, cnt_on _ 3 hle, cnt_off (LA a i) (v := 3) (j := 0) (by decide), cnt_off (LA a i) (v := 3) (j := 1) (by decide), cnt_off (LA a i) (v := 3) (j := 2) (by decide), cnt_off (LA a i) (v := 3) (j := 4) (by decide), cnt_off (LA a i) (v := 3) (j := 5) (by decide), cnt_off (LA a i) (v := 3) (j := 6) (by decide), cnt_off (LA a i) (v := 3) (j := 7) (by decide), cnt_off (LA a i) (v := 3) (j := 8) (by decide), cnt_off (LA a i) (v := 3) (j := 9) (by decide)]
      exact h
    rcases hv with rfl | hv
    · rw [if_neg (by decide), if_neg (by decide), if_neg (by decide), if_neg (by decide), if_pos rfl, cnt_on _ 4 hle, cnt_off (LA a i) (v := 4) (j := 0) (by decide), cnt_off (LA a i) (v := 4) (j := 1) (by decide), cnt_off (LA a i) (v := 4) (j := 2) (by decide), cnt_off (LA a i) (v := 4) (j := 3) (by decide), cnt_off (LA a i) (v := 4) (j := 5) (by decide), cnt_off (LA a i) (v := 4) (j := 6) (by decide), cnt_off (LA a i) (v := 4) (j := 7) (by decide), cnt_off (LA a i) (v := 4) (j := 8) (by decide), cnt_off (LA a i) (v := 4) (j := 9) (by decide)]
      exact h
    rcases hv with rfl | hv
    · rw [if_neg (by decide), if_neg (by decide), if_neg (by decide), if_neg (by decide), if_neg (by decide), if_pos rfl, cnt_on _ 5 hle, cnt_off (LA a i) (v := 5) (j := 0) (by decide), cnt_off (LA a i) (v := 5) (j := 1) (by decide), cnt_off (LA a i) (v := 5) (j := 2) (by decide), cnt_off (LA a i) (v := 5) (j := 3) (by decide), cnt_off (LA a i) (v := 5) (j := 4) (by decide), cnt_off (LA a i) (v := 5) (j := 6) (by decide), cnt_off (LA a i) (v := 5) (j := 7) (by decide), cnt_off (LA a i) (v := 5) (j := 8) (by decide), cnt_off (LA a i) (v := 5) (j := 9) (by decide)]
      exact h
    rcases hv with rfl | hv
    · rw [if_neg (by decide), if_neg (by decide), if_neg (by decide), if_neg (by decide), if_neg (by decide), if_neg (by decide), if_pos rfl, cnt_on _ 6 hle, cnt_off (LA a i) (v := 6) (j := 0) (by decide), cnt_off (LA a i) (v := 6) (j := 1) (by decide), cnt_off (LA a i) (v := 6) (j := 2) (by decide), cnt_off (LA a i) (v := 6) (j := 3) (by decide), cnt_off (LA a i) (v := 6) (j := 4) (by decide), cnt_off (LA a i) (v := 6) (j := 5) (by decide), cnt_off (LA a i) (v := 6) (j := 7) (by decide), cnt_off (LA a i) (v := 6) (j := 8) (by decide), cnt_off (LA a i) (v := 6) (j := 9) (by decide)]
      exact h
    rcases hv with rfl | hv
    · rw [if_neg (by decide), if_neg (by decide), if_neg (by decide), if_neg (by decide), if_neg (by decide), if_neg (by decide), if_neg (by decide), if_pos rfl, cnt_on _ 7 hle, cnt_off (LA a i) (v := 7) (j := 0) (by decide), cnt_off (LA a i) (v := 7) (j := 1) (by decide), cnt_off (LA a i) (v := 7) (j := 2) (by decide), cnt_off (LA a i) (v := 7) (j := 3) (by decide), cnt_off (LA a i) (v := 7) (j := 4) (by decide), cnt_off (LA a i) (v := 7) (j := 5) (by decide), cnt_off (LA a i) (v := 7) (j := 6) (by decide), cnt_off (LA a i) (v := 7) (j := 8) (by decide), cnt_off (LA a i) (v := 7) (j := 9) (by decide)]
      exact h
    rcases hv with rfl | hv
    · rw [if_neg (by decide), if_neg (by decide), if_neg (by decide), if_neg (by decide), if_neg (by decide), if_neg (by decide), if_neg (by decide), if_neg (by decide), if_pos rfl, cnt_on _ 8 hle, cnt_off (LA a i) (v := 8) (j := 0) (by decide), cnt_off (LA a i) (v := 8) (j := 1) (by decide), cnt_off (LA a i) (v := 8) (j := 2) (by decide), cnt_off (LA a i) (v := 8) (j := 3) (by decide), cnt_off (LA a i) (v := 8) (j := 4) (by decide), cnt_off (LA a i) (v := 8) (j := 5) (by decide), cnt_off (LA a i) (v := 8) (j := 6) (by decide), cnt_off (LA a i) (v := 8) (j := 7) (by decide), cnt_off (LA a i) (v := 8) (j := 9) (by decide)]
      exact h
    · subst hv
      rw [if_neg (by decide), if_neg (by decide), if_neg (by decide), if_neg (by decide), if_neg (by decide), if_neg (by decide), if_neg (by decide), if_neg (by decide), if_neg (by decide), if_pos rfl, cnt_on _ 9 hle, cnt_off (LA a i) (v := 9) (j := 0) (by decide), cnt_off (LA a i) (v := 9) (j := 1) (by decide), cnt_off (LA a i) (v := 9) (j := 2) (by decide), cnt_off (LA a i) (v := 9) (j := 3) (by decide), cnt_off (LA a i) (v := 9) (j := 4) (by decide), cnt_off (LA a i) (v := 9) (j := 5) (by decide), cnt_off (LA a i) (v := 9) (j := 6) (by decide), cnt_off (LA a i) (v := 9) (j := 7) (by decide), cnt_off (LA a i) (v := 9) (j := 8) (by decide)]
      exact h

theorem second_loop (b : List Int) (t : Int) (L : List Int) (hL : L.length ≤ 20) (hLt : Lts L) (hb : b.length ≤ 20) : ∀ m i k, i + m = b.length → 300 ≤ k →
    coraclelaw18_ReplaceAlike.l1 (k + 3 * m + 2) b t (meets L (LB b t i)) i (L.map inp) 0 0 0 ((LB b t i).map inp) 0 0 0 (dif L (LB b t i) 0) (dif L (LB b t i) 1) (dif L (LB b t i) 2) (dif L (LB b t i) 3) (dif L (LB b t i) 4) (dif L (LB b t i) 5) (dif L (LB b t i) 6) (dif L (LB b t i) 7) (dif L (LB b t i) 8) (dif L (LB b t i) 9) = some true := by
  intro m
  induction m with
  | zero =>
    intro i k hi hk
    obtain rfl : i = b.length := by omega
    rw [show k + 3 * 0 + 2 = k + 1 + 1 from rfl, coraclelaw18_ReplaceAlike.l1, if_neg (by omega)]
    exact last k (by omega) L (LB b t b.length) (by omega) (by rw [LB_len]; omega) _ (perm_dif L _ hLt (LB_lts b t _))
  | succ m ih =>
    intro i k hi hk
    have h := ih (i + 1) k (by omega) hk
    have hl := LB_len b t i
    have hx := ix_bd b t i (by omega) (by omega)
    rw [show k + 3 * (m + 1) + 2 = (k + 3 * m + 2) + 1 + 1 + 1 by omega, coraclelaw18_ReplaceAlike.l1, if_pos (by omega), if_neg (by omega)]
    rw [show Int.tmod (wrap64 ((i : Int) + ((mx t 0) % (b.length : Int)))) (b.length : Int) = ix b t i from rfl, if_pos hx.1, if_pos hx.2]
    rw [show Int.tmod (wrap64 ((Int.tmod (rd b (ix b t i)) 10) + 10)) 10 = lt (rd b (ix b t i)) from rfl, coraclelaw18_ReplaceAlike.j4, if_pos (by rw [List.length_map, hl]; omega)]
    simp only [Option.bind_some]
    have hb9 := lt_bd (rd b (ix b t i))
    have hle : (LB b t i).length ≤ 100 := by omega
    have hLe : L.length ≤ 100 := by omega
    have e1 : (if meets L (LB b t i) = true then coraclelaw18_ReplaceAlike.j5 (k + 3 * m + 2 + 1) b t true i (lt (rd b (ix b t i))) (L.map inp) 0 0 0 ((LB b t i).map inp ++ [inp (lt (rd b (ix b t i)))]) 0 0 0 (dif L (LB b t i) 0) (dif L (LB b t i) 1) (dif L (LB b t i) 2) (dif L (LB b t i) 3) (dif L (LB b t i) 4) (dif L (LB b t i) 5) (dif L (LB b t i) 6) (dif L (LB b t i) 7) (dif L (LB b t i) 8) (dif L (LB b t i) 9)
        else (coracleref1_Spends.f (k + 3 * m + 2 + 1) (L.map inp) [] 0 0 0 0 0 0 0 0 0 0 0 0 0 0 0 0 0 0 0 0 0 0 0 0 0 0 0 0 0 0 0 0 0 (lt (rd b (ix b t i)))).bind fun t327 => coraclelaw18_ReplaceAlike.j5 (k + 3 * m + 2 + 1) b t (decide (t327 ≥ 0)) i (lt (rd b (ix b t i))) (L.map inp) 0 0 0 ((LB b t i).map inp ++ [inp (lt (rd b (ix b t i)))]) 0 0 0 (dif L (LB b t i) 0) (dif L (LB b t i) 1) (dif L (LB b t i) 2) (dif L (LB b t i) 3) (dif L (LB b t i) 4) (dif L (LB b t i) 5) (dif L (LB b t i) 6) (dif L (LB b t i) 7) (dif L (LB b t i) 8) (dif L (LB b t i) 9))
      = coraclelaw18_ReplaceAlike.j5 (k + 3 * m + 2 + 1) b t (meets L (LB b t (i + 1))) i (lt (rd b (ix b t i))) (L.map inp) 0 0 0 ((LB b t (i + 1)).map inp) 0 0 0 (dif L (LB b t i) 0) (dif L (LB b t i) 1) (dif L (LB b t i) 2) (dif L (LB b t i) 3) (dif L (LB b t i) 4) (dif L (LB b t i) 5) (dif L (LB b t i) 6) (dif L (LB b t i) 7) (dif L (LB b t i) 8) (dif L (LB b t i) 9) := by
      have hx2 : (LB b t (i + 1)).map inp = (LB b t i).map inp ++ [inp (lt (rd b (ix b t i)))] := by rw [LB, List.map_append]; rfl
      rw [hx2]
      have hm : meets L (LB b t (i + 1)) = (meets L (LB b t i) || L.contains (lt (rd b (ix b t i)))) := by rw [LB, meets_snoc]
      rw [hm]
      cases meets L (LB b t i)
      · rw [if_neg (by decide), Bool.false_or]
        obtain ⟨r, hr, hr2⟩ := spends_l L (lt (rd b (ix b t i))) (by omega) L.length 0 (k + 3 * m + 2 + 1) (by omega) (fun j _ hj => by omega) (by omega)
        rw [show coracleref1_Spends.f (k + 3 * m + 2 + 1) (L.map inp) [] 0 0 0 0 0 0 0 0 0 0 0 0 0 0 0 0 0 0 0 0 0 0 0 0 0 0 0 0 0 0 0 0 0 (lt (rd b (ix b t i))) = some r from hr]
        simp only [Option.bind_some]
        have : decide (r ≥ 0) = L.contains (lt (rd b (ix b t i))) := by rw [Bool.eq_iff_iff, decide_eq_true_iff, hr2, List.contains_iff_mem]
        rw [this]
      · rw [if_pos rfl, Bool.true_or]
    refine Eq.trans e1 ?_
    rw [coraclelaw18_ReplaceAlike.j5, w64 (n := (i : Int) + 1) (by omega) (by omega)]
    rw [LB] at h ⊢
    have hv : lt (rd b (ix b t i)) = 0 ∨ lt (rd b (ix b t i)) = 1 ∨ lt (rd b (ix b t i)) = 2 ∨ lt (rd b (ix b t i)) = 3 ∨ lt (rd b (ix b t i)) = 4 ∨ lt (rd b (ix b t i)) = 5 ∨ lt (rd b (ix b t i)) = 6 ∨ lt (rd b (ix b t i)) = 7 ∨ lt (rd b (ix b t i)) = 8 ∨ lt (rd b (ix b t i)) = 9 := by omega
    clear e1
    generalize lt (rd b (ix b t i)) = v at *
    rcases hv with rfl | hv
    · rw [if_pos rfl, dif_on L _ 0 hLe hle, dif_off L (LB b t i) (v := 0) (j := 1) (by decide), dif_off L (LB b t i) (v := 0) (j := 2) (by decide), dif_off L (LB b t i) (v := 0) (j := 3) (by decide), dif_off L (LB b t i) (v := 0) (j := 4) (by decide), dif_off L (LB b t i) (v := 0) (j := 5) (by decide), dif_off L (LB b t i) (v := 0) (j := 6) (by decide), dif_off L (LB b t i) (v := 0) (j := 7) (by decide), dif_off L (LB b t i) (v := 0) (j := 8) (by decide), dif_off L (LB b t i) (v := 0) (j := 9) (by decide)]
      exact h
    rcases hv with rfl | hv
    · rw [if_neg (by decide), if_pos rfl, dif_on L _ 1 hLe hle, dif_off L (LB b t i) (v := 1) (j := 0) (by decide), dif_off L (LB b t i) (v := 1) (j := 2) (by decide), dif_off L (LB b t i) (v := 1) (j := 3) (by decide), dif_off L (LB b t i) (v := 1) (j := 4) (by decide), dif_off L (LB b t i) (v := 1) (j := 5) (by decide), dif_off L (LB b t i) (v := 1) (j := 6) (by decide), dif_off L (LB b t i) (v := 1) (j := 7) (by decide), dif_off L (LB b t i) (v := 1) (j := 8) (by decide), dif_off L (LB b t i) (v := 1) (j := 9) (by decide)]
      exact h
    rcases hv with rfl | hv
    · rw [if_neg (by decide), if_neg (by decide), if_pos rfl, dif_on L _ 2 hLe hle, dif_off L (LB b t i) (v := 2) (j := 0) (by decide), dif_off L (LB b t i) (v := 2) (j := 1) (by decide), dif_off L (LB b t i) (v := 2) (j := 3) (by decide), dif_off L (LB b t i) (v := 2) (j := 4) (by decide), dif_off L (LB b t i) (v := 2) (j := 5) (by decide), dif_off L (LB b t i) (v := 2) (j := 6) (by decide), dif_off L (LB b t i) (v := 2) (j := 7) (by decide), dif_off L (LB b t i) (v := 2) (j := 8) (by decide), dif_off L (LB b t i) (v := 2) (j := 9) (by decide)]
      exact h
    rcases hv with rfl | hv
    · rw [if_neg (by decide), if_neg (by decide), if_neg (by decide), if_pos rfl, dif_on L _ 3 hLe hle, dif_off L (LB b t i) (v := 3) (j := 0) (by decide), dif_off L (LB b t i) (v := 3) (j := 1) (by decide), dif_off L (LB b t i) (v := 3) (j := 2) (by decide), dif_off L (LB b t i) (v := 3) (j := 4) (by decide), dif_off L (LB b t i) (v := 3) (j := 5) (by decide), dif_off L (LB b t i) (v := 3) (j := 6) (by decide), dif_off L (LB b t i) (v := 3) (j := 7) (by decide), dif_off L (LB b t i) (v := 3) (j := 8) (by decide), dif_off L (LB b t i) (v := 3) (j := 9) (by decide)]
      exact h
    rcases hv with rfl | hv
    · rw [if_neg (by decide), if_neg (by decide), if_neg (by decide), if_neg (by decide), if_pos rfl, dif_on L _ 4 hLe hle, dif_off L (LB b t i) (v := 4) (j := 0) (by decide), dif_off L (LB b t i) (v := 4) (j := 1) (by decide), dif_off L (LB b t i) (v := 4) (j := 2) (by decide), dif_off L (LB b t i) (v := 4) (j := 3) (by decide), dif_off L (LB b t i) (v := 4) (j := 5) (by decide), dif_off L (LB b t i) (v := 4) (j := 6) (by decide), dif_off L (LB b t i) (v := 4) (j := 7) (by decide), dif_off L (LB b t i) (v := 4) (j := 8) (by decide), dif_off L (LB b t i) (v := 4) (j := 9) (by decide)]
      exact h
    rcases hv with rfl | hv
    · rw [if_neg (by decide), if_neg (by decide), if_neg (by decide), if_neg (by decide), if_neg (by decide), if_pos rfl, dif_on L _ 5 hLe hle, dif_off L (LB b t i) (v := 5) (j := 0) (by decide), dif_off L (LB b t i) (v := 5) (j := 1) (by decide), dif_off L (LB b t i) (v := 5) (j := 2) (by decide), dif_off L (LB b t i) (v := 5) (j := 3) (by decide), dif_off L (LB b t i) (v := 5) (j := 4) (by decide), dif_off L (LB b t i) (v := 5) (j := 6) (by decide), dif_off L (LB b t i) (v := 5) (j := 7) (by decide), dif_off L (LB b t i) (v := 5) (j := 8) (by decide), dif_off L (LB b t i) (v := 5) (j := 9) (by decide)]
      exact h
    rcases hv with rfl | hv
    · rw [if_neg (by decide), if_neg (by decide), if_neg (by decide), if_neg (by decide), if_neg (by decide), if_neg (by decide), if_pos rfl, dif_on L _ 6 hLe hle, dif_off L (LB b t i) (v := 6) (j := 0) (by decide), dif_off L (LB b t i) (v := 6) (j := 1) (by decide), dif_off L (LB b t i) (v := 6) (j := 2) (by decide), dif_off L (LB b t i) (v := 6) (j := 3) (by decide), dif_off L (LB b t i) (v := 6) (j := 4) (by decide), dif_off L (LB b t i) (v := 6) (j := 5) (by decide), dif_off L (LB b t i) (v := 6) (j := 7) (by decide), dif_off L (LB b t i) (v := 6) (j := 8) (by decide), dif_off L (LB b t i) (v := 6) (j := 9) (by decide)]
      exact h
    rcases hv with rfl | hv
    · rw [if_neg (by decide), if_neg (by decide), if_neg (by decide), if_neg (by decide), if_neg (by decide), if_neg (by decide), if_neg (by decide), if_pos rfl, dif_on L _ 7 hLe hle, dif_off L (LB b t i) (v := 7) (j := 0) (by decide), dif_off L (LB b t i) (v := 7) (j := 1) (by decide), dif_off L (LB b t i) (v := 7) (j := 2) (by decide), dif_off L (LB b t i) (v := 7) (j := 3) (by decide), dif_off L (LB b t i) (v := 7) (j := 4) (by decide), dif_off L (LB b t i) (v := 7) (j := 5) (by decide), dif_off L (LB b t i) (v := 7) (j := 6) (by decide), dif_off L (LB b t i) (v := 7) (j := 8) (by decide), dif_off L (LB b t i) (v := 7) (j := 9) (by decide)]
      exact h
    rcases hv with rfl | hv
    · rw [if_neg (by decide), if_neg (by decide), if_neg (by decide), if_neg (by decide), if_neg (by decide), if_neg (by decide), if_neg (by decide), if_neg (by decide), if_pos rfl, dif_on L _ 8 hLe hle, dif_off L (LB b t i) (v := 8) (j := 0) (by decide), dif_off L (LB b t i) (v := 8) (j := 1) (by decide), dif_off L (LB b t i) (v := 8) (j := 2) (by decide), dif_off L (LB b t i) (v := 8) (j := 3) (by decide), dif_off L (LB b t i) (v := 8) (j := 4) (by decide), dif_off L (LB b t i) (v := 8) (j := 5) (by decide), dif_off L (LB b t i) (v := 8) (j := 6) (by decide), dif_off L (LB b t i) (v := 8) (j := 7) (by decide), dif_off L (LB b t i) (v := 8) (j := 9) (by decide)]
      exact h
    · subst hv
      rw [if_neg (by decide), if_neg (by decide), if_neg (by decide), if_neg (by decide), if_neg (by decide), if_neg (by decide), if_neg (by decide), if_neg (by decide), if_neg (by decide), if_pos rfl, dif_on L _ 9 hLe hle, dif_off L (LB b t i) (v := 9) (j := 0) (by decide), dif_off L (LB b t i) (v := 9) (j := 1) (by decide), dif_off L (LB b t i) (v := 9) (j := 2) (by decide), dif_off L (LB b t i) (v := 9) (j := 3) (by decide), dif_off L (LB b t i) (v := 9) (j := 4) (by decide), dif_off L (LB b t i) (v := 9) (j := 5) (by decide), dif_off L (LB b t i) (v := 9) (j := 6) (by decide), dif_off L (LB b t i) (v := 9) (j := 7) (by decide), dif_off L (LB b t i) (v := 9) (j := 8) (by decide)]
      exact h

theorem ReplaceAlike : coraclelaw18_ReplaceAlike.Pure := by
  intro a b t _ _ _ _ _ _ _
  refine ⟨1000, ?_⟩
  unfold coraclelaw18_ReplaceAlike.f
  by_cases h1 : (a.length : Int) > 20
  · rw [if_pos h1, coraclelaw18_ReplaceAlike.j0, if_pos rfl, awake_up _ (by omega)]
    rfl
  · rw [if_neg h1]
    by_cases h2 : (b.length : Int) > 20
    · rw [decide_eq_true h2, coraclelaw18_ReplaceAlike.j0, if_pos rfl, awake_up _ (by omega)]
      rfl
    · rw [decide_eq_false h2, coraclelaw18_ReplaceAlike.j0, if_neg (by decide)]
      obtain ⟨_, hf⟩ := first_loop a b t (by omega) a.length 0 (999 - 2 * a.length - 1) (by omega)
      have hs := second_loop b t (LA a a.length) (by rw [LA_len a _ (Nat.le_refl _)]; omega) (LA_lts a _) (by omega) b.length 0 (999 - 2 * a.length - 1 - 3 * b.length - 2) (by omega) (by omega)
      rw [show 999 - 2 * a.length - 1 - 3 * b.length - 2 + 3 * b.length + 2 = 999 - 2 * a.length - 1 by omega] at hs
      rw [show 999 - 2 * a.length - 1 + 2 * a.length + 1 = 999 by omega] at hf
      simp only [LB, meets_nil, dif_nil] at hs
      refine Eq.trans ?_ (hf.trans hs)
      rfl
end Go.Proofs.Ytiodebjjbgcbhaa.Pure
