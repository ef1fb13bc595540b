/- BatchFits, plainly. -/
import Derived.Test.YtiodebjjbgcbhaaQBatx2
import Derived.Test.YtiodebjjbgcbhaaPurBatB
namespace Go.Proofs.Ytiodebjjbgcbhaa.Pure
open Go Go.RowKit Go.Proofs.Ytiodebjjbgcbhaa.QBat Go.Proofs.Ytiodebjjbgcbhaa.Inp Go.Proofs.Ytiodebjjbgcbhaa.QLef Go.Proofs.Ytiodebjjbgcbhaa.LefL Go.Proofs.Ytiodebjjbgcbhaa.Hand Go.Proofs.YtiodebjjbgcbhaaW.PrintWords Go.Proofs.YtiodebjjbgcbhaaW.PrintLast Go.Proofs.YtiodebjjbgcbhaaW.PrintMore
set_option linter.unusedVariables false
set_option linter.unusedSimpArgs false
def fm (j : Nat) : S90 := mkx 10 (j : Int) 0 0
def fM (s m : Nat) : List S90 := (List.range' s m).map fm
theorem fM_len (s m : Nat) : (fM s m).length = m := by simp [fM]
theorem fM_good (s m : Nat) (h : s + m ≤ 100) : ∀ x ∈ fM s m, Good 10 x := by
 intro x hx
 obtain ⟨j, hj, rfl⟩ := List.mem_map.1 hx
 rw [List.mem_range'_1] at hj
 exact ⟨j, 0, 0, rfl, by omega, by omega, by omega⟩
theorem fM_pair (s m : Nat) : (fM s m).Pairwise (fun a b => I90.nn a < I90.nn b) := by
 unfold fM
 rw [List.pairwise_map]
 refine (List.pairwise_lt_range' (s := s) (n := m)).imp fun {a b} h => ?_
 show (a : Int) < (b : Int)
 omega
theorem fM_drop (s m c : Nat) (h : c ≤ m) : (fM s m).drop c = fM (s + c) (m - c) := by
 unfold fM
 rw [← List.map_drop, List.drop_range']
 simp
theorem fM_take (s m c : Nat) (h : c ≤ m) : (fM s m).take c = fM s c := by
 unfold fM
 rw [← List.map_take, List.take_range'_of_length_ge h]
theorem rd38 (l : List S38) (i : Nat) (h : i < l.length) : rd_T38 l (i : Int) = l[i] := by
 unfold rd_T38
 rw [Int.toNat_natCast, List.getD_eq_getElem?_getD, List.getElem?_eq_getElem h]
 rfl
theorem rd39 (l : List S39) (i : Nat) (h : i < l.length) : rd_T39 l (i : Int) = l[i] := by
 unfold rd_T39
 rw [Int.toNat_natCast, List.getD_eq_getElem?_getD, List.getElem?_eq_getElem h]
 rfl
/-- The batches of such inputs. -/
theorem fits_step (s m per : Nat) (next limit : Int) (F : Nat) (h1 : 1 ≤ m) (h2 : s + m ≤ 100) (h0 : 1 ≤ per) (hlim : limit = 176 + 238 * (per : Int)) :
 ∃ fee v, allL (fitsC I90 limit 1) (rtC I90 next) (F + 1) (fM s m) = ⟨⟨(fM s (min per m)).map I90.inS, [outS v 1], lockV I90 (fM s (min per m))⟩, fee, rate0 10 next⟩ :: allL (fitsC I90 limit 1) (rtC I90 next) F (fM (s + min per m) (m - min per m)) := by
 have hl := fM_len s m
 obtain ⟨fee, v, e⟩ := allL_good (D := 10) (by omega) (fM_good s m h2) (fM_pair s m) (by omega) (by omega) next limit per h0 (fun q _ _ => by rw [hlim]; omega) F
 refine ⟨fee, v, ?_⟩
 rw [e]
 have e1 : (fM s m).take per = fM s (min per m) := by
  rcases Nat.le_total per m with h | h
  ·rw [Nat.min_eq_left h, fM_take s m per h]
  ·rw [Nat.min_eq_right h, List.take_of_length_le (by omega)]
 have e2 : (fM s m).drop per = fM (s + min per m) (m - min per m) := by
  rcases Nat.le_total per m with h | h
  ·rw [Nat.min_eq_left h, fM_drop s m per h]
  ·rw [Nat.min_eq_right h, List.drop_of_length_le (by omega), Nat.sub_self]
   rfl
 rw [e1, e2]
theorem fits_nil (s : Nat) (next limit : Int) (F : Nat) : allL (fitsC I90 limit 1) (rtC I90 next) F (fM s 0) = [] := by cases F <;> rfl
theorem fits_count (per : Nat) (next limit : Int) (h0 : 1 ≤ per) (hlim : limit = 176 + 238 * (per : Int)) : ∀ (F s m : Nat), s + m ≤ 100 → m ≤ F → (allL (fitsC I90 limit 1) (rtC I90 next) F (fM s m)).length = (m + per - 1) / per := by
 intro F
 induction F with
 | zero =>
  intro s m h2 hF
  obtain rfl : m = 0 := by omega
  rw [fits_nil]
  exact (Nat.div_eq_of_lt (by omega)).symm
 | succ F ih =>
  intro s m h2 hF
  by_cases hm : m = 0
  ·subst hm
   rw [fits_nil]
   exact (Nat.div_eq_of_lt (by omega)).symm
  ·obtain ⟨fee, v, e⟩ := fits_step s m per next limit F (by omega) h2 h0 hlim
   rw [e, List.length_cons, ih _ _ (by omega) (by omega)]
   rcases Nat.le_total per m with h | h
   ·rw [Nat.min_eq_left h]
    obtain ⟨q, rfl⟩ : ∃ q, m = q + per := ⟨m - per, by omega⟩
    rw [Nat.add_sub_cancel, show q + per + per - 1 = (q + per - 1) + per by omega, Nat.add_div_right _ (by omega)]
   ·rw [Nat.min_eq_right h, Nat.sub_self, Nat.zero_add, Nat.div_eq_of_lt (by omega)]
    have : (m + per - 1) / per = 1 := Nat.div_eq_of_lt_le (by omega) (by omega)
    omega
theorem weight_fM (s c : Nat) (h : s + c ≤ 100) : weightV ((fM s c).map I90.inS) 1 = 176 + 238 * (c : Int) := by
 unfold weightV
 rw [wits_one _ (fun x hx => by obtain ⟨y, hy, rfl⟩ := List.mem_map.1 hx; exact (in_good (fM_good s c h y hy)).2.1), List.length_map, fM_len]
 omega
theorem l2_run (n per limit : Int) (B : List S39) (i at0 : Nat) (hi : i < B.length) (hl : B[i].f0.f0.length ≤ 1000) (ha : at0 ≤ 1000) (hn : ∀ (t : Nat) (h : t < B[i].f0.f0.length), B[i].f0.f0[t].f0.f1 = (at0 : Int) + (t : Int)) :
 ∀ (d k j : Nat), j + d = B[i].f0.f0.length → coraclelaw17_BatchFits.l2 (k + d) n per limit B ((at0 : Int) + (j : Int)) (i : Int) (j : Int) = coraclelaw17_BatchFits.l2 k n per limit B ((at0 : Int) + (B[i].f0.f0.length : Int)) (i : Int) (B[i].f0.f0.length : Int) := by
 intro d
 induction d with
 | zero =>
  intro k j hj
  have e : j = B[i].f0.f0.length := by omega
  rw [Nat.add_zero, e]
 | succ d ih =>
  intro k j hj
  rw [show k + (d + 1) = (k + d) + 1 by omega]
  have hr := rd39 B i hi
  rw [coraclelaw17_BatchFits.l2, if_pos (by omega), if_pos (by omega), hr, if_pos (by omega), if_pos (by omega), rd38 _ j (by omega), hn j (by omega), if_pos rfl, w64' (by omega) (by omega), w64' (by omega) (by omega), show ((at0 : Int) + (j : Int) + 1) = (at0 : Int) + ((j + 1 : Nat) : Int) by omega, show ((j : Int) + 1) = ((j + 1 : Nat) : Int) by omega]
  exact ih k (j + 1) (by omega)
theorem tail (per : Nat) (next limit : Int) (h0 : 1 ≤ per) (hlim : limit = 176 + 238 * (per : Int)) (n : Nat) (hn : n ≤ 100) : ∀ (F s m : Nat) (pre : List S39), s + m = n → m ≤ F → pre.length ≤ s →
 ∃ k, coraclelaw17_BatchFits.l1 k (n : Int) (per : Int) limit (pre ++ allL (fitsC I90 limit 1) (rtC I90 next) F (fM s m)) (s : Int) (pre.length : Int) = some true := by
 intro F
 induction F with
 | zero =>
  intro s m pre hs hF hp
  obtain rfl : m = 0 := by omega
  rw [fits_nil, List.append_nil]
  refine ⟨1, ?_⟩
  rw [coraclelaw17_BatchFits.l1, if_neg (by omega), if_pos (by omega)]
  rfl
 | succ F ih =>
  intro s m pre hs hF hp
  by_cases hm : m = 0
  ·subst hm
   rw [fits_nil, List.append_nil]
   refine ⟨1, ?_⟩
   rw [coraclelaw17_BatchFits.l1, if_neg (by omega), if_pos (by omega)]
   rfl
  ·obtain ⟨fee, v, e⟩ := fits_step s m per next limit F (by omega) (by omega) h0 hlim
   generalize hb : (⟨⟨(fM s (min per m)).map I90.inS, [outS v 1], lockV I90 (fM s (min per m))⟩, fee, rate0 10 next⟩ : S39) = b at e
   have b1 : b.f0.f0 = (fM s (min per m)).map I90.inS := by rw [← hb]
   have b2 : b.f0.f1.length = 1 := by rw [← hb]; rfl
   obtain ⟨c, hc⟩ : ∃ c, min per m = c := ⟨_, rfl⟩
   rw [hc] at e b1
   obtain ⟨k, hk⟩ := ih (s + c) (m - c) (pre ++ [b]) (by omega) (by omega) (by rw [List.length_append, List.length_singleton]; omega)
   rw [e]
   rw [List.append_assoc, List.singleton_append] at hk
   generalize hR : allL (fitsC I90 limit 1) (rtC I90 next) F (fM (s + c) (m - c)) = R at hk
   have hRn : m - c = 0 → R = [] := fun h => by rw [← hR, h, fits_nil]
   clear hR
   generalize hB : pre ++ b :: R = B at hk
   have hi : pre.length < B.length := by rw [← hB, List.length_append, List.length_cons]; omega
   have hBi : B[pre.length] = b := by
    have : (pre ++ b :: R)[pre.length]'(by rw [hB]; exact hi) = b := by rw [List.getElem_append_right (Nat.le_refl _)]; simp
    simpa [hB] using this
   have hlen : B[pre.length].f0.f0.length = c := by rw [hBi, b1, List.length_map, fM_len]
   have hnn : ∀ (t : Nat) (h : t < B[pre.length].f0.f0.length), B[pre.length].f0.f0[t].f0.f1 = (s : Int) + (t : Int) := by
    intro t h
    have e1 : B[pre.length].f0.f0 = (fM s c).map I90.inS := by rw [hBi, b1]
    have ht : t < c := by omega
    have : B[pre.length].f0.f0[t] = I90.inS (fm (s + t)) := by
     simp only [e1, List.getElem_map]
     congr 1
     simp [fM]
    rw [this]
    show ((s + t : Nat) : Int) = _
    omega
   have hrun := l2_run (n : Int) (per : Int) limit B pre.length s hi (by omega) (by omega) hnn c (k + 1) 0 (by omega)
   refine ⟨(k + 1 + c) + 1, ?_⟩
   rw [coraclelaw17_BatchFits.l1, if_pos (by omega)]
   rw [show ((s : Int) + ((0 : Nat) : Int)) = (s : Int) by omega, hlen] at hrun
   rw [show ((0 : Nat) : Int) = 0 from rfl] at hrun
   rw [hrun, coraclelaw17_BatchFits.l2, if_pos (by omega), if_pos (by omega), rd39 B _ hi, if_neg (by rw [hlen]; omega), hBi]
   have hw : tx_Weight.f b.f0.f0 b.f0.f1 b.f0.f2 = some (176 + 238 * (c : Int)) := by
    unfold QBat.tx_Weight.f
    rw [if_pos ⟨by rw [b1, List.length_map, fM_len]; omega, by rw [b2]; omega⟩, b2, b1, weight_fM s c (by omega)]
   rw [show QBat.tx_Weight.f b.f0.f0 b.f0.f1 b.f0.f2 = _ from hw, Option.bind_some, if_neg (by omega), w64' (by omega) (by omega)]
   have hk' : coraclelaw17_BatchFits.l1 k (n : Int) (per : Int) limit B ((s : Int) + (c : Int)) ((pre.length : Int) + 1) = some true := by
    rw [List.length_append, List.length_singleton] at hk
    rw [show ((s : Int) + (c : Int)) = ((s + c : Nat) : Int) by omega, show ((pre.length : Int) + 1) = ((pre.length + 1 : Nat) : Int) by omega]
    exact hk
   by_cases hlast : (pre.length : Int) + 1 < (B.length : Int)
   ·rw [if_pos hlast, if_pos]
    ·exact hk'
    ·have : c = per := by
      rcases Nat.lt_or_ge c per with h | h
      ·have h5 : m - c = 0 := by omega
       have h6 : B.length = pre.length + 1 := by rw [← hB, hRn h5, List.length_append, List.length_singleton]
       omega
      ·omega
     rw [b1, List.length_map, fM_len, this]
   ·rw [if_neg hlast]
    exact hk'
theorem l0_run (n x1 x2 : Int) (hn : n ≤ 40) : ∀ (d k i : Nat) (acc : List S68), (i : Int) + (d : Int) = n → acc.length = i → coraclelaw17_BatchFits.l0 (k + d) n x1 x2 acc (i : Int) = coraclelaw17_BatchFits.l0 k n x1 x2 (acc ++ (List.range' i d).map (fun j => one68 (j : Nat) 100000 50000)) n := by
 intro d
 induction d with
 | zero =>
  intro k i acc hd ha
  have e : (i : Int) = n := by omega
  rw [e]
  simp
 | succ d ih =>
  intro k i acc hd ha
  rw [show k + (d + 1) = (k + d) + 1 by omega, coraclelaw17_BatchFits.l0, if_pos (by omega)]
  show (if acc.length < 1034834473200 then coraclelaw17_BatchFits.l0 (k + d) n x1 x2 (acc ++ [one68 (i : Int) 100000 50000]) (wrap64 ((i : Int) + 1)) else none) = _
  rw [if_pos (by omega), w64' (by omega) (by omega), show ((i : Int) + 1) = ((i + 1 : Nat) : Int) by omega, ih k (i + 1) _ (by omega) (by simp [ha]), List.append_assoc, List.range'_succ]
  rfl
theorem BatchFits : coraclelaw17_BatchFits.Pure := by
 intro n per next _ _ _
 have out : ∃ k, coraclelaw17_BatchFits.j0 k n per next true = some true := ⟨1, rfl⟩
 by_cases c1 : n < 1
 ·obtain ⟨k, hk⟩ := out; exact ⟨k, by rw [coraclelaw17_BatchFits.f, if_pos c1, hk]⟩
 by_cases c2 : n > 40
 ·obtain ⟨k, hk⟩ := out; exact ⟨k, by rw [coraclelaw17_BatchFits.f, if_neg c1, if_pos c2, hk]⟩
 by_cases c3 : per < 1
 ·obtain ⟨k, hk⟩ := out; exact ⟨k, by rw [coraclelaw17_BatchFits.f, if_neg c1, if_neg c2, if_pos c3, hk]⟩
 by_cases c4 : per > 40
 ·obtain ⟨k, hk⟩ := out; exact ⟨k, by rw [coraclelaw17_BatchFits.f, if_neg c1, if_neg c2, if_neg c3, if_pos c4, hk]⟩
 by_cases c5 : next < 1
 ·obtain ⟨k, hk⟩ := out; exact ⟨k, by rw [coraclelaw17_BatchFits.f, if_neg c1, if_neg c2, if_neg c3, if_neg c4, if_pos c5, hk]⟩
 by_cases c6 : next > 9
 ·obtain ⟨k, hk⟩ := out; exact ⟨k, by rw [coraclelaw17_BatchFits.f, if_neg c1, if_neg c2, if_neg c3, if_neg c4, if_neg c5, decide_eq_true c6, hk]⟩
 obtain ⟨N, rfl⟩ : ∃ N : Nat, n = (N : Int) := ⟨n.toNat, by omega⟩
 obtain ⟨p, rfl⟩ : ∃ p : Nat, per = (p : Int) := ⟨per.toNat, by omega⟩
 have hL : (List.range' 0 N).map (fun j => to90 (one68 (j : Nat) 100000 50000)) = fM 0 N := rfl
 obtain ⟨k, hk⟩ := tail p next (176 + 238 * (p : Int)) (by omega) rfl N (by omega) N 0 N [] (by omega) (Nat.le_refl _) (Nat.le_refl _)
 have hcount := fits_count p next (176 + 238 * (p : Int)) (by omega) rfl N 0 N (by omega) (Nat.le_refl _)
 have hall : allC I90 (fM 0 N) next (176 + 238 * (p : Int)) 1 = (allL (fitsC I90 (176 + 238 * (p : Int)) 1) (rtC I90 next) N (fM 0 N), 0) := by
  rw [all_good (D := 10) (by omega) (fM_good 0 N (by omega)) (fM_pair 0 N) (by rw [fM_len]; omega) next _ (by omega) (by omega), fM_len]
  rw [List.filter_eq_self.2]
  intro x hx
  obtain ⟨j, _, rfl⟩ := List.mem_map.1 hx
  exact decide_eq_true (by show max (max (0 : Int) 1) 0 ≤ next; omega)
 generalize allL (fitsC I90 (176 + 238 * (p : Int)) 1) (rtC I90 next) N (fM 0 N) = B at hk hcount hall
 -- enough rounds
 obtain ⟨K, hK1, hK2⟩ : ∃ K, N < K ∧ k ≤ K := ⟨N + k + 1, by omega, by omega⟩
 have hup : ∀ q, coraclelaw17_BatchFits.l1 (k + q) (N : Int) (p : Int) (176 + 238 * (p : Int)) B 0 0 = some true := by
  intro q
  induction q with
  | zero => exact hk
  | succ q ih => exact (coraclelaw17_BatchFits.mono_l (k + q)).2.2.2.1 _ _ _ _ _ _ _ ih
 refine ⟨((k + (N + 1)) + 1 + 1 + N) + 1, ?_⟩
 rw [coraclelaw17_BatchFits.f, if_neg c1, if_neg c2, if_neg c3, if_neg c4, if_neg c5, decide_eq_false c6]
 rw [coraclelaw17_BatchFits.j0, if_neg (by decide)]
 have hrun := l0_run (N : Int) (p : Int) next (by omega) N (k + (N + 1) + 1 + 1) 0 [] (by omega) rfl
 rw [show ((0 : Nat) : Int) = 0 from rfl, List.nil_append] at hrun
 rw [hrun, coraclelaw17_BatchFits.l0, if_neg (by omega), mades_f _ (by simp; omega) _ (by simp; omega), Option.bind_some, List.map_map]
 rw [show (List.range' 0 N).map (to90 ∘ fun j => one68 (j : Nat) 100000 50000) = fM 0 N from rfl]
 have hlimit : wrap64 (wrap64 (4 * wrap64 (wrap64 (10 + wrap64 (41 * (p : Int))) + 34)) + wrap64 (74 * (p : Int))) = 176 + 238 * (p : Int) := by
  rw [w64' (n := 41 * (p : Int)) (by omega) (by omega), w64' (n := 10 + 41 * (p : Int)) (by omega) (by omega), w64' (n := 10 + 41 * (p : Int) + 34) (by omega) (by omega), w64' (n := 4 * (10 + 41 * (p : Int) + 34)) (by omega) (by omega), w64' (n := 74 * (p : Int)) (by omega) (by omega), w64' (by omega) (by omega)]
  omega
 rw [hlimit]
 have hAll : batch_All.f (fM 0 N) next (176 + 238 * (p : Int)) 1 = some (B, 0) := by
  unfold batch_All.f
  rw [if_pos ⟨by rw [fM_len]; omega, key_good (fM_good 0 N (by omega))⟩, hall]
 rw [hAll, Option.bind_some]
 simp only [if_true]
 rw [if_neg (by omega)]
 have hq : ((B.length : Int) != wrap64 (Int.tdiv (wrap64 (wrap64 ((N : Int) + (p : Int)) - 1)) (p : Int))) = false := by
  rw [w64' (n := (N : Int) + (p : Int)) (by omega) (by omega), w64' (n := (N : Int) + (p : Int) - 1) (by omega) (by omega), hcount]
  have e : Int.tdiv ((N : Int) + (p : Int) - 1) (p : Int) = (((N + p - 1) / p : Nat) : Int) := by
   rw [Int.tdiv_eq_ediv_of_nonneg (by omega), show ((N : Int) + (p : Int) - 1) = ((N + p - 1 : Nat) : Int) by omega]
   rfl
  have hle : (N + p - 1) / p ≤ N + p - 1 := Nat.div_le_self _ _
  rw [e, w64' (by omega) (by omega)]
  simp
 rw [hq, coraclelaw17_BatchFits.j2, if_neg (by decide)]
 exact hup (N + 1)
end Go.Proofs.Ytiodebjjbgcbhaa.Pure
