/- BatchWaits, plainly. -/
import Derived.Test.YtiodebjjbgcbhaaQBatx4
import Derived.Test.YtiodebjjbgcbhaaPurBatB
namespace Go.Proofs.Ytiodebjjbgcbhaa.Pure
open Go Go.RowKit Go.Proofs.Ytiodebjjbgcbhaa.QBat Go.Proofs.Ytiodebjjbgcbhaa.Inp Go.Proofs.Ytiodebjjbgcbhaa.QLef Go.Proofs.Ytiodebjjbgcbhaa.LefL Go.Proofs.Ytiodebjjbgcbhaa.Hand Go.Proofs.YtiodebjjbgcbhaaW.PrintWords Go.Proofs.YtiodebjjbgcbhaaW.PrintLast Go.Proofs.YtiodebjjbgcbhaaW.PrintMore
set_option linter.unusedVariables false
set_option linter.unusedSimpArgs false
def lk (z : List Int) (i : Nat) : Int := Int.tmod (wrap64 (Int.tmod (Go.Proofs.YtiodebjjbgcbhaaW.PrintWords.rd z (i : Int)) 50 + 50)) 50
theorem lk_range (z : List Int) (i : Nat) : 0 ≤ lk z i ∧ lk z i ≤ 49 := by
 unfold lk
 have h1 := Int.tmod_lt_of_pos (Go.Proofs.YtiodebjjbgcbhaaW.PrintWords.rd z (i : Int)) (show (0 : Int) < 50 by decide)
 have h2 := Int.lt_tmod_of_pos (Go.Proofs.YtiodebjjbgcbhaaW.PrintWords.rd z (i : Int)) (show (0 : Int) < 50 by decide)
 generalize Int.tmod (Go.Proofs.YtiodebjjbgcbhaaW.PrintWords.rd z (i : Int)) 50 = a at h1 h2 ⊢
 rw [w64' (by omega) (by omega)]
 have h3 := Int.tmod_lt_of_pos (a + 50) (show (0 : Int) < 50 by decide)
 have h4 := Int.tmod_nonneg (a := a + 50) 50 (by omega)
 omega
def wx (z0 z1 : List Int) (i : Nat) : S68 := ⟨⟨⟨0, 0, 0, 0, 0, 0, 0, 0, 0, 0, 0, 0, 0, 0, 0, 0, 0, 0, 0, 0, 0, 0, 0, 0, 0, 0, 0, 0, 0, 0, 0, 0⟩, (i : Int)⟩, 100000, ⟨⟨1, 2, ⟨#[]⟩⟩, 0, lk z0 i, lk z1 i⟩, 0, 0, 100, 50000⟩
def wm (z0 z1 : List Int) (i : Nat) : S90 := mkx 100 (i : Int) (lk z0 i) (lk z1 i)
def wW (z0 z1 : List Int) (n : Nat) : List S68 := (List.range n).map (wx z0 z1)
def wM (z0 z1 : List Int) (n : Nat) : List S90 := (List.range n).map (wm z0 z1)
def rp (next : Int) (x : S90) : Bool := decide (max (max (I90.wait x) 1) (I90.lock x) ≤ next)
def wF (z0 z1 : List Int) (next : Int) (n : Nat) : List S90 := (wM z0 z1 n).filter (rp next)
theorem wM_len (z0 z1 : List Int) (n : Nat) : (wM z0 z1 n).length = n := by simp [wM]
theorem wW_len (z0 z1 : List Int) (n : Nat) : (wW z0 z1 n).length = n := by simp [wW]
theorem wF_len (z0 z1 : List Int) (next : Int) (n : Nat) : (wF z0 z1 next n).length ≤ n := by
 have := List.length_filter_le (rp next) (wM z0 z1 n)
 rw [wM_len] at this
 exact this
theorem wW_succ (z0 z1 : List Int) (n : Nat) : wW z0 z1 (n + 1) = wW z0 z1 n ++ [wx z0 z1 n] := by simp [wW, List.range_succ]
theorem wM_succ (z0 z1 : List Int) (n : Nat) : wM z0 z1 (n + 1) = wM z0 z1 n ++ [wm z0 z1 n] := by simp [wM, List.range_succ]
theorem wF_pos (z0 z1 : List Int) (next : Int) (n : Nat) (h : rp next (wm z0 z1 n) = true) : wF z0 z1 next (n + 1) = wF z0 z1 next n ++ [wm z0 z1 n] := by
 unfold wF; rw [wM_succ, List.filter_append, List.filter_cons, if_pos h, List.filter_nil]
theorem wF_neg (z0 z1 : List Int) (next : Int) (n : Nat) (h : ¬ rp next (wm z0 z1 n) = true) : wF z0 z1 next (n + 1) = wF z0 z1 next n := by
 unfold wF; rw [wM_succ, List.filter_append, List.filter_cons, if_neg h, List.filter_nil, List.append_nil]
theorem rp_wm (z0 z1 : List Int) (next : Int) (i : Nat) : rp next (wm z0 z1 i) = decide (next ≥ mx (mx (lk z0 i) (lk z1 i)) 1) := by
 show decide (max (max (lk z1 i) 1) (lk z0 i) ≤ next) = _
 rw [mx_max, mx_max]
 exact decide_eq_decide.2 (by omega)
theorem wM_good (z0 z1 : List Int) (n : Nat) (h : n ≤ 20) : ∀ x ∈ wM z0 z1 n, Good 100 x := by
 intro x hx
 obtain ⟨j, hj, rfl⟩ := List.mem_map.1 hx
 rw [List.mem_range] at hj
 have a := lk_range z0 j
 have b := lk_range z1 j
 exact ⟨j, lk z0 j, lk z1 j, rfl, by omega, by omega, by omega⟩
theorem wM_pair (z0 z1 : List Int) (n : Nat) : (wM z0 z1 n).Pairwise (fun a b => I90.nn a < I90.nn b) := by
 unfold wM
 rw [List.pairwise_map]
 refine List.pairwise_lt_range.imp fun {a b} h => ?_
 show (a : Int) < (b : Int)
 omega
theorem l0_run (z0 z1 : List Int) (next n : Int) (h0 : n ≤ (z0.length : Int)) (h1 : n ≤ (z1.length : Int)) (hn : n ≤ 20) : ∀ (d k i : Nat), (i : Int) + (d : Int) = n →
 coraclelaw17_BatchWaits.l0 (k + d) z0 z1 next n (wW z0 z1 i) ((wF z0 z1 next i).length : Int) (lockV I90 (wF z0 z1 next i)) (i : Int) = coraclelaw17_BatchWaits.l0 k z0 z1 next n (wW z0 z1 (i + d)) ((wF z0 z1 next (i + d)).length : Int) (lockV I90 (wF z0 z1 next (i + d))) n := by
 intro d
 induction d with
 | zero =>
  intro k i hd
  have e : (i : Int) = n := by omega
  rw [Nat.add_zero, e]
  rfl
 | succ d ih =>
  intro k i hd
  have hlt : (i : Int) < n := by omega
  have hlen := wF_len z0 z1 next i
  rw [show k + (d + 1) = (k + d) + 1 by omega, coraclelaw17_BatchWaits.l0, if_pos hlt]
  show (if 0 ≤ (i : Int) then (if (i : Int) < (z0.length : Int) then (if (i : Int) < (z1.length : Int) then (if (wW z0 z1 i).length < 1034834473200 then ((some (wW z0 z1 i ++ [wx z0 z1 i])).bind fun y220 => (if next ≥ mx (mx (lk z0 i) (lk z1 i)) 1 then coraclelaw17_BatchWaits.l0 (k + d) z0 z1 next n y220 (wrap64 (((wF z0 z1 next i).length : Int) + 1)) (mx (lockV I90 (wF z0 z1 next i)) (lk z0 i)) (wrap64 ((i : Int) + 1)) else coraclelaw17_BatchWaits.l0 (k + d) z0 z1 next n y220 ((wF z0 z1 next i).length : Int) (lockV I90 (wF z0 z1 next i)) (wrap64 ((i : Int) + 1)))) else none) else none) else none) else none) = _
  rw [if_pos (by omega), if_pos (by omega), if_pos (by omega), if_pos (by rw [wW_len]; omega), Option.bind_some, ← wW_succ, w64' (n := (i : Int) + 1) (by omega) (by omega), w64' (by omega) (by omega)]
  rw [show ((i : Int) + 1) = ((i + 1 : Nat) : Int) by omega, show i + (d + 1) = (i + 1) + d by omega]
  by_cases hr : rp next (wm z0 z1 i) = true
  ·rw [if_pos (by rw [rp_wm] at hr; exact of_decide_eq_true hr)]
   have e := wF_pos z0 z1 next i hr
   have e1 : ((wF z0 z1 next i).length : Int) + 1 = ((wF z0 z1 next (i + 1)).length : Int) := by rw [e, List.length_append, List.length_singleton]; omega
   have e2 : mx (lockV I90 (wF z0 z1 next i)) (lk z0 i) = lockV I90 (wF z0 z1 next (i + 1)) := by rw [e, lockV_snoc, mx_max]; rfl
   rw [e1, e2]
   exact ih k (i + 1) (by omega)
  ·rw [if_neg (by rw [rp_wm] at hr; exact fun h => hr (decide_eq_true h))]
   have e := wF_neg z0 z1 next i hr
   have := ih k (i + 1) (by omega)
   rw [e] at this
   exact this
theorem out0 (z0 z1 : List Int) (next n : Int) : coraclelaw17_BatchWaits.j0 1 z0 z1 next n true = some true := rfl
theorem BatchWaits : coraclelaw17_BatchWaits.Pure := by
 intro z0 z1 next h0 _ _ h1 _ _ _
 by_cases c1 : mn (z0.length : Int) (z1.length : Int) > 20
 ·exact ⟨1, by rw [coraclelaw17_BatchWaits.f, if_pos c1, out0]⟩
 by_cases c2 : next < 1
 ·exact ⟨1, by rw [coraclelaw17_BatchWaits.f, if_neg c1, if_pos c2, out0]⟩
 by_cases c3 : next > 60
 ·exact ⟨1, by rw [coraclelaw17_BatchWaits.f, if_neg c1, if_neg c2, decide_eq_true c3, out0]⟩
 obtain ⟨N, hN⟩ : ∃ N : Nat, mn (z0.length : Int) (z1.length : Int) = (N : Int) := ⟨min z0.length z1.length, by rw [mn_min]; omega⟩
 have hN0 : N ≤ z0.length ∧ N ≤ z1.length := by rw [mn_min] at hN; omega
 rw [hN] at c1
 have hN20 : N ≤ 20 := by omega
 have hflen := wF_len z0 z1 next N
 have hM := wM_good z0 z1 N hN20
 have hFs : (wF z0 z1 next N).Sublist (wM z0 z1 N) := List.filter_sublist
 have hall : allC I90 (wM z0 z1 N) next 400000 1 = (allL (fitsC I90 400000 1) (rtC I90 next) N (wF z0 z1 next N), 0) := by
  rw [all_good (D := 100) (by omega) hM (wM_pair z0 z1 N) (by rw [wM_len]; omega) next 400000 (by omega) (by omega), wM_len]
  rfl
 have hord : orderC I90 (wM z0 z1 N) next = wF z0 z1 next N := order_good (D := 100) (by omega) hM (wM_pair z0 z1 N) next
 have hAll : batch_All.f (wM z0 z1 N) next 400000 1 = some (allL (fitsC I90 400000 1) (rtC I90 next) N (wF z0 z1 next N), 0) := by
  unfold batch_All.f
  rw [if_pos ⟨by rw [wM_len]; omega, key_good hM⟩, hall]
 have hOrd : batch_Order.f (wM z0 z1 N) next = some (wF z0 z1 next N) := by
  unfold batch_Order.f
  rw [if_pos (by rw [wM_len]; omega), hord]
 have hmades : ∀ k, N < k → coraclelaw17_mades.f k (wW z0 z1 N) = some (wM z0 z1 N) := by
  intro k hk
  rw [mades_f _ (by rw [wW_len]; omega) _ (by rw [wW_len]; exact hk)]
  unfold wW wM
  rw [List.map_map]
  rfl
 refine ⟨(N + 2 + 1 + N) + 1, ?_⟩
 rw [coraclelaw17_BatchWaits.f, hN, if_neg c1, if_neg c2, decide_eq_false c3, coraclelaw17_BatchWaits.j0, if_neg (by decide)]
 have hrun := l0_run z0 z1 next (N : Int) (by omega) (by omega) (by omega) N (N + 2 + 1) 0 (by omega)
 rw [Nat.zero_add] at hrun
 refine hrun.trans ?_
 rw [coraclelaw17_BatchWaits.l0, if_neg (by omega), hmades _ (by omega), Option.bind_some, hAll, Option.bind_some]
 simp only [if_true]
 by_cases hz : wF z0 z1 next N = []
 ·rw [hz] at hOrd ⊢
  have e0 : allL (fitsC I90 400000 1) (rtC I90 next) N [] = [] := by cases N <;> rfl
  rw [e0, show ((([] : List S39).length : Int) != mn (([] : List S90).length : Int) 1) = false from rfl, coraclelaw17_BatchWaits.j2, if_neg (by decide), if_pos (show ((([] : List S90).length : Nat) : Int) = 0 from rfl), hmades _ (by omega), Option.bind_some, hOrd, Option.bind_some, if_pos rfl]
  rfl
 ·have hpos : 1 ≤ (wF z0 z1 next N).length := by
   rcases Nat.eq_zero_or_pos (wF z0 z1 next N).length with h | h
   ·exact absurd (List.eq_nil_of_length_eq_zero h) hz
   ·exact h
  obtain ⟨M, rfl⟩ : ∃ M, N = M + 1 := ⟨N - 1, by omega⟩
  obtain ⟨fee, v, e⟩ := allL_good (D := 100) (by omega) (rows_sub hFs hM) ((wM_pair z0 z1 (M + 1)).sublist hFs) hpos (by omega) next 400000 20 (by omega) (fun m hm1 hm2 => by omega) M
  rw [List.take_of_length_le (by omega), List.drop_of_length_le (by omega), show allL (fitsC I90 400000 1) (rtC I90 next) M [] = [] by cases M <;> rfl] at e
  rw [e]
  have hb : ((([⟨⟨(wF z0 z1 next (M + 1)).map I90.inS, [outS v 1], lockV I90 (wF z0 z1 next (M + 1))⟩, fee, rate0 100 next⟩] : List S39).length : Int) != mn ((wF z0 z1 next (M + 1)).length : Int) 1) = false := by
   rw [mn_min, show min ((wF z0 z1 next (M + 1)).length : Int) 1 = 1 by omega]
   rfl
  rw [hb, coraclelaw17_BatchWaits.j2, if_neg (by decide), if_neg (by omega), if_pos (by rw [List.length_singleton]; decide)]
  rw [show rd_T39 ([⟨⟨(wF z0 z1 next (M + 1)).map I90.inS, [outS v 1], lockV I90 (wF z0 z1 next (M + 1))⟩, fee, rate0 100 next⟩] : List S39) 0 = ⟨⟨(wF z0 z1 next (M + 1)).map I90.inS, [outS v 1], lockV I90 (wF z0 z1 next (M + 1))⟩, fee, rate0 100 next⟩ from rfl]
  rw [if_pos (by rw [List.length_map]), if_pos rfl, hmades _ (by omega), Option.bind_some, hOrd, Option.bind_some, if_pos rfl]
  rfl
end Go.Proofs.Ytiodebjjbgcbhaa.Pure
