/- Plain theory: what BatchSound asks of all batches. -/
import Derived.Test.YtiodebjjbgcbhaaPurBatD
import Derived.Test.YtiodebjjbgcbhaaRefR
import Derived.Test.YtiodebjjbgcbhaaOpenI
namespace Go.Proofs.Ytiodebjjbgcbhaa.Snd
open Go Go.RowKit Go.Proofs.Ytiodebjjbgcbhaa.Pure Go.Proofs.Ytiodebjjbgcbhaa.Inp Go.Proofs.Ytiodebjjbgcbhaa.QLef Go.Proofs.Ytiodebjjbgcbhaa.LefL Go.Proofs.Ytiodebjjbgcbhaa.Hand Go.Proofs.Ytiodebjjbgcbhaa.OrdO Go.Proofs.Ytiodebjjbgcbhaa.OrdQ Go.Proofs.YtiodebjjbgcbhaaW.PrintWords Go.Proofs.YtiodebjjbgcbhaaW.PrintLast Go.Proofs.YtiodebjjbgcbhaaW.PrintMore
set_option linter.unusedVariables false
set_option linter.unusedSimpArgs false
theorem money_f (a : Int) : coracleref1_Money.f a = some (okA a) := by
 unfold coracleref1_Money.f okA
 by_cases h : a ≥ 0
 ·rw [if_pos h]; simp [h]
 ·rw [if_neg h]; simp; omega
/-- The document's fee. -/
theorem reffee_f {w r : Int} (h : (feeS w r).2 = 0) : coracleref1_Fee.f 1 w r = some (feeS w r) := by
 unfold feeS at h ⊢
 by_cases hc : 0 ≤ w ∧ w ≤ 4000000 ∧ 0 ≤ r ∧ r ≤ 1000000000 ∧ LefL.up (w * r) ≤ 2100000000000000
 ·rw [if_pos hc]
  obtain ⟨h1, h2, h3, h4, h5⟩ := hc
  have hp := LefL.prod_bound h1 h2 h3 h4
  rw [coracleref1_Fee.f, if_neg (by omega), if_neg (by omega), if_neg (by omega), decide_eq_false (by omega), coracleref1_Fee.j0, if_neg (by decide), w64' (n := w * r) (by omega) (by omega)]
  generalize w * r = p at hp h5 ⊢
  unfold LefL.up at h5 ⊢
  rw [Int.tmod_eq_emod_of_nonneg (by omega), Int.tdiv_eq_ediv_of_nonneg (by omega)]
  by_cases hm : p % 1000 > 0
  ·rw [if_pos hm, w64' (n := p / 1000) (by omega) (by omega), w64' (by omega) (by omega), money_f, Option.bind_some, if_pos (okA_true.2 (by omega))]
   congr 2
   omega
  ·rw [if_neg hm, w64' (by omega) (by omega), money_f, Option.bind_some, if_pos (okA_true.2 (by omega))]
   congr 2
   omega
 ·rw [if_neg hc] at h; exact absurd h (by decide)
/-- What is known of a batch, behind others. -/
structure SBat (l : List S68) (next limit key : Int) (S W : List S90) (b : S39) : Prop where
 tc : tcC b.f0.f0 b.f0.f1 b.f0.f2 = 0
 wt : weightV b.f0.f0 b.f0.f1.length ≤ limit
 wt0 : 0 ≤ weightV b.f0.f0 b.f0.f1.length ∧ weightV b.f0.f0 b.f0.f1.length ≤ 4000000
 out : ∃ v, b.f0.f1 = [outS v key] ∧ 330 ≤ v ∧ v ≤ 2100000000000000 ∧ b.f1 = (W.map I90.value).sum - v
 ins : b.f0.f0 = W.map I90.inS
 len : W.length ≤ 100
 fee : coracleref1_Fee.f 1 (weightV b.f0.f0 b.f0.f1.length) b.f2 = some (b.f1, 0)
 bud : b.f1 ≤ (W.map I90.budget).sum
 lock : b.f0.f2 = lockV I90 W
 lockn : lockV I90 W ≤ next
 vals : ∀ y ∈ W, (0 ≤ I90.value y ∧ I90.value y ≤ 2100000000000000) ∧ (0 ≤ I90.budget y ∧ I90.budget y ≤ 2100000000000000)
 at_ : ∀ (k : Nat) (h : k < W.length), ∃ a, ∃ ha : a < l.length, to90 l[a] = W[k] ∧ ripens (I90.wait W[k]) (I90.lock W[k]) (I90.conf W[k]) ≤ next ∧ ∀ y ∈ S ++ W.take k, ptK y ≠ ptK W[k]
/-- What is known of all. -/
theorem sound {l : List S68} {next limit key : Int} (hl : l.length ≤ 40) (h : (allC I90 (l.map to90) next limit key).2 = 0) :
 ((l.map to90).map ptK).Nodup ∧ (allC I90 (l.map to90) next limit key).1.length ≤ 40 ∧ ∃ Ws : List (List S90), Ws.length = (allC I90 (l.map to90) next limit key).1.length ∧ ∀ (i : Nat) (h1 : i < Ws.length) (h2 : i < (allC I90 (l.map to90) next limit key).1.length), SBat l next limit key (Ws.take i).flatten Ws[i] (allC I90 (l.map to90) next limit key).1[i] := by
 obtain ⟨hn, hnd, P, rest, p1, p2, p3, p4⟩ := all_sound h
 refine ⟨hnd, ?_⟩
 rw [p1]
 have hO : ∀ y ∈ (P.map (·.1)).flatten, y ∈ l.map to90 ∧ chkC I90 y = 0 ∧ ripe (I90.wait y) (I90.lock y) (I90.conf y) next = true := fun y hy => order_mem (p3.mem_iff.1 (List.mem_append_left _ hy))
 have hlen : ((P.map (·.1)).flatten).length ≤ 40 := by
  have h1 := p3.length_eq
  have h2 := order_len I90 (chkC I90) (rtC I90 next) next (l.map to90)
  rw [List.length_append] at h1
  rw [List.length_map] at h2
  have h3 : (orderC I90 (l.map to90) next).length ≤ l.length := h2
  omega
 -- the points of all that is used are unlike
 have hN : (((P.map (·.1)).flatten).map ptK).Nodup := by
  have h1 : (((P.map (·.1)).flatten ++ rest).map ptK).Nodup := by
   have h2 : ((orderC I90 (l.map to90) next).map ptK).Nodup := by
    have h3 : ((l.map to90).filter (fun y => !out1 I90 (chkC I90) next y)).Sublist (l.map to90) := List.filter_sublist
    exact ((order_perm (l.map to90) next).map ptK).nodup_iff.2 (hnd.sublist (h3.map ptK))
   exact (p3.map ptK).nodup_iff.2 h2
  rw [List.map_append] at h1
  exact (List.nodup_append.1 h1).1
 have hcount : P.length ≤ ((P.map (·.1)).flatten).length := by
  have : ∀ Q : List (List S90 × Bt × Int), (∀ p ∈ Q, p.1 ≠ []) → Q.length ≤ ((Q.map (·.1)).flatten).length := by
   intro Q
   induction Q with
   | nil => intro _; simp
   | cons p Q ih =>
    intro hq
    have h5 := hq p List.mem_cons_self
    have h6 : 1 ≤ p.1.length := by
     rcases Nat.eq_zero_or_pos p.1.length with h7 | h7
     ·exact absurd (List.eq_nil_of_length_eq_zero h7) h5
     ·exact h7
    have h8 := ih (fun p' hp' => hq p' (List.mem_cons_of_mem _ hp'))
    rw [List.map_cons, List.flatten_cons, List.length_append, List.length_cons]
    omega
  exact this P (fun p hp => (p2 p hp).1.ne)
 refine ⟨by rw [List.length_map]; omega, P.map (·.1), by simp, fun i h1 h2 => ?_⟩
 rw [List.length_map] at h1
 have hp := List.getElem_mem h1
 obtain ⟨m1, m2⟩ := p2 _ hp
 rw [List.getElem_map, List.getElem_map]
 have hsplit : P = P.take i ++ P[i] :: P.drop (i + 1) := by rw [← List.drop_eq_getElem_cons h1, List.take_append_drop]
 have hflat : (P.map (·.1)).flatten = ((P.map (·.1)).take i).flatten ++ (P[i].1 ++ ((P.drop (i + 1)).map (·.1)).flatten) := by
  conv => lhs; rw [hsplit]
  rw [List.map_append, List.flatten_append, List.map_cons, List.flatten_cons, List.map_take]
 generalize hpi : P[i] = p at hp m1 m2 hflat ⊢
 obtain ⟨W, b, r⟩ := p
 simp only [] at m1 m2 hflat ⊢
 have hmem : ∀ y ∈ W, y ∈ (P.map (·.1)).flatten := fun y hy => by rw [hflat]; simp [hy]
 have hWl : W.length ≤ 40 := by
  rw [hflat, List.length_append, List.length_append] at hlen
  omega
 have hol : b.outs.length = 1 := by rw [m1.out]; rfl
 have hsum := sum_bound 2100000000000000 (by omega) (W.map I90.value) (fun a ha => by
  obtain ⟨y, hy, rfl⟩ := List.mem_map.1 ha
  have := (chk_facts (m1.ck y hy)).2.1
  omega)
 rw [List.length_map] at hsum
 have hfee0 : 0 ≤ b.fee ∧ b.fee ≤ 2100000000000000 := by
  have := feeS_ok (w := weightV b.ins 1) (r := r) (by rw [m1.fee])
  rw [m1.fee] at this
  exact this.2
 have hval : (W.map I90.value).sum - b.fee ≤ 2100000000000000 := by have := m1.tot; omega
 refine ⟨m1.tc, m2, ?_, ⟨(W.map I90.value).sum - b.fee, m1.out, m1.dust, hval, ?_⟩, m1.ins, by omega, ?_, ?_, m1.lock, ?_, ?_, ?_⟩
 ·show 0 ≤ weightV b.ins b.outs.length ∧ weightV b.ins b.outs.length ≤ 4000000
  rw [hol]
  have h7 := m1.fee
  unfold feeS at h7
  split at h7
  ·rename_i h8; exact ⟨h8.1, h8.2.1⟩
  ·exact absurd (congrArg Prod.snd h7) (show ¬ ((11 : Int) = 0) by decide)
 ·show b.fee = _; omega
 ·show coracleref1_Fee.f 1 (weightV b.ins b.outs.length) b.rate = some (b.fee, 0)
  rw [hol, m1.rate, reffee_f (by rw [m1.fee]), m1.fee]
 ·show b.fee ≤ _
  rw [← budV_sum W m1.ck (by omega)]
  exact m1.bud
 ·exact (lockV_le W next hn.1 (fun y hy => (ripe_lock (hO y (hmem y hy)).2.1 (hO y (hmem y hy)).2.2).2)).2
 ·intro y hy
  have h7 := (chk_facts (m1.ck y hy)).2.1
  exact ⟨by omega, bud_bound (m1.ck y hy)⟩
 ·intro k hk
  have hy := List.getElem_mem hk
  obtain ⟨h7, h8, h9⟩ := hO _ (hmem _ hy)
  obtain ⟨x, hx, e⟩ := List.mem_map.1 h7
  obtain ⟨a, ha, rfl⟩ := List.mem_iff_getElem.1 hx
  refine ⟨a, ha, e, (ripe_lock h8 h9).1, fun y hy' e2 => ?_⟩
  rw [hflat, ← List.append_assoc, List.map_append] at hN
  have hN2 := (List.nodup_append.1 hN).1
  rw [List.map_append] at hN2
  have hWs : W = W.take k ++ W[k] :: W.drop (k + 1) := by rw [← List.drop_eq_getElem_cons hk, List.take_append_drop]
  rw [hWs, List.map_append, List.map_cons, ← List.append_assoc, ← List.map_append] at hN2
  exact (List.nodup_append.1 hN2).2.2 (ptK y) (List.mem_map_of_mem hy') (ptK W[k]) List.mem_cons_self e2
end Go.Proofs.Ytiodebjjbgcbhaa.Snd
