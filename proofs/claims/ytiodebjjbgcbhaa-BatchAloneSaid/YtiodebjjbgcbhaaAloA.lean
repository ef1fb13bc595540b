/- Plain theory: what BatchAlone asks of all batches. -/
import Derived.Test.YtiodebjjbgcbhaaOpenI
import Derived.Test.YtiodebjjbgcbhaaPurBatD
namespace Go.Proofs.Ytiodebjjbgcbhaa.Alo
open Go Go.RowKit Go.Proofs.Ytiodebjjbgcbhaa.Pure Go.Proofs.Ytiodebjjbgcbhaa.Inp Go.Proofs.Ytiodebjjbgcbhaa.QLef Go.Proofs.Ytiodebjjbgcbhaa.LefL Go.Proofs.Ytiodebjjbgcbhaa.Hand Go.Proofs.Ytiodebjjbgcbhaa.OrdO Go.Proofs.Ytiodebjjbgcbhaa.OrdQ Go.Proofs.YtiodebjjbgcbhaaW.PrintWords Go.Proofs.YtiodebjjbgcbhaaW.PrintLast Go.Proofs.YtiodebjjbgcbhaaW.PrintMore
set_option linter.unusedVariables false
set_option linter.unusedSimpArgs false
set_option linter.unusedSectionVars false
set_option maxRecDepth 10000
def x68 (v b : Int) : S68 := ⟨⟨⟨0, 0, 0, 0, 0, 99, 0, 0, 0, 0, 0, 0, 0, 0, 0, 0, 0, 0, 0, 0, 0, 0, 0, 0, 0, 0, 0, 0, 0, 0, 0, 0⟩, 77⟩, v, ⟨⟨1, 2, ⟨#[]⟩⟩, 0, 0, 0⟩, 0, 0, 10, b⟩
def aX (v b : Int) : S90 := to90 (x68 v b)
def aP : S34 := ⟨⟨0, 0, 0, 0, 0, 99, 0, 0, 0, 0, 0, 0, 0, 0, 0, 0, 0, 0, 0, 0, 0, 0, 0, 0, 0, 0, 0, 0, 0, 0, 0, 0⟩, 77⟩
section
variable {v b : Int} (hv : 100000 ≤ v ∧ v ≤ 1099511627776) (hb : 10000 ≤ b ∧ b ≤ 50000)
include hv hb
theorem aX_of : ofB 0 10 b 414 = true := by
 rw [ofB_true]
 refine ⟨by omega, by omega, by omega, by omega, by omega⟩
theorem aX_chk : chkC I90 (aX v b) = 0 := by
 show chkV (wiB 77 0 99) (wiB v 1 2100000000000000) (witB 1 2 ⟨#[]⟩) (wiB 0 0 65535) (wiB 0 0 65535) (wiB 0 0 1000000) (wiB 0 0 1000000) (if ofB 0 10 b 414 then 0 else 1) = 0
 rw [wiB_true (a := v) (by omega), aX_of hv hb]
 kernel_rfl
theorem aX_rt (next : Int) : 253 ≤ rtC I90 next (aX v b) ∧ rtC I90 next (aX v b) ≤ b * 1000 / 414 := by
 unfold rtC
 rw [if_pos (aX_chk hv hb)]
 show 253 ≤ (if ofB 0 10 b 414 then atV 0 253 (max 0 10) (min (b * 1000 / 414) 1000000000) next else 0) ∧ (if ofB 0 10 b 414 then atV 0 253 (max 0 10) (min (b * 1000 / 414) 1000000000) next else 0) ≤ b * 1000 / 414
 have h := aX_of hv hb
 rw [if_pos h]
 have := atV_bounds (of_line h) next
 omega
theorem aX_make (r : Int) (hr : 253 ≤ r ∧ r ≤ b * 1000 / 414) : ∃ fee w, makeC I90 [aX v b] r 1 = some ⟨[I90.inS (aX v b)], [outS w 1], 0, fee, r⟩ := by
 have hup : 0 ≤ LefL.up (414 * r) ∧ LefL.up (414 * r) ≤ b := by unfold LefL.up; omega
 have hfee : feeS 414 r = (LefL.up (414 * r), 0) := by
  unfold feeS
  rw [if_pos ⟨by omega, by omega, by omega, by omega, by omega⟩]
 generalize LefL.up (414 * r) = F at hup hfee
 have hck : ([aX v b].all fun x => chkC I90 x == 0) = true := by rw [List.all_cons, aX_chk hv hb]; rfl
 have htot : totS 0 ([aX v b].map I90.value) = (v, 0) := by
  have e := tot_all [v] 0 (by simp; omega) (by omega) (by simp; omega)
  rw [show [aX v b].map I90.value = [v] from rfl, e]
  simp
 have hbud : budV I90 [aX v b] = b := by
  show min (wrap64 (0 + b)) 1152921504606846976 = b
  rw [w64' (by omega) (by omega)]
  omega
 have hlock : lockV I90 [aX v b] = 0 := rfl
 refine ⟨F, v - F, ?_⟩
 unfold makeC makeV
 rw [if_neg (by simp), if_neg (by decide), if_neg (by rw [hck]; decide)]
 simp only []
 rw [htot, show weightV ([aX v b].map I90.inS) 1 = 414 from rfl, hfee]
 simp only []
 rw [if_neg (by decide), if_neg (by rw [hbud]; omega), w64' (by omega) (by omega), if_neg (by omega), hlock, if_neg]
 ·rfl
 intro hc
 refine hc ?_
 unfold tcC chkT
 have hins : insOk ([aX v b].map I90.inS) ([aX v b].map I90.inS).length = true := by
  show insOk [I90.inS (aX v b)] (0 + 1) = true
  rw [insOk_succ _ 0 (by simp)]
  have h1 : inB (I90.inS (aX v b)) = true := by
   show ((decide ((0 : Int) ≤ 77) && decide ((77 : Int) ≤ 99)) && ((decide ((0 : Int) ≤ 0) && decide ((0 : Int) ≤ 65535)) && witB 1 2 ⟨#[]⟩)) = true
   kernel_rfl
  show (insOk [I90.inS (aX v b)] 0 && (inB (I90.inS (aX v b)) && !(([I90.inS (aX v b)].take 0).any fun y => oeq y.f0 (I90.inS (aX v b)).f0))) = true
  rw [h1]
  rfl
 rw [if_neg (by simp), if_neg (by simp), if_neg (by rw [hins]; decide), if_neg (by simp only [List.all_cons, List.all_nil, out_ok]; decide), if_neg (by decide)]
 show (totS 0 [v - F]).2 = 0
 rw [tot_all [v - F] 0 (by simp; omega) (by omega) (by simp; omega)]
theorem aX_fits (next : Int) : (fitsC I90 400000 1 [aX v b] (rtC I90 next (aX v b))).2 = true := by
 obtain ⟨fee, w, e⟩ := aX_make hv hb _ (aX_rt hv hb next)
 unfold fitsC fitsV
 simp only []
 have e2 : makeV I90 (chkC I90) (totS 0) tcC [aX v b] (rtC I90 next (aX v b)) 1 = _ := e
 rw [e2]
 have e3 : weightV [I90.inS (aX v b)] 1 = 414 := by kernel_rfl
 show (true && decide (weightV [I90.inS (aX v b)] 1 ≤ 400000)) = true
 rw [Bool.true_and]
 refine decide_eq_true ?_
 omega
theorem aX_out (next : Int) : (!out1 I90 (chkC I90) next (aX v b)) = decide (1 ≤ next) := by
 unfold out1
 rw [if_pos (aX_chk hv hb), Bool.not_not]
 rfl
end
theorem countP_parts {α β : Type} (f : β → List α) (q : α → Bool) : ∀ P : List β, ((P.map f).flatten).countP q ≤ 1 → P.countP (fun p => (f p).any q) = ((P.map f).flatten).countP q
 | [], _ => rfl
 | p :: P, h => by
  rw [List.map_cons, List.flatten_cons, List.countP_append] at h ⊢
  rw [List.countP_cons, countP_parts f q P (by omega)]
  by_cases ha : (f p).any q = true
  ·have hpos : 0 < (f p).countP q := List.countP_pos_iff.2 (by obtain ⟨a, h1, h2⟩ := List.any_eq_true.1 ha; exact ⟨a, h1, h2⟩)
   rw [if_pos ha]
   omega
  ·have hz : (f p).countP q = 0 := List.countP_eq_zero.2 (fun a h1 h2 => ha (List.any_eq_true.2 ⟨a, h1, h2⟩))
   rw [if_neg ha]
   omega
def qX (y : S90) : Bool := oeq (I90.inS y).f0 aP
/-- Of all batches, how many spend it. -/
theorem count_alone {l : List S90} {v b next : Int} (hv : 100000 ≤ v ∧ v ≤ 1099511627776) (hb : 10000 ≤ b ∧ b ≤ 50000) (hq : ∀ y ∈ l, qX y = false) (h : (allC I90 (l ++ [aX v b]) next 400000 1).2 = 0) :
 (allC I90 (l ++ [aX v b]) next 400000 1).1.countP (fun t => t.f0.f0.any fun i => oeq i.f0 aP) = (if 1 ≤ next then 1 else 0) := by
 obtain ⟨hn, hnd, P, rest, p1, p2, p3, p4⟩ := all_sound h
 have hone : (orderC I90 (l ++ [aX v b]) next).countP qX = (if 1 ≤ next then 1 else 0) := by
  rw [(order_perm _ next).countP_eq, List.countP_filter, List.countP_append]
  have h1 : l.countP (fun y => qX y && !out1 I90 (chkC I90) next y) = 0 := List.countP_eq_zero.2 (fun y hy h2 => by rw [hq y hy] at h2; cases h2)
  have h3 : qX (aX v b) = true := by unfold qX; exact (oeq_iff _ _).2 rfl
  rw [h1, List.countP_cons, List.countP_nil, h3, Bool.true_and, aX_out hv hb]
  by_cases h4 : 1 ≤ next <;> simp [h4]
 have hrest : rest.countP qX = 0 := List.countP_eq_zero.2 (fun y hy h2 => by
  have hmem : y ∈ orderC I90 (l ++ [aX v b]) next := p3.mem_iff.1 (List.mem_append_right _ hy)
  have h3 := (order_mem hmem).1
  rcases List.mem_append.1 h3 with h3 | h3
  ·rw [hq y h3] at h2; cases h2
  ·rw [List.mem_singleton.1 h3] at hy
   have := p4 _ hy
   rw [aX_fits hv hb] at this
   cases this)
 have hcount := p3.countP_eq qX
 rw [List.countP_append, hrest, hone, Nat.add_zero] at hcount
 rw [p1, List.countP_map, ← hcount]
 have hle : ((P.map (·.1)).flatten).countP qX ≤ 1 := by rw [hcount]; split <;> omega
 rw [← countP_parts (fun p : List S90 × Bt × Int => p.1) qX P hle]
 refine List.countP_congr fun p hp => ?_
 have hi := (p2 p hp).1.ins
 show ((p.2.1.ins.any fun i => oeq i.f0 aP) = true) ↔ (p.1.any qX = true)
 rw [hi, List.any_map]
 exact Iff.rfl
/-- What is known of all batches, where none is of that point but the last. -/
structure AAll (l : List S68) (v b next : Int) (B : List S39) (er : Int) : Prop where
 all : allC I90 ((l ++ [x68 v b]).map to90) next 400000 1 = (B, er)
 six : er ≠ 0 → er = 6
 len : er = 0 → B.length ≤ 100
 cnt : er = 0 → B.countP (fun t => t.f0.f0.any fun i => oeq i.f0 aP) = if 1 ≤ next then 1 else 0
theorem alone {l : List S68} {v b next : Int} (hl : l.length ≤ 30) (hv : 100000 ≤ v ∧ v ≤ 1099511627776) (hb : 10000 ≤ b ∧ b ≤ 50000) (hn : 0 ≤ next ∧ next ≤ 1000000) (hno : ∀ (j : Nat) (h : j < l.length), oeq l[j].f0 aP = false) : ∃ B er, AAll l v b next B er := by
 have hM : (l ++ [x68 v b]).map to90 = l.map to90 ++ [aX v b] := by rw [List.map_append]; rfl
 have hq : ∀ y ∈ l.map to90, qX y = false := by
  intro y hy
  obtain ⟨x, hx, rfl⟩ := List.mem_map.1 hy
  obtain ⟨j, hj, rfl⟩ := List.mem_iff_getElem.1 hx
  exact hno j hj
 refine ⟨(allC I90 (l.map to90 ++ [aX v b]) next 400000 1).1, (allC I90 (l.map to90 ++ [aX v b]) next 400000 1).2, by rw [hM], fun he => ?_, fun he => ?_, fun he => count_alone hv hb hq he⟩
 ·unfold allC allV at he ⊢
  rw [wiB_true (a := next) (by omega), if_neg (by decide), if_neg (by simp; omega)] at he ⊢
  by_cases h3 : twiceV I90 (l.map to90 ++ [aX v b]) = true
  ·rw [if_pos h3]
  ·rw [if_neg h3] at he; exact absurd rfl he
 ·obtain ⟨_, _, P, rest, p1, p2, p3, _⟩ := all_sound he
  have h1 := p3.length_eq
  have h2 := order_len I90 (chkC I90) (rtC I90 next) next (l.map to90 ++ [aX v b])
  rw [List.length_append] at h1
  have hne : ∀ Q : List (List S90 × Bt × Int), (∀ p ∈ Q, p.1 ≠ []) → Q.length ≤ ((Q.map (·.1)).flatten).length := by
   intro Q
   induction Q with
   | nil => intro _; simp
   | cons p Q ih =>
    intro hq
    have h5 := hq p List.mem_cons_self
    have h6 : 1 ≤ p.1.length := by
     rcases Nat.eq_zero_or_pos p.1.length with h7 | h7
     ·exact absurd (List.eq_nil_of_length_eq_zero h7) h5
     ·exact h7
    have h8 := ih (fun p' hp' => hq p' (List.mem_cons_of_mem _ hp'))
    rw [List.map_cons, List.flatten_cons, List.length_append, List.length_cons]
    omega
  have h3 := hne P (fun p hp => (p2 p hp).1.ne)
  rw [p1, List.length_map]
  have h9 : (orderC I90 (l.map to90 ++ [aX v b]) next).length ≤ l.length + 1 := by
   have := h2
   rw [List.length_append, List.length_map, List.length_singleton] at this
   exact this
  omega
end Go.Proofs.Ytiodebjjbgcbhaa.Alo
