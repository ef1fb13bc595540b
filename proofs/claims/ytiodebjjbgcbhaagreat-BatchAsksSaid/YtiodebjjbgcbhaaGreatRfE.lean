import Derived.Test.YtiodebjjbgcbhaaGreatQRfax2
import Derived.Test.YtiodebjjbgcbhaaGreatPurBatC
namespace Go.Proofs.YtiodebjjbgcbhaaGreat.RfA
open Go Go.RowKit Go.Proofs YtiodebjjbgcbhaaGreatW.PrintWords YtiodebjjbgcbhaaGreatW.PrintLast YtiodebjjbgcbhaaGreatW.PrintMore YtiodebjjbgcbhaaGreat QRfa Inp LefL Flt FltL
set_option linter.unusedVariables false
set_option linter.unusedSimpArgs false
theorem money_f (a : Int) : coracleref1_Money.f a = some (okA a) := by
 unfold coracleref1_Money.f okA
 by_cases h : a ≥ 0
 ·rw [if_pos h]; simp [h]
 ·rw [if_neg h]; simp; omega
theorem rrate_f (f w : Int) : coracleref1_Rate.f f w = some (rateS f w) := by
 unfold coracleref1_Rate.f rateS
 rw [money_f]
 simp only [Option.bind_some]
 by_cases hf : okA f = true
 ·rw [if_pos hf]
  by_cases h1 : w < 1
  ·rw [if_pos h1, if_neg (by omega)]
  ·rw [if_neg h1]
   by_cases h2 : w > 4000000
   ·rw [if_pos h2, if_neg (by omega)]
   ·rw [if_neg h2, if_neg (by omega), if_pos ⟨hf, by omega, by omega⟩, mn_min, rate_val (okA_true.1 hf) ⟨by omega, by omega⟩]
 ·rw [if_neg hf, if_neg (by simp [hf])]
def cuV (s d b w : Int) : Int × Int := if ofB s d b w then (min (b * 1000 / w) 1000000000, 0) else (0, 1)
theorem cu_f (s d b w : Int) (k : Nat) : coracleref1_CurveOf.f (k + 1) s d b w = some (cuV s d b w) := by
 unfold coracleref1_CurveOf.f cuV
 have j0 : ∀ c, coracleref1_CurveOf.j0 (k + 1) b w c = if c = true then some (0, 1) else (if (rateS b w).1 < 253 then some (0, 1) else some ((rateS b w).1, 0)) := by
  intro c; simp only [coracleref1_CurveOf.j0, rrate_f, Option.bind_some]
 have no : ∀ {p : Prop}, (ofB s d b w = true → False) → (some ((0 : Int), (1 : Int))) = some (if ofB s d b w = true then (min (b * 1000 / w) 1000000000, 0) else (0, 1)) := fun {p} h => by rw [if_neg (fun e => h e)]
 rw [money_f]
 simp only [j0, Option.bind_some, if_true]
 by_cases h1 : s < 0
 ·rw [if_pos h1]; exact no (p := True) fun e => by have := ofB_true.1 e; omega
 ·rw [if_neg h1]
  by_cases h2 : s > 1000000
  ·rw [if_pos h2]; exact no (p := True) fun e => by have := ofB_true.1 e; omega
  ·rw [if_neg h2]
   by_cases h3 : d < 0
   ·rw [if_pos h3]; exact no (p := True) fun e => by have := ofB_true.1 e; omega
   ·rw [if_neg h3]
    by_cases h4 : d > 1000000
    ·rw [if_pos h4]; exact no (p := True) fun e => by have := ofB_true.1 e; omega
    ·rw [if_neg h4]
     by_cases h5 : okA b = true
     ·rw [if_pos h5]
      by_cases h6 : w < 1
      ·rw [if_pos h6]; exact no (p := True) fun e => by have := ofB_true.1 e; omega
      ·rw [if_neg h6]
       by_cases h7 : w > 4000000
       ·rw [if_pos (by simpa using h7)]; exact no (p := True) fun e => by have := ofB_true.1 e; omega
       ·rw [if_neg (by simpa using h7)]
        have e : rateS b w = (min (b * 1000 / w) 1000000000, 0) := by unfold rateS; rw [if_pos ⟨h5, by omega, by omega⟩]
        rw [e]
        by_cases h8 : min (b * 1000 / w) 1000000000 < 253
        ·rw [if_pos h8]; exact no (p := True) fun e => by have := ofB_true.1 e; omega
        ·rw [if_neg h8, if_pos (ofB_true.2 ⟨⟨by omega, by omega⟩, ⟨by omega, by omega⟩, okA_true.1 h5, ⟨by omega, by omega⟩, by omega⟩)]
     ·rw [if_neg h5]; exact no (p := True) fun e => h5 (okA_true.2 (ofB_true.1 e).2.2.1)
theorem rat_f {f l t h : Int} (y : lineB f l t h = true) (x : Int) (k : Nat) : coracleref1_At.f (k + 1) f l t h x = some (atV f l t h x) := by
 have hb := lineB_true.1 y
 unfold coracleref1_At.f atV
 have j0 : ∀ b, coracleref1_At.j0 (k + 1) f l t h x b = if b = true then some h else if x ≤ f then some l else if wrap64 (t - f) = 0 then none else some (wrap64 (l + wrap64 (Int.tdiv (wrap64 (wrap64 (h - l) * wrap64 (x - f))) (wrap64 (t - f))))) := by
  intro b; simp only [coracleref1_At.j0]
 by_cases a : x ≥ t
 ·rw [if_pos a]
  by_cases b : t > f
  ·rw [if_pos b, j0, if_pos rfl, if_neg (by omega), if_pos (by omega)]
  ·rw [if_neg b, j0]
   by_cases c : x ≥ f
   ·rw [if_pos (by simpa using c), if_neg (by omega), if_pos (by omega)]
   ·exfalso; omega
 ·rw [if_neg a, j0, if_neg (by simp)]
  by_cases c : x ≤ f
  ·rw [if_pos c]
   by_cases d : x < f
   ·rw [if_pos d]
   ·have : x = f := by omega
    subst this
    rw [if_neg d, if_neg (by omega), Int.sub_self, Int.mul_zero, Int.zero_ediv, Int.add_zero]
  ·have hp := at_mid hb (show f ≤ x by omega) (show x < t by omega)
   rw [if_neg c, if_neg (show ¬ x < f by omega), if_neg (show ¬ t ≤ x by omega), w64 (n := t - f) (by omega) (by omega), if_neg (by omega), w64 (n := h - l) (by omega) (by omega), w64 (n := x - f) (by omega) (by omega), w64 (n := (h - l) * (x - f)) (by omega) (by omega), Int.tdiv_eq_ediv_of_nonneg hp.1, w64 (n := (h - l) * (x - f) / (t - f)) (by omega) (by omega), w64 (by omega) (by omega)]
theorem radd_f (a b : Int) : coracleref1_Add.f a b = some (addS a b) := by
 unfold coracleref1_Add.f addS
 simp only [money_f, Option.bind_some]
 cases okA a <;> cases okA b <;> cases okA (wrap64 (a + b)) <;> simp
theorem rtotal_l (xs : List Int) (hx : xs.length ≤ 140737488351232) : ∀ (d k i : Nat) (s : Int), i + d = xs.length → d < k → coracleref1_Total.l0 k xs s (i : Int) = some (totS s (xs.drop i)) := by
 intro d
 induction d with
 | zero =>
  intro k i s hi hk
  obtain ⟨k, rfl⟩ : ∃ j, k = j + 1 := ⟨k - 1, by omega⟩
  rw [coracleref1_Total.l0, if_neg (by omega), List.drop_of_length_le (by omega)]; rfl
 | succ d ih =>
  intro k i s hi hk
  obtain ⟨k, rfl⟩ : ∃ j, k = j + 1 := ⟨k - 1, by omega⟩
  have hlt : i < xs.length := by omega
  rw [coracleref1_Total.l0, if_pos (by omega), if_pos (by omega), rd_at hlt, radd_f, List.drop_eq_getElem_cons hlt]
  simp only [Option.bind_some]
  rw [totS]
  by_cases h : (addS s xs[i]).2 = 0
  ·rw [if_pos h, if_pos h]
   have : wrap64 ((i : Int) + 1) = ((i + 1 : Nat) : Int) := by rw [w64 (by omega) (by omega)]; omega
   rw [this]
   exact ih k (i + 1) _ (by omega) (by omega)
  ·rw [if_neg h, if_neg h]
   congr 1
   unfold addS at h ⊢
   split at h
   ·exact absurd rfl h
   ·rw [if_neg (by assumption)]
theorem rtotal_f (xs : List Int) (hx : xs.length ≤ 140737488351232) (k : Nat) (hk : xs.length < k) : coracleref1_Total.f k xs = some (totS 0 xs) := by
 unfold coracleref1_Total.f
 have := rtotal_l xs hx xs.length k 0 0 (by omega) hk
 simpa using this
theorem rwit_f (k : Int) : coracleref1_Wit.f k = some (witV k) := by
 unfold coracleref1_Wit.f witV
 repeat' split
 all_goals rfl
theorem rwitness_f (kind key : Int) (pre : ByteArray) : coracleref1_witness.f kind key pre = some (witB kind key pre) := by
 unfold coracleref1_witness.f witB
 by_cases h1 : kind ≥ 1
 ·rw [if_pos h1]
  by_cases h2 : kind ≤ 4
  ·rw [if_pos h2]
   by_cases h3 : key ≥ 0
   ·rw [if_pos h3]
    by_cases h4 : key ≤ 1073741824
    ·rw [if_pos h4]
     by_cases h5 : (pre.size : Int) ≤ 64
     ·rw [if_pos h5]
      by_cases h6 : pre.toList = ([] : List UInt8)
      ·rw [if_pos h6]; by_cases h7 : kind = 2 <;> simp [h1, h2, h3, h4, h5, h6, h7]
      ·rw [if_neg h6]
       have h8 : pre.toList.isEmpty = false := by rw [List.isEmpty_eq_false_iff]; exact h6
       by_cases h7 : kind = 2 <;> simp [h1, h2, h3, h4, h5, h8, h7]
     ·rw [if_neg h5]; simp [h5]
    ·rw [if_neg h4]; simp [h4]
   ·rw [if_neg h3]; simp [h3]
  ·rw [if_neg h2]; simp [h2]
 ·rw [if_neg h1]; simp [h1]
theorem rfee_f (w r : Int) (k : Nat) : coracleref1_Fee.f (k + 1) w r = some (feeS w r) := by
 have j0 : ∀ b, coracleref1_Fee.j0 (k + 1) w r b = if b = true then some (0, 11) else (if Int.tmod (wrap64 (w * r)) 1000 > 0 then some (if okA (wrap64 (wrap64 (Int.tdiv (wrap64 (w * r)) 1000) + 1)) then (wrap64 (wrap64 (Int.tdiv (wrap64 (w * r)) 1000) + 1), 0) else (0, 11)) else some (if okA (wrap64 (Int.tdiv (wrap64 (w * r)) 1000)) then (wrap64 (Int.tdiv (wrap64 (w * r)) 1000), 0) else (0, 11))) := by
  intro b; simp only [coracleref1_Fee.j0, money_f, Option.bind_some]
  by_cases h : b = true
  ·rw [if_pos h, if_pos h]
  ·rw [if_neg h, if_neg h]
   split <;> split <;> rfl
 unfold coracleref1_Fee.f feeS
 simp only [j0, if_true]
 by_cases h1 : w < 0
 ·rw [if_pos h1, if_neg (by omega)]
 ·rw [if_neg h1]
  by_cases h2 : w > 4000000
  ·rw [if_pos h2, if_neg (by omega)]
  ·rw [if_neg h2]
   by_cases h3 : r < 0
   ·rw [if_pos h3, if_neg (by omega)]
   ·rw [if_neg h3]
    by_cases h4 : r > 1000000000
    ·rw [if_pos (by simpa using h4), if_neg (by omega)]
    ·rw [if_neg (by simpa using h4)]
     have hp := LefL.prod_bound (show 0 ≤ w by omega) (show w ≤ 4000000 by omega) (show 0 ≤ r by omega) (show r ≤ 1000000000 by omega)
     rw [w64 (n := w * r) (by omega) (by omega), Int.tdiv_eq_ediv_of_nonneg hp.1, Int.tmod_eq_emod_of_nonneg hp.1, w64 (n := w * r / 1000) (by omega) (by omega)]
     generalize w * r = p at *
     rw [w64 (n := p / 1000 + 1) (by omega) (by omega)]
     by_cases h5 : p % 1000 > 0
     ·rw [if_pos h5, show p / 1000 + 1 = LefL.up p by unfold LefL.up; omega]
      have hu : 0 ≤ LefL.up p := by unfold LefL.up; omega
      by_cases h6 : LefL.up p ≤ 2100000000000000
      ·rw [if_pos (okA_true.2 ⟨hu, h6⟩), if_pos ⟨by omega, by omega, by omega, by omega, h6⟩]
      ·rw [if_neg (by rw [okA_true]; omega), if_neg (by omega)]
     ·rw [if_neg h5, show p / 1000 = LefL.up p by unfold LefL.up; omega]
      have hu : 0 ≤ LefL.up p := by unfold LefL.up; omega
      by_cases h6 : LefL.up p ≤ 2100000000000000
      ·rw [if_pos (okA_true.2 ⟨hu, h6⟩), if_pos ⟨by omega, by omega, by omega, by omega, h6⟩]
      ·rw [if_neg (by rw [okA_true]; omega), if_neg (by omega)]
end Go.Proofs.YtiodebjjbgcbhaaGreat.RfA
namespace Go.Proofs.YtiodebjjbgcbhaaGreat.Inp
open Go.RowKit Go.Sort Go.Lib Go.Shelf Go.Proofs YtiodebjjbgcbhaaGreatW.PrintWords YtiodebjjbgcbhaaGreatW.PrintMore YtiodebjjbgcbhaaGreat RowK Fill OrdO
attribute [local go_sem ↓ high] Wide.hv44 Wide.hv33 Wide.hv37
set_option linter.unusedVariables false
set_option linter.unusedSectionVars false
variable {α : Type}
set_option maxHeartbeats 4000000 in
set_option maxRecDepth 100000 in
theorem refin_calls (I : Spec α) (x : α) (w : World) : Calls Tryz.prog 27 #[.agg (I.enc x).toArray] w fun e w' => e = .returned (.agg (I.inCells x).toArray) ∧ Below w.heap.size w w' := by
 have hx := I.hk x
 have tx := I.take_pt x
 have lx := I.hpt x
 have a1 := I.at_seq x
 have a2 := I.at_kind x
 have a3 := I.at_key x
 have a4 := I.at_pre x
 unfold Spec.inCells
 generalize I.pt x = px at tx lx ⊢
 generalize hcx : I.enc x = cx at hx tx a1 a2 a3 a4 ⊢
 generalize I.seq x = n1 at a1 ⊢
 generalize I.kind x = n2 at a2 ⊢
 generalize I.key x = n3 at a3 ⊢
 generalize I.pre x = n4 at a4 ⊢
 obtain ⟨u0, u1, u2, u3, u4, u5, u6, u7, u8, u9, u10, u11, u12, u13, u14, u15, u16, u17, u18, u19, u20, u21, u22, u23, u24, u25, u26, u27, u28, u29, u30, u31, u32, rfl⟩ := list33 lx
 have hone : ∀ v ∈ ([u0, u1, u2, u3, u4, u5, u6, u7, u8, u9, u10, u11, u12, u13, u14, u15, u16, u17, u18, u19, u20, u21, u22, u23, u24, u25, u26, u27, u28, u29, u30, u31, u32] : List Value), v.oneCell' = true := by
  intro v hv
  have h := I.h1 x v
  rw [hcx] at h
  exact h (List.mem_of_mem_take (by rw [tx]; exact hv))
 have hbx : ((w.alloc (.cells cx.toArray 42)).alloc (.cells #[Value.int .u8 0, Value.int .u8 0, Value.int .u8 0, Value.int .u8 0, Value.int .u8 0, Value.int .u8 0, Value.int .u8 0, Value.int .u8 0, Value.int .u8 0, Value.int .u8 0, Value.int .u8 0, Value.int .u8 0, Value.int .u8 0, Value.int .u8 0, Value.int .u8 0, Value.int .u8 0, Value.int .u8 0, Value.int .u8 0, Value.int .u8 0, Value.int .u8 0, Value.int .u8 0, Value.int .u8 0, Value.int .u8 0, Value.int .u8 0, Value.int .u8 0, Value.int .u8 0, Value.int .u8 0, Value.int .u8 0, Value.int .u8 0, Value.int .u8 0, Value.int .u8 0, Value.int .u8 0, Value.int .i64 0, Value.int .i64 0, Value.int .i64 0, Value.int .i64 0, Value.string { data := #[] }] 79)).heap[w.heap.size]? = some (.cells cx.toArray 42 (0, 0)) := (Below.heap_alloc _ _ _ (by simp)).trans (blk_new w _)
 have hl1 : Sem.run Tryz.prog (Wide.heavy0 ⟨w.heap.size, 0, none⟩ 33) ((w.alloc (.cells cx.toArray 42)).alloc (.cells #[Value.int .u8 0, Value.int .u8 0, Value.int .u8 0, Value.int .u8 0, Value.int .u8 0, Value.int .u8 0, Value.int .u8 0, Value.int .u8 0, Value.int .u8 0, Value.int .u8 0, Value.int .u8 0, Value.int .u8 0, Value.int .u8 0, Value.int .u8 0, Value.int .u8 0, Value.int .u8 0, Value.int .u8 0, Value.int .u8 0, Value.int .u8 0, Value.int .u8 0, Value.int .u8 0, Value.int .u8 0, Value.int .u8 0, Value.int .u8 0, Value.int .u8 0, Value.int .u8 0, Value.int .u8 0, Value.int .u8 0, Value.int .u8 0, Value.int .u8 0, Value.int .u8 0, Value.int .u8 0, Value.int .i64 0, Value.int .i64 0, Value.int .i64 0, Value.int .i64 0, Value.string { data := #[] }] 79)) = .ok #[u0, u1, u2, u3, u4, u5, u6, u7, u8, u9, u10, u11, u12, u13, u14, u15, u16, u17, u18, u19, u20, u21, u22, u23, u24, u25, u26, u27, u28, u29, u30, u31, u32] _ := row_load hbx 0 33 _ lx (by rw [List.drop_zero]; exact tx)
 have k34 : ((w.alloc (.cells cx.toArray 42)).alloc (.cells #[Value.int .u8 0, Value.int .u8 0, Value.int .u8 0, Value.int .u8 0, Value.int .u8 0, Value.int .u8 0, Value.int .u8 0, Value.int .u8 0, Value.int .u8 0, Value.int .u8 0, Value.int .u8 0, Value.int .u8 0, Value.int .u8 0, Value.int .u8 0, Value.int .u8 0, Value.int .u8 0, Value.int .u8 0, Value.int .u8 0, Value.int .u8 0, Value.int .u8 0, Value.int .u8 0, Value.int .u8 0, Value.int .u8 0, Value.int .u8 0, Value.int .u8 0, Value.int .u8 0, Value.int .u8 0, Value.int .u8 0, Value.int .u8 0, Value.int .u8 0, Value.int .u8 0, Value.int .u8 0, Value.int .i64 0, Value.int .i64 0, Value.int .i64 0, Value.int .i64 0, Value.string { data := #[] }] 79)).cell? ⟨w.heap.size, 34, none⟩ = _ := (blk_cell hbx 34).trans (by simpa using a2)
 have k35 : ((w.alloc (.cells cx.toArray 42)).alloc (.cells #[Value.int .u8 0, Value.int .u8 0, Value.int .u8 0, Value.int .u8 0, Value.int .u8 0, Value.int .u8 0, Value.int .u8 0, Value.int .u8 0, Value.int .u8 0, Value.int .u8 0, Value.int .u8 0, Value.int .u8 0, Value.int .u8 0, Value.int .u8 0, Value.int .u8 0, Value.int .u8 0, Value.int .u8 0, Value.int .u8 0, Value.int .u8 0, Value.int .u8 0, Value.int .u8 0, Value.int .u8 0, Value.int .u8 0, Value.int .u8 0, Value.int .u8 0, Value.int .u8 0, Value.int .u8 0, Value.int .u8 0, Value.int .u8 0, Value.int .u8 0, Value.int .u8 0, Value.int .u8 0, Value.int .i64 0, Value.int .i64 0, Value.int .i64 0, Value.int .i64 0, Value.string { data := #[] }] 79)).cell? ⟨w.heap.size, 35, none⟩ = _ := (blk_cell hbx 35).trans (by simpa using a3)
 have k36 : ((w.alloc (.cells cx.toArray 42)).alloc (.cells #[Value.int .u8 0, Value.int .u8 0, Value.int .u8 0, Value.int .u8 0, Value.int .u8 0, Value.int .u8 0, Value.int .u8 0, Value.int .u8 0, Value.int .u8 0, Value.int .u8 0, Value.int .u8 0, Value.int .u8 0, Value.int .u8 0, Value.int .u8 0, Value.int .u8 0, Value.int .u8 0, Value.int .u8 0, Value.int .u8 0, Value.int .u8 0, Value.int .u8 0, Value.int .u8 0, Value.int .u8 0, Value.int .u8 0, Value.int .u8 0, Value.int .u8 0, Value.int .u8 0, Value.int .u8 0, Value.int .u8 0, Value.int .u8 0, Value.int .u8 0, Value.int .u8 0, Value.int .u8 0, Value.int .i64 0, Value.int .i64 0, Value.int .i64 0, Value.int .i64 0, Value.string { data := #[] }] 79)).cell? ⟨w.heap.size, 36, none⟩ = _ := (blk_cell hbx 36).trans (by simpa using a4)
 have k37 : ((w.alloc (.cells cx.toArray 42)).alloc (.cells #[Value.int .u8 0, Value.int .u8 0, Value.int .u8 0, Value.int .u8 0, Value.int .u8 0, Value.int .u8 0, Value.int .u8 0, Value.int .u8 0, Value.int .u8 0, Value.int .u8 0, Value.int .u8 0, Value.int .u8 0, Value.int .u8 0, Value.int .u8 0, Value.int .u8 0, Value.int .u8 0, Value.int .u8 0, Value.int .u8 0, Value.int .u8 0, Value.int .u8 0, Value.int .u8 0, Value.int .u8 0, Value.int .u8 0, Value.int .u8 0, Value.int .u8 0, Value.int .u8 0, Value.int .u8 0, Value.int .u8 0, Value.int .u8 0, Value.int .u8 0, Value.int .u8 0, Value.int .u8 0, Value.int .i64 0, Value.int .i64 0, Value.int .i64 0, Value.int .i64 0, Value.string { data := #[] }] 79)).cell? ⟨w.heap.size, 37, none⟩ = _ := (blk_cell hbx 37).trans (by simpa using a1)
 have hbz : ((w.alloc (.cells cx.toArray 42)).alloc (.cells #[Value.int .u8 0, Value.int .u8 0, Value.int .u8 0, Value.int .u8 0, Value.int .u8 0, Value.int .u8 0, Value.int .u8 0, Value.int .u8 0, Value.int .u8 0, Value.int .u8 0, Value.int .u8 0, Value.int .u8 0, Value.int .u8 0, Value.int .u8 0, Value.int .u8 0, Value.int .u8 0, Value.int .u8 0, Value.int .u8 0, Value.int .u8 0, Value.int .u8 0, Value.int .u8 0, Value.int .u8 0, Value.int .u8 0, Value.int .u8 0, Value.int .u8 0, Value.int .u8 0, Value.int .u8 0, Value.int .u8 0, Value.int .u8 0, Value.int .u8 0, Value.int .u8 0, Value.int .u8 0, Value.int .i64 0, Value.int .i64 0, Value.int .i64 0, Value.int .i64 0, Value.string { data := #[] }] 79)).heap[w.heap.size + 1]? = some (.cells #[Value.int .u8 0, Value.int .u8 0, Value.int .u8 0, Value.int .u8 0, Value.int .u8 0, Value.int .u8 0, Value.int .u8 0, Value.int .u8 0, Value.int .u8 0, Value.int .u8 0, Value.int .u8 0, Value.int .u8 0, Value.int .u8 0, Value.int .u8 0, Value.int .u8 0, Value.int .u8 0, Value.int .u8 0, Value.int .u8 0, Value.int .u8 0, Value.int .u8 0, Value.int .u8 0, Value.int .u8 0, Value.int .u8 0, Value.int .u8 0, Value.int .u8 0, Value.int .u8 0, Value.int .u8 0, Value.int .u8 0, Value.int .u8 0, Value.int .u8 0, Value.int .u8 0, Value.int .u8 0, Value.int .i64 0, Value.int .i64 0, Value.int .i64 0, Value.int .i64 0, Value.string { data := #[] }] 79 (0, 0)) := by
  have := blk_new (w.alloc (.cells cx.toArray 42)) (.cells #[Value.int .u8 0, Value.int .u8 0, Value.int .u8 0, Value.int .u8 0, Value.int .u8 0, Value.int .u8 0, Value.int .u8 0, Value.int .u8 0, Value.int .u8 0, Value.int .u8 0, Value.int .u8 0, Value.int .u8 0, Value.int .u8 0, Value.int .u8 0, Value.int .u8 0, Value.int .u8 0, Value.int .u8 0, Value.int .u8 0, Value.int .u8 0, Value.int .u8 0, Value.int .u8 0, Value.int .u8 0, Value.int .u8 0, Value.int .u8 0, Value.int .u8 0, Value.int .u8 0, Value.int .u8 0, Value.int .u8 0, Value.int .u8 0, Value.int .u8 0, Value.int .u8 0, Value.int .u8 0, Value.int .i64 0, Value.int .i64 0, Value.int .i64 0, Value.int .i64 0, Value.string { data := #[] }] 79)
  rwa [World.size_alloc] at this
 have h1 : (#[u0, u1, u2, u3, u4, u5, u6, u7, u8, u9, u10, u11, u12, u13, u14, u15, u16, u17, u18, u19, u20, u21, u22, u23, u24, u25, u26, u27, u28, u29, u30, u31, u32, .int .i64 n1, .int .i64 n2, .int .i64 n3, Value.string n4] : Array Value).all (·.oneCell') = true := by
  rw [Array.all_eq_true_iff_forall_mem]
  intro v hv
  have e : [u0, u1, u2, u3, u4, u5, u6, u7, u8, u9, u10, u11, u12, u13, u14, u15, u16, u17, u18, u19, u20, u21, u22, u23, u24, u25, u26, u27, u28, u29, u30, u31, u32, Value.int .i64 n1, Value.int .i64 n2, Value.int .i64 n3, Value.string n4] = [u0, u1, u2, u3, u4, u5, u6, u7, u8, u9, u10, u11, u12, u13, u14, u15, u16, u17, u18, u19, u20, u21, u22, u23, u24, u25, u26, u27, u28, u29, u30, u31, u32] ++ [Value.int .i64 n1, Value.int .i64 n2, Value.int .i64 n3, Value.string n4] := rfl
  rw [List.mem_toArray, e, List.mem_append] at hv
  rcases hv with hv | hv
  ·exact hone v hv
  ·simp only [List.mem_cons, List.not_mem_nil, or_false] at hv
   rcases hv with rfl | rfl | rfl | rfl <;> rfl
 have HB := Ak (show Below w.heap.size w ((w.alloc (.cells cx.toArray 42)).alloc (.cells #[Value.int .u8 0, Value.int .u8 0, Value.int .u8 0, Value.int .u8 0, Value.int .u8 0, Value.int .u8 0, Value.int .u8 0, Value.int .u8 0, Value.int .u8 0, Value.int .u8 0, Value.int .u8 0, Value.int .u8 0, Value.int .u8 0, Value.int .u8 0, Value.int .u8 0, Value.int .u8 0, Value.int .u8 0, Value.int .u8 0, Value.int .u8 0, Value.int .u8 0, Value.int .u8 0, Value.int .u8 0, Value.int .u8 0, Value.int .u8 0, Value.int .u8 0, Value.int .u8 0, Value.int .u8 0, Value.int .u8 0, Value.int .u8 0, Value.int .u8 0, Value.int .u8 0, Value.int .u8 0, Value.int .i64 0, Value.int .i64 0, Value.int .i64 0, Value.int .i64 0, Value.string { data := #[] }] 79)) from below_alloc (below_alloc (Below.refl _ _) _) _)
 have HX := Ak (And.intro hbz h1)
 clear hone hbz h1 hbx lx
 go_enter Tryz.func27, Tryz.ntmps27
 go_wp2_with (first | ((with_reducible refine gate_store (t := 79) (p := 2) rfl ?_); refine PutW.store_event ?b1 ?b2 79 (.tmp 2) (.tmp 11) ?b3 (g := w.heap.size + 1) (t := 79) (cells := #[u0, u1, u2, u3, u4, u5, u6, u7, u8, u9, u10, u11, u12, u13, u14, u15, u16, u17, u18, u19, u20, u21, u22, u23, u24, u25, u26, u27, u28, u29, u30, u31, u32, .int .i64 n1, .int .i64 n2, .int .i64 n3, Value.string n4]) ?a1 ?a2 HX.1.1 ?a3 ?a4 HX.1.2 ?_; (case b1 => rfl); (case b2 => rfl); (case b3 => rfl); (case a1 => first | rfl | (go_simp; done)); (case a2 => first | rfl | (go_simp; done)); (case a3 => rfl); (case a4 => kernel_rfl); intro w3 hz3 hs3 hg3; have hl3 : Sem.run Tryz.prog (Wide.heavy0 ⟨w.heap.size + 1, 0, none⟩ 37) w3 = _ := row_load (cur := [u0, u1, u2, u3, u4, u5, u6, u7, u8, u9, u10, u11, u12, u13, u14, u15, u16, u17, u18, u19, u20, u21, u22, u23, u24, u25, u26, u27, u28, u29, u30, u31, u32, Value.int .i64 n1, Value.int .i64 n2, Value.int .i64 n3, Value.string n4]) hz3 0 37 _ rfl rfl; have HB3 := Ak (pw_below_grown HB.1 (some (w.heap.size + 1)) HB.1.size hg3 (fun k e => by cases e; omega)); have BK3 := Ak hz3; clear hl3 hz3 hs3 hg3 hl1 k34 k35 k36 k37))
 refine bodyPost_ret (results_cell_row rfl _ _ (w.heap.size + 1) 79 #[u0, u1, u2, u3, u4, u5, u6, u7, u8, u9, u10, u11, u12, u13, u14, u15, u16, u17, u18, u19, u20, u21, u22, u23, u24, u25, u26, u27, u28, u29, u30, u31, u32, .int .i64 n1, .int .i64 n2, .int .i64 n3, Value.string n4] (0, 0) _ rfl BK3.1 Tryz.underlying79 rfl (by kernel_rfl)) rfl ?_
 exact ⟨by simp, HB3.1⟩
end Go.Proofs.YtiodebjjbgcbhaaGreat.Inp
namespace Go.Proofs.YtiodebjjbgcbhaaGreat.RfB
open Go.RowKit Go.Sort Go.Lib Go.Shelf Go.Proofs YtiodebjjbgcbhaaGreatW.PrintWords YtiodebjjbgcbhaaGreatW.PrintLast YtiodebjjbgcbhaaGreatW.PrintMore YtiodebjjbgcbhaaGreat Hand Inp RowK Fill OrdO QLef LefL
set_option linter.unusedVariables false
set_option linter.unusedSimpArgs false
set_option maxHeartbeats 8000000 in
set_option maxRecDepth 100000 in
theorem refin1_calls (x : S79) (W : World) : Calls Tryz.prog 26 #[.agg (encIn x).toArray] W fun e w' => e = .returned (.bool (inB x)) ∧ Below W.heap.size W w' := by
 have T2 := Ak (fun V => QRfa.coracleref1_witness.calls x.f2.f0 x.f2.f1 x.f2.f2 _ V (RfA.rwitness_f _ _ _))
 have KC := Ak (fun (g : Nat) (V : World) (h : V.heap[g]? = some (.cells (encIn x).toArray 79 (0, 0))) => And.intro (show V.cell? ⟨g, 32, none⟩ = some (.int .i64 x.f0.f1) from (blk_cell h 32).trans rfl) (And.intro (show V.cell? ⟨g, 33, none⟩ = some (.int .i64 x.f1) from (blk_cell h 33).trans rfl) (And.intro (show V.cell? ⟨g, 34, none⟩ = some (.int .i64 x.f2.f0) from (blk_cell h 34).trans rfl) (And.intro (show V.cell? ⟨g, 35, none⟩ = some (.int .i64 x.f2.f1) from (blk_cell h 35).trans rfl) (show V.cell? ⟨g, 36, none⟩ = some (.string x.f2.f2) from (blk_cell h 36).trans rfl)))))
 unfold inB
 rw [show decide (x.f0.f1 ≤ 99) = decide (x.f0.f1 < 100) by rw [decide_eq_decide]; omega]
 generalize witB x.f2.f0 x.f2.f1 x.f2.f2 = b2 at T2 ⊢
 generalize x.f0.f1 = n0 at KC ⊢
 generalize x.f1 = n1 at KC ⊢
 generalize x.f2.f0 = n2 at T2 KC
 generalize x.f2.f1 = n3 at T2 KC
 generalize x.f2.f2 = n4 at T2 KC
 generalize (encIn x).toArray = cs at KC ⊢
 have HB := Ak (Below.refl W.heap.size W)
 have hu38 := Tryz.underlying79
 have hu36 := Tryz.underlying34
 have hu34 := Tryz.underlying32
 go_enter Tryz.func26, Tryz.ntmps26
 go_upto_region 1 with (first | ((with_reducible refine gate_dst (N := 1) rfl ?_); refine box_event ?hg (N := 1) ?hd (cs := cs) (t := 79) ?hr ?_; (case hd => rfl); (case hg => rfl); (case hr => first | (go_simp; done) | (go_simp; rfl)); intro gb hg w1 hbox hb; replace HB := Ak (below_step HB.1 hb); have BK := Ak hbox; clear hbox hb hg))
 obtain ⟨k0, k1, k2, k3, k4⟩ := KC.1 _ _ BK.1
 have fin : ∀ a b c d : Bool, a = false ∨ a = true ∧ (b = false ∨ b = true ∧ (c = false ∨ c = true ∧ (d = false ∨ d = true))) := by decide
 rcases fin (decide (0 ≤ n0)) (decide (n0 < 100)) (decide (0 ≤ n1)) (decide (n1 ≤ 65535)) with h1 | ⟨h1, h2 | ⟨h2, h3 | ⟨h3, h4 | h4⟩⟩⟩ <;> clear fin <;> (go_wp2_with (go_at_call 57; (with_reducible refine (T2.1 _).mono ?_); rintro e w2 ⟨rfl, hb⟩; replace HB := Ak (below_step HB.1 hb); clear hb)) <;> (go_ret; exact ⟨by simp [*], HB.1⟩)
end Go.Proofs.YtiodebjjbgcbhaaGreat.RfB
namespace Go.Proofs.YtiodebjjbgcbhaaGreat.RfB
open Go.RowKit Go.Sort Go.Lib Go.Shelf Go.Proofs YtiodebjjbgcbhaaGreatW.PrintWords YtiodebjjbgcbhaaGreatW.PrintLast YtiodebjjbgcbhaaGreatW.PrintMore YtiodebjjbgcbhaaGreat Hand Inp RowK Fill OrdO QLef LefL
set_option linter.unusedVariables false
set_option linter.unusedSimpArgs false
theorem wits_append : ∀ a b : List S79, wits (a ++ b) = wits a + wits b
 | [], b => by simp [wits]
 | x :: a, b => by rw [List.cons_append, wits, wits, wits_append a b]; omega
set_option maxHeartbeats 8000000 in
set_option maxRecDepth 100000 in
theorem refweight_calls (A0 : Option Addr) (c0 : Nat) (l0 : List S79) (n : Nat) (hn : l0.length = n) (A1 : Option Addr) (c1 m : Nat) (lock : Int) (w : World) (hr : Kd.C k79 w A0 n l0) (hl : n < 1000000) (hm : m < 1000000) (hc : n ≤ c0) :
 Calls Tryz.prog 40 #[.agg #[.slice A0 n c0, .slice A1 m c1, .int .i64 lock]] w fun e w' => e = .returned (.int .i64 (weightV l0 m)) ∧ Below w.heap.size w w' := by
 have HR := Ak hr
 have HN := Ak hn
 have HC := Ak hc
 have WB := Ak (fun i => wits_bounds (l0.take i))
 have WS := Ak (show weightV l0 m = 4 * (10 + 41 * (n : Int) + 34 * (m : Int)) + wits (l0.take n) by unfold weightV; rw [List.take_of_length_le (by omega), hn])
 have IX := Ak (fun (k : Int) V => QRfa.coracleref1_Wit.calls k _ V (RfA.rwit_f k))
 generalize weightV l0 m = res at WS ⊢
 clear hr hn hc
 have HB := Ak (Below.refl w.heap.size w)
 have e1 : IntKind.i64.wrap (41 * (n : Int)) = 41 * (n : Int) := by rw [IntKind.wrap_i64]; omega
 have e2 : IntKind.i64.wrap (10 + 41 * (n : Int)) = 10 + 41 * (n : Int) := by rw [IntKind.wrap_i64]; omega
 have e3 : IntKind.i64.wrap (34 * (m : Int)) = 34 * (m : Int) := by rw [IntKind.wrap_i64]; omega
 have e4 : IntKind.i64.wrap (10 + 41 * (n : Int) + 34 * (m : Int)) = 10 + 41 * (n : Int) + 34 * (m : Int) := by rw [IntKind.wrap_i64]; omega
 have e5 : IntKind.i64.wrap (4 * (10 + 41 * (n : Int) + 34 * (m : Int))) = 4 * (10 + 41 * (n : Int) + 34 * (m : Int)) := by rw [IntKind.wrap_i64]; omega
 have hu48 := Tryz.underlying48
 have hu79 := Tryz.underlying79
 have hu34 := Tryz.underlying34
 go_enter Tryz.func40, Tryz.ntmps40
 go_wp2_with (first | ((with_reducible refine gate_dst (N := 1) rfl ?_); refine box_event ?hg (N := 1) ?hd (cs := #[.slice A0 n c0, .slice A1 m c1, .int .i64 lock]) (t := 48) ?hr ?_; (case hd => rfl); (case hg => rfl); (case hr => first | (go_simp; done) | (go_simp; rfl)); intro g1 hg w1 hbox hb; replace HB := Ak (below_step HB.1 hb); have BK := Ak hbox; have k0 := blk_cell hbox 0; have k1 := blk_cell hbox 1; simp only [List.getElem?_toArray, List.getElem?_cons_zero, List.getElem?_cons_succ] at k0 k1; clear hbox hb hg))
 clear e1 e2 e3 e4 e5 k0 k1
 have HL := Ak hl
 have HM := Ak hm
 clear hl hm
 go_loopg [3, 4] n (fun kq v3 v4 wr => ∃ (i : Nat), v4 = .int .i64 i ∧ v3 = .int .i64 (4 * (10 + 41 * (n : Int) + 34 * (m : Int)) + wits (l0.take i)) ∧ i ≤ n ∧ n - i ≤ kq ∧ Aside0 (wr.heap[g1]? = some (.cells #[.slice A0 n c0, .slice A1 m c1, .int .i64 lock] 48 (0, 0))) ∧ Aside0 (Below w.heap.size w wr))
 case atStart => exact ⟨0, rfl, by simp [wits], by omega, by omega, BK, HB⟩
 case round =>
  clear BK HB
  obtain ⟨i, rfl, rfl, hin, hkq, BK, HB⟩ := hrel
  have k0 := blk_cell BK.1 0
  simp only [List.getElem?_toArray, List.getElem?_cons_zero] at k0
  have wb := WB.1 i
  have hll := HL.1
  have hml := HM.1
  have hcc := HC.1
  have hlen : (l0.take i).length = i := by rw [List.length_take, HN.1]; omega
  rw [hlen] at wb
  by_cases hlt : i < n
  ·have hltz : (i : Int) < (n : Int) := by omega
   have hic : (i : Int) ≤ (c0 : Int) := by omega
   obtain ⟨ad, c, rfl, _, hK, hc0⟩ := Kd.C_get (Kd.C_below HR.1 HB.1) z79 (i : Int) (by omega) (by omega)
   have hil : i < l0.length := by rw [HN.1]; exact hlt
   rw [Int.toNat_natCast] at hK hc0
   have hrd : l0.getD i z79 = l0[i] := by rw [List.getD_eq_getElem?_getD, List.getElem?_eq_getElem hil]; rfl
   rw [hrd] at hK
   obtain rfl := k79_open hK
   have hk : wr.cell? (ad.add (i * 37 + 34)) = _ := hc0 34 _ rfl
   rw [add_field _ _ 34 (by omega)] at hk
   clear hc0 hK hrd
   have hW : wits (l0.take (i + 1)) = wits (l0.take i) + witV l0[i].f2.f0 := by rw [List.take_succ_eq_append_getElem hil, wits_append]; simp [wits]
   have HW := Ak hW
   clear hW
   have vb := witV_bounds l0[i].f2.f0
   generalize l0[i].f2.f0 = kind at hk HW vb
   have hz1 : IntKind.i64.wrap (4 * (10 + 41 * (n : Int) + 34 * (m : Int)) + wits (l0.take i) + witV kind) = 4 * (10 + 41 * (n : Int) + 34 * (m : Int)) + wits (l0.take (i + 1)) := by rw [HW.1, IntKind.wrap_i64]; omega
   have hz2 : IntKind.i64.wrap ((i : Int) + 1) = ((i + 1 : Nat) : Int) := by rw [IntKind.wrap_i64]; omega
   go_wp2_with (go_at_call 71; (with_reducible refine (IX.1 _ _).mono ?_); rintro e w2 ⟨rfl, hd⟩; replace HB := Ak (below_step HB.1 (below_drawn0 hd)); replace BK := Ak (blk_below BK.1 (below_drawn0 hd)); clear hd)
   go_roundg (n - (i + 1))
   case rel => exact ⟨i + 1, by simp, rfl, by omega, by omega, BK, HB⟩
   case measure => omega
  ·have hltz : ¬ (i : Int) < (n : Int) := by omega
   obtain rfl : i = n := by omega
   rw [← WS.1]
   go_wp2
   go_ret
   exact ⟨rfl, HB.1⟩
end Go.Proofs.YtiodebjjbgcbhaaGreat.RfB
namespace Go.Proofs.YtiodebjjbgcbhaaGreat.RfB
open Go.RowKit Go.Sort Go.Lib Go.Shelf Go.Proofs YtiodebjjbgcbhaaGreatW.PrintWords YtiodebjjbgcbhaaGreatW.PrintLast YtiodebjjbgcbhaaGreatW.PrintMore YtiodebjjbgcbhaaGreat Hand Inp RowK Fill OrdO QLef LefL
attribute [local go_sem ↓ high] Wide.hv44 Wide.hv33 Wide.hv37
set_option linter.unusedVariables false
set_option linter.unusedSimpArgs false
variable {α : Type}
set_option maxHeartbeats 8000000 in
set_option maxRecDepth 100000 in
theorem refalone_calls (I : Inp.Spec α) (x : α) (w : World) : Calls Tryz.prog 29 #[.agg (I.enc x).toArray] w fun e w' => e = .returned (.int .i64 (aloneV I x)) ∧ Below w.heap.size w w' := by
 have HIN := Ak (fun W => refin_calls I x W)
 have HM := Ak (fun W base ok => I.inS_M x W base ok)
 have HH := Ak (I.hin x)
 have hx := I.hk x
 have HW := Ak (fun A0 c0 A1 c1 W (hr : Kd.C k79 W A0 1 [I.inS x]) (hc : 1 ≤ c0) => refweight_calls A0 c0 [I.inS x] 1 rfl A1 c1 1 0 W hr (by decide) (by decide) hc)
 unfold aloneV
 generalize weightV [I.inS x] 1 = res at HW ⊢
 generalize I.inS x = xs at HM HW
 generalize I.inCells x = ic at HIN HM HH
 generalize I.enc x = cx at hx HIN ⊢
 have CX := Ak hx
 clear hx
 have HB := Ak (Below.refl w.heap.size w)
 have hu42 := Tryz.underlying42
 have hu90 := Tryz.underlying90
 have hu48 := Tryz.underlying48
 go_enter Tryz.func29, Tryz.ntmps29
 go_upto_region 1 with (first | ((with_reducible refine gate_dst (N := 1) rfl ?_); refine box_event ?hg (N := 1) ?hd (cs := cx.toArray) (t := 42) ?hr ?_; (case hd => rfl); (case hg => rfl); (case hr => first | (go_simp; done) | (go_simp; rfl)); intro gb hg w1 hbox hb; replace HB := Ak (below_step HB.1 hb); have BK := Ak hbox; clear hbox hb hg))
 have hl : Sem.run Tryz.prog (Wide.heavy0 ⟨gb, 0, none⟩ 44) w1 = .ok cx.toArray w1 := row_load BK.1 0 44 _ CX.1 (by rw [List.drop_zero, List.take_of_length_le (by rw [CX.1]; exact Nat.le_refl _)])
 go_wp2_with (first | (go_at_call 27; (with_reducible refine (HIN.1 _).mono ?_); rintro e w2 ⟨rfl, hb⟩; replace HB := Ak (below_step HB.1 hb); clear hb hl) | ((with_reducible refine gate_dst (N := 5) rfl ?_); refine Kd.R_lit k79 _ 79 ?hg (N := 5) ?hd (xs := [xs]) (inner := ic) (ok := fun _ => True) (okp := fun _ => True) ?hr ?hp (fun _ hk => hk) trivial (Below.refl _ _) (Nat.le_refl _) (by simp) ?_; (case hd => rfl); (case hg => rfl); (case hr => clear HIN HM CX; obtain ⟨u0, u1, u2, u3, u4, u5, u6, u7, u8, u9, u10, u11, u12, u13, u14, u15, u16, u17, u18, u19, u20, u21, u22, u23, u24, u25, u26, u27, u28, u29, u30, u31, u32, u33, u34, u35, u36, rfl⟩ := list37 HH.1; first | (go_simp; done) | (go_simp; rfl)); (case hp => exact Reps.front (HM.1 _ _ _) HH.1 (Reps.none _ _) (List.append_nil _)); intro v5 w5 hv hb hg_ hnew_; replace HB := Ak (below_step HB.1 hb); obtain ⟨Ai, ci, rfl⟩ := Kd.R_slice hv; have HI := Ak hv; clear hv hb hg_ hnew_) | (go_at_call 40; (with_reducible refine (HW.1 _ _ _ _ _ (Kd.C_below (Kd.R_reads' HI.1).2.2 (below_alloc (Below.refl _ _) _)) (Kd.R_reads' HI.1).2.1).mono ?_); rintro e w9 ⟨rfl, hb⟩; replace HB := Ak (below_step (below_alloc HB.1 _) hb); clear hb))
 go_ret
 exact ⟨rfl, HB.1⟩
def chkR (b : Bool) (v w l c e : Int) : Int := if !b || ((decide (v < 1) || decide (2100000000000000 < v)) || ((decide (w < 0) || decide (65535 < w)) || ((decide (l < 0) || decide (1000000 < l)) || (decide (c < 0) || decide (1000000 < c))))) then 1 else e
theorem out_wi (n a c : Int) : (decide (n < a) || decide (c < n)) = !wiB n a c := by
 unfold wiB
 by_cases h : a ≤ n <;> by_cases h' : n ≤ c <;> simp [h, h'] <;> omega
theorem chkR_eq (I : Inp.Spec α) (x : α) : chkR (inB (I.inS x)) (I.value x) (I.wait x) (I.lock x) (I.conf x) (RfA.cuV (I.since x) (I.dl x) (I.budget x) (aloneV I x)).2 = chkC I x := by
 unfold chkR chkC chkV RfA.cuV
 rw [show inB (I.inS x) = (wiB (I.nn x) 0 99 && (wiB (I.seq x) 0 65535 && witB (I.kind x) (I.key x) (I.pre x))) from rfl, out_wi, out_wi, out_wi, out_wi]
 generalize wiB (I.nn x) 0 99 = b1
 generalize wiB (I.value x) 1 2100000000000000 = b2
 generalize wiB (I.seq x) 0 65535 = b3
 generalize wiB (I.wait x) 0 65535 = b4
 generalize wiB (I.lock x) 0 1000000 = b5
 generalize wiB (I.conf x) 0 1000000 = b6
 generalize witB (I.kind x) (I.key x) (I.pre x) = b7
 generalize ofB (I.since x) (I.dl x) (I.budget x) (aloneV I x) = b8
 generalize min (I.budget x * 1000 / aloneV I x) 1000000000 = m
 cases b1 <;> cases b2 <;> cases b3 <;> cases b4 <;> cases b5 <;> cases b6 <;> cases b7 <;> cases b8 <;> rfl
theorem chk_of (I : Inp.Spec α) (x : α) (h : chkC I x = 0) : ofB (I.since x) (I.dl x) (I.budget x) (aloneV I x) = true := by
 unfold chkC chkV at h
 cases hb : ofB (I.since x) (I.dl x) (I.budget x) (aloneV I x)
 ·rw [hb] at h; split at h <;> simp at h
 ·rfl
theorem tof (d : Bool) {P : Prop} (h : P) : d = true ∨ d = false ∧ P := by
 cases d
 ·exact .inr ⟨rfl, h⟩
 ·exact .inl rfl
theorem nine (b d1 d2 d3 d4 d5 d6 d7 d8 : Bool) : b = false ∨ b = true ∧ (d1 = true ∨ d1 = false ∧ (d2 = true ∨ d2 = false ∧ (d3 = true ∨ d3 = false ∧ (d4 = true ∨ d4 = false ∧ (d5 = true ∨ d5 = false ∧ (d6 = true ∨ d6 = false ∧ (d7 = true ∨ d7 = false ∧ (d8 = true ∨ d8 = false)))))))) := by
 have h := tof d1 (tof d2 (tof d3 (tof d4 (tof d5 (tof d6 (tof d7 (show d8 = true ∨ d8 = false by cases d8 <;> simp)))))))
 cases b
 ·exact .inl rfl
 ·exact .inr ⟨rfl, h⟩
set_option maxHeartbeats 8000000 in
set_option maxRecDepth 100000 in
theorem refcheck_calls (I : Inp.Spec α) (x : α) (w : World) : Calls Tryz.prog 9 #[.agg (I.enc x).toArray] w fun e w' => e = .returned (.int .i64 (chkC I x)) ∧ Below w.heap.size w w' := by
 have mixed : Tryz.prog.follows .mixedOrders = true := by kernel_rfl
 rw [← chkR_eq]
 have HIN := Ak (fun W => refin_calls I x W)
 have H1 := Ak (fun W => refin1_calls (I.inS x) W)
 rw [show encIn (I.inS x) = I.inCells x from (I.inS_cells x).symm] at H1
 have HA := Ak (fun W => refalone_calls I x W)
 have HC := Ak (fun W => QRfa.coracleref1_CurveOf.calls 1 (I.since x) (I.dl x) (I.budget x) (aloneV I x) (RfA.cuV (I.since x) (I.dl x) (I.budget x) (aloneV I x)).1 (RfA.cuV (I.since x) (I.dl x) (I.budget x) (aloneV I x)).2 W (RfA.cu_f _ _ _ _ 0))
 have hx := I.hk x
 have a1 := I.at_value x
 have a6 := (show (I.enc x)[38]? = some (.int .i64 (I.lock x)) from I.at_ x 5)
 have a7 := (show (I.enc x)[39]? = some (.int .i64 (I.wait x)) from I.at_ x 6)
 have a8 := I.at_conf x
 have b1 := (show (I.enc x)[41]? = some (.int .i64 (I.since x)) from I.at_ x 8)
 have b2 := I.at_dl x
 have b3 := I.at_budget x
 generalize inB (I.inS x) = bI at H1 ⊢
 generalize RfA.cuV (I.since x) (I.dl x) (I.budget x) (aloneV I x) = cu at HC ⊢
 generalize aloneV I x = al at HA HC
 generalize I.value x = n1 at a1 ⊢
 generalize I.lock x = n6 at a6 ⊢
 generalize I.wait x = n7 at a7 ⊢
 generalize I.conf x = n8 at a8 ⊢
 generalize I.since x = m1 at b1 HC
 generalize I.dl x = m2 at b2 HC
 generalize I.budget x = m3 at b3 HC
 generalize I.inCells x = ic at HIN H1
 generalize I.enc x = cx at hx a1 a6 a7 a8 b1 b2 b3 HIN HA ⊢
 have CX := Ak hx
 have KC := Ak (fun (g : Nat) (V : World) (h : V.heap[g]? = some (.cells cx.toArray 42 (0, 0))) => And.intro (show V.cell? ⟨g, 33, none⟩ = some (.int .i64 n1) from (blk_cell h 33).trans (by simpa using a1)) (And.intro (show V.cell? ⟨g, 38, none⟩ = some (.int .i64 n6) from (blk_cell h 38).trans (by simpa using a6)) (And.intro (show V.cell? ⟨g, 39, none⟩ = some (.int .i64 n7) from (blk_cell h 39).trans (by simpa using a7)) (And.intro (show V.cell? ⟨g, 40, none⟩ = some (.int .i64 n8) from (blk_cell h 40).trans (by simpa using a8)) (And.intro (show V.cell? ⟨g, 41, none⟩ = some (.int .i64 m1) from (blk_cell h 41).trans (by simpa using b1)) (And.intro (show V.cell? ⟨g, 42, none⟩ = some (.int .i64 m2) from (blk_cell h 42).trans (by simpa using b2)) (show V.cell? ⟨g, 43, none⟩ = some (.int .i64 m3) from (blk_cell h 43).trans (by simpa using b3))))))))
 clear hx a1 a6 a7 a8 b1 b2 b3
 have HB := Ak (Below.refl w.heap.size w)
 have hu42 := Tryz.underlying42
 have hu40 := Tryz.underlying40
 go_enter Tryz.func9, Tryz.ntmps9
 go_upto_region 1 with (first | ((with_reducible refine gate_dst (N := 1) rfl ?_); refine box_event ?hg (N := 1) ?hd (cs := cx.toArray) (t := 42) ?hr ?_; (case hd => rfl); (case hg => rfl); (case hr => first | (go_simp; done) | (go_simp; rfl)); intro gb hg w1 hbox hb; replace HB := Ak (below_step HB.1 hb); have BK := Ak hbox; clear hbox hb hg))
 have hl : Sem.run Tryz.prog (Wide.heavy0 ⟨gb, 0, none⟩ 44) w1 = .ok cx.toArray w1 := row_load BK.1 0 44 _ CX.1 (by rw [List.drop_zero, List.take_of_length_le (by rw [CX.1]; exact Nat.le_refl _)])
 rcases nine bI (decide (n1 < 1)) (decide (2100000000000000 < n1)) (decide (n7 < 0)) (decide (65535 < n7)) (decide (n6 < 0)) (decide (1000000 < n6)) (decide (n8 < 0)) (decide (1000000 < n8)) with h0 | ⟨h0, h1 | ⟨h1, h2 | ⟨h2, h3 | ⟨h3, h4 | ⟨h4, h5 | ⟨h5, h6 | ⟨h6, h7 | ⟨h7, h8 | h8⟩⟩⟩⟩⟩⟩⟩⟩ <;> (go_upto_region 3 with (first | (go_at_call 27; (with_reducible refine (HIN.1 _).mono ?_); rintro e w2 ⟨rfl, hb⟩; replace HB := Ak (below_step HB.1 hb); replace BK := Ak (blk_below BK.1 hb); clear hb hl) | (go_at_call 26; (with_reducible refine (H1.1 _).mono ?_); rintro e w2 ⟨rfl, hb⟩; replace HB := Ak (below_step HB.1 hb); replace BK := Ak (blk_below BK.1 hb); clear hb; obtain ⟨k1, k6, k7, k8, k9⟩ := KC.1 _ _ BK.1; clear k9)))
 iterate 9 (go_ret; exact ⟨by simp [chkR, *], HB.1⟩)
 clear k1 k6 k7 k8
 have c1 := fun dd os => (KC.1 gb (grow (redrawn w2 dd) os) (blk_below BK.1 (below_regrown w2 dd os))).2.2.2.2.1
 have c2 := fun dd os => (KC.1 gb (grow (redrawn w2 dd) os) (blk_below BK.1 (below_regrown w2 dd os))).2.2.2.2.2.1
 have c3 := fun dd os => (KC.1 gb (grow (redrawn w2 dd) os) (blk_below BK.1 (below_regrown w2 dd os))).2.2.2.2.2.2
 have hr : ∀ dd os, Sem.run Tryz.prog (Wide.heavy0 ⟨gb, 0, none⟩ 44) (grow (redrawn w2 dd) os) = .ok cx.toArray (grow (redrawn w2 dd) os) := fun dd os => row_load (blk_below BK.1 (below_regrown w2 dd os)) 0 44 _ CX.1 (by rw [List.drop_zero, List.take_of_length_le (by rw [CX.1]; exact Nat.le_refl _)])
 have en1 := enters_of Tryz.func29 (by kernel_rfl) rfl
 have en2 := enters_of Tryz.func28 (by kernel_rfl) rfl
 refine wp_region_quiet_below mixed (by kernel_rfl) ?_
 repeat (quiet_step (first | exact Calls.regrown_of (HA.1 _) | exact Calls.regrown_of (HC.1 _)))
 refine wpQuiet_nil ?_
 intro _ hw'
 obtain ⟨⟨nq, osq⟩, hw''⟩ := hw'
 subst hw''
 replace BK := Ak (blk_below BK.1 (below_regrown w2 nq osq))
 replace HB := Ak (below_step HB.1 (below_regrown w2 nq osq))
 clear c1 c2 c3 hr en1 en2
 generalize grow (redrawn w2 nq) osq = wp at BK HB ⊢
 go_wp2
 go_ret
 exact ⟨by simp [chkR, *], HB.1⟩
set_option maxHeartbeats 8000000 in
set_option maxRecDepth 100000 in
theorem refrate_calls (I : Inp.Spec α) (next : Int) (x : α) (w : World) : Calls Tryz.prog 11 #[.agg (I.enc x).toArray, .int .i64 next] w fun e w' => e = .returned (.int .i64 (rtC I next x)) ∧ Below w.heap.size w w' := by
 have mixed : Tryz.prog.follows .mixedOrders = true := by kernel_rfl
 have HK := Ak (fun W => refcheck_calls I x W)
 have HA := Ak (fun W => refalone_calls I x W)
 have HC := Ak (fun (h : ofB (I.since x) (I.dl x) (I.budget x) (aloneV I x) = true) W => QRfa.coracleref1_CurveOf.calls 1 (I.since x) (I.dl x) (I.budget x) (aloneV I x) (highV I x) 0 W (by rw [RfA.cu_f]; unfold RfA.cuV highV; rw [if_pos h]))
 have HT := Ak (fun (h : ofB (I.since x) (I.dl x) (I.budget x) (aloneV I x) = true) W => QRfa.coracleref1_At.calls 1 (I.since x) 253 (max (I.since x) (I.dl x)) (highV I x) next (atV (I.since x) 253 (max (I.since x) (I.dl x)) (highV I x) next) W (RfA.rat_f (of_line h) next 0))
 have hx := I.hk x
 have b1 := (show (I.enc x)[41]? = some (.int .i64 (I.since x)) from I.at_ x 8)
 have b2 := I.at_dl x
 have b3 := I.at_budget x
 have hmx : ∀ W, Sem.run Tryz.prog (Builtin.max_ #[3, 3] 3 #[.int .i64 (I.since x), .int .i64 (I.dl x)]) W = .ok (.int .i64 (max (I.since x) (I.dl x))) W := fun W => by
  rw [max_two, max2_int, show (if I.since x < I.dl x then I.dl x else I.since x) = max (I.since x) (I.dl x) by split <;> omega]
  rfl
 have OF := Ak (chk_of I x)
 unfold rtC
 generalize ofB (I.since x) (I.dl x) (I.budget x) (aloneV I x) = ob at HC HT OF ⊢
 generalize aloneV I x = al at HA HC
 generalize atV (I.since x) 253 (max (I.since x) (I.dl x)) (highV I x) next = res at HT ⊢
 generalize highV I x = hi at HC HT
 generalize max (I.since x) (I.dl x) = mx at HT hmx
 generalize I.since x = m1 at b1 HC HT hmx
 generalize I.dl x = m2 at b2 HC hmx
 generalize I.budget x = m3 at b3 HC
 generalize chkC I x = ck at HK OF ⊢
 generalize I.enc x = cx at hx b1 b2 b3 HK HA ⊢
 have CX := Ak hx
 have KC := Ak (fun (g : Nat) (V : World) (h : V.heap[g]? = some (.cells cx.toArray 42 (0, 0))) => And.intro (show V.cell? ⟨g, 41, none⟩ = some (.int .i64 m1) from (blk_cell h 41).trans (by simpa using b1)) (And.intro (show V.cell? ⟨g, 42, none⟩ = some (.int .i64 m2) from (blk_cell h 42).trans (by simpa using b2)) (show V.cell? ⟨g, 43, none⟩ = some (.int .i64 m3) from (blk_cell h 43).trans (by simpa using b3))))
 clear hx b1 b2 b3
 obtain ⟨v, hv⟩ : ∃ v, (if ck = 0 then (if ob = true then res else 0) else 0) = v := ⟨_, rfl⟩
 rw [hv]
 have HV := Ak hv
 clear hv
 have HB := Ak (Below.refl w.heap.size w)
 have hu42 := Tryz.underlying42
 go_enter Tryz.func11, Tryz.ntmps11
 go_upto_region 1 with (first | ((with_reducible refine gate_dst (N := 2) rfl ?_); refine box_event ?hg (N := 2) ?hd (cs := cx.toArray) (t := 42) ?hr ?_; (case hd => rfl); (case hg => rfl); (case hr => first | (go_simp; done) | (go_simp; rfl)); intro gb hg w1 hbox hb; replace HB := Ak (below_step HB.1 hb); have BK := Ak hbox; clear hbox hb hg))
 have hl : Sem.run Tryz.prog (Wide.heavy0 ⟨gb, 0, none⟩ 44) w1 = .ok cx.toArray w1 := row_load BK.1 0 44 _ CX.1 (by rw [List.drop_zero, List.take_of_length_le (by rw [CX.1]; exact Nat.le_refl _)])
 by_cases h0 : ck = 0
 ·subst h0
  obtain rfl := OF.1 rfl
  obtain rfl : res = v := by simpa using HV.1
  replace HC := Ak (HC.1 rfl)
  replace HT := Ak (HT.1 rfl)
  clear OF HV
  go_upto_region 3 with (first | (go_at_call 9; (with_reducible refine (HK.1 _).mono ?_); rintro e w2 ⟨rfl, hb⟩; replace HB := Ak (below_step HB.1 hb); replace BK := Ak (blk_below BK.1 hb); clear hb hl))
  have c1 := fun dd os => (KC.1 gb (grow (redrawn w2 dd) os) (blk_below BK.1 (below_regrown w2 dd os))).1
  have c2 := fun dd os => (KC.1 gb (grow (redrawn w2 dd) os) (blk_below BK.1 (below_regrown w2 dd os))).2.1
  have c3 := fun dd os => (KC.1 gb (grow (redrawn w2 dd) os) (blk_below BK.1 (below_regrown w2 dd os))).2.2
  have hr : ∀ dd os, Sem.run Tryz.prog (Wide.heavy0 ⟨gb, 0, none⟩ 44) (grow (redrawn w2 dd) os) = .ok cx.toArray (grow (redrawn w2 dd) os) := fun dd os => row_load (blk_below BK.1 (below_regrown w2 dd os)) 0 44 _ CX.1 (by rw [List.drop_zero, List.take_of_length_le (by rw [CX.1]; exact Nat.le_refl _)])
  have en1 := enters_of Tryz.func29 (by kernel_rfl) rfl
  have en2 := enters_of Tryz.func28 (by kernel_rfl) rfl
  refine wp_region_quiet_below mixed (by kernel_rfl) ?_
  repeat (quiet_step (first | exact Calls.regrown_of (HA.1 _) | exact Calls.regrown_of (HC.1 _)))
  refine wpQuiet_nil ?_
  intro _ hw'
  obtain ⟨⟨nq, osq⟩, hw''⟩ := hw'
  subst hw''
  replace BK := Ak (blk_below BK.1 (below_regrown w2 nq osq))
  replace HB := Ak (below_step HB.1 (below_regrown w2 nq osq))
  clear c1 c2 c3 hr en1 en2
  generalize grow (redrawn w2 nq) osq = wp at BK HB ⊢
  have m_ := KC.1 _ _ BK.1
  obtain ⟨k1, k2, k3⟩ := m_
  go_wp2_with (go_at_call 31; (with_reducible refine (HT.1 _).mono ?_); rintro e w9 ⟨rfl, hd⟩; replace HB := Ak (below_step HB.1 (below_drawn0 hd)); clear hd)
  go_ret
  exact ⟨rfl, HB.1⟩
 ·obtain rfl : 0 = v := by simpa [h0] using HV.1
  have c0 : (ck == 0) = false := by simpa using h0
  go_wp2_with (first | (go_at_call 9; (with_reducible refine (HK.1 _).mono ?_); rintro e w2 ⟨rfl, hb⟩; replace HB := Ak (below_step HB.1 hb); clear hb hl))
  go_ret
  exact ⟨rfl, HB.1⟩
end Go.Proofs.YtiodebjjbgcbhaaGreat.RfB
