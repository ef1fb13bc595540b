import Derived.Test.YtiodebjjbgcbhaaGreatInpI
import Derived.Test.YtiodebjjbgcbhaaGreatOrdQ
import Derived.Test.YtiodebjjbgcbhaaGreatDelI
namespace Go.Proofs.YtiodebjjbgcbhaaGreat.Inp
open Go.RowKit Go.Sort Go.Lib Go.Shelf Go.Proofs YtiodebjjbgcbhaaGreatW.PrintWords YtiodebjjbgcbhaaGreatW.PrintLast YtiodebjjbgcbhaaGreatW.PrintMore YtiodebjjbgcbhaaGreat Hand RowK Fill OrdO QLef
attribute [local go_sem ↓ high] Wide.hv44 Wide.hv33 Wide.hv37
set_option linter.unusedVariables false
set_option linter.unusedSectionVars false
set_option linter.unusedSimpArgs false
variable {α : Type}
def Checked (I : Spec α) (ck : α → Int) : Prop := ∀ x W, Calls Tryz.prog 8 #[.agg (I.enc x).toArray] W fun e w' => e = .returned (.int .i64 (ck x)) ∧ Below W.heap.size W w'
def out1 (I : Spec α) (ck : α → Int) (next : Int) (x : α) : Bool := if ck x = 0 then !ripe (I.wait x) (I.lock x) (I.conf x) next else true
set_option maxHeartbeats 8000000 in
set_option maxRecDepth 100000 in
theorem order1_calls (I : Spec α) (next : Int) (ck : α → Int) (hC : Checked I ck) (x : α) (q : Nat) (w : World) (hq : w.heap[q]? = some (.cells #[.int .i64 next] 3 (0, 0))) :
 Calls Tryz.prog 45 (#[.agg (I.enc x).toArray] ++ #[.pointer (some ⟨q, 0, none⟩)]) w fun e w' => e = .returned (.bool (out1 I ck next x)) ∧ Below w.heap.size w w' := by
 have HC := Ak (hC x)
 have HR := Ak (ripe_calls (I.kind x) (I.key x) (I.pre x) (I.seq x) (I.lock x) (I.wait x) (I.conf x) next)
 have hx := I.hk x
 have a2 := I.at_kind x
 have a3 := I.at_key x
 have a4 := I.at_pre x
 have a5 := I.at_seq x
 have a6 := (show (I.enc x)[38]? = some (.int .i64 (I.lock x)) from I.at_ x 5)
 have a7 := (show (I.enc x)[39]? = some (.int .i64 (I.wait x)) from I.at_ x 6)
 have a8 := I.at_conf x
 unfold out1
 unfold claimCells at HR
 generalize ripe (I.wait x) (I.lock x) (I.conf x) next = rp at HR ⊢
 generalize ck x = c at HC ⊢
 generalize I.kind x = n2 at a2 HR
 generalize I.key x = n3 at a3 HR
 generalize I.pre x = n4 at a4 HR
 generalize I.seq x = n5 at a5 HR
 generalize I.lock x = n6 at a6 HR
 generalize I.wait x = n7 at a7 HR
 generalize I.conf x = n8 at a8 HR
 generalize I.enc x = cx at hx a2 a3 a4 a5 a6 a7 a8 HC ⊢
 have HB := Ak (Below.refl w.heap.size w)
 have BQ := Ak hq
 have CX := Ak (And.intro hx (And.intro a2 (And.intro a3 (And.intro a4 (And.intro a5 (And.intro a6 (And.intro a7 a8)))))))
 clear hx a2 a3 a4 a5 a6 a7 a8 hq hC
 show Calls Tryz.prog 45 #[.agg cx.toArray, .pointer (some ⟨q, 0, none⟩)] w _
 by_cases h0 : c = 0
 ·rw [if_pos h0]
  subst h0
  go_enter Tryz.func45, Tryz.ntmps45
  go_wp2_with (first | ((with_reducible refine gate_dst (N := 2) rfl ?_); refine box_event ?hg (N := 2) ?hd (cs := cx.toArray) (t := 38) ?hr ?_; (case hd => rfl); (case hg => rfl); (case hr => first | (go_simp; done) | (go_simp; rfl)); intro gb hg w1 hbox hb; have m_HB := Ak (below_step HB.1 hb); have BK := Ak hbox; have m_BQ := Ak (blk_below BQ.1 hb); clear HB BQ hbox hb hg; have HB := m_HB; have BQ := m_BQ; clear m_HB m_BQ; have hl0 : Sem.run Tryz.prog (Wide.heavy0 ⟨gb, 0, none⟩ 44) w1 = .ok cx.toArray w1 := row_load BK.1 0 44 _ CX.1.1 (by rw [List.drop_zero, List.take_of_length_le (by rw [CX.1.1]; exact Nat.le_refl _)])) | ((with_reducible refine gate_callee (f := 8) rfl ?_); refine goesL_ (some 5) rfl rfl Tryz.func8 (by kernel_rfl) rfl #[.agg cx.toArray] rfl (by (try simp only [lm_, lc_, ln_]); first | done | rfl) ?_; with_reducible refine (HC.1 _).mono ?_; rintro e w3 ⟨rfl, hb⟩; refine ⟨_, rfl, ?_⟩; replace BK := Ak (blk_below BK.1 hb); replace HB := Ak (below_step HB.1 hb); replace BQ := Ak (blk_below BQ.1 hb); clear hl0 hb; have k34 : w3.cell? ⟨gb, 34, none⟩ = some (.int .i64 n2) := (blk_cell BK.1 34).trans (by simpa using CX.1.2.1); have k35 : w3.cell? ⟨gb, 35, none⟩ = some (.int .i64 n3) := (blk_cell BK.1 35).trans (by simpa using CX.1.2.2.1); have k36 : w3.cell? ⟨gb, 36, none⟩ = some (.string n4) := (blk_cell BK.1 36).trans (by simpa using CX.1.2.2.2.1); have k37 : w3.cell? ⟨gb, 37, none⟩ = some (.int .i64 n5) := (blk_cell BK.1 37).trans (by simpa using CX.1.2.2.2.2.1); have k38 : w3.cell? ⟨gb, 38, none⟩ = some (.int .i64 n6) := (blk_cell BK.1 38).trans (by simpa using CX.1.2.2.2.2.2.1); have k39 : w3.cell? ⟨gb, 39, none⟩ = some (.int .i64 n7) := (blk_cell BK.1 39).trans (by simpa using CX.1.2.2.2.2.2.2.1); have k40 : w3.cell? ⟨gb, 40, none⟩ = some (.int .i64 n8) := (blk_cell BK.1 40).trans (by simpa using CX.1.2.2.2.2.2.2.2); have kq : w3.cell? ⟨q, 0, none⟩ = some (.int .i64 next) := (blk_cell BQ.1 0).trans rfl) | (go_at_call 46; refine (HR.1 _).mono ?_; rintro e w6 ⟨rfl, hb⟩; replace HB := Ak (below_step HB.1 hb); clear hb))
  go_ret
  exact ⟨by first | rfl | simp, HB.1⟩
 ·rw [if_neg h0]
  have c0 : (c == 0) = false := by simpa using h0
  have c1 := eq_false h0
  clear h0
  go_enter Tryz.func45, Tryz.ntmps45
  go_wp2_with (first | ((with_reducible refine gate_dst (N := 2) rfl ?_); refine box_event ?hg (N := 2) ?hd (cs := cx.toArray) (t := 38) ?hr ?_; (case hd => rfl); (case hg => rfl); (case hr => first | (go_simp; done) | (go_simp; rfl)); intro gb hg w1 hbox hb; have m_HB := Ak (below_step HB.1 hb); have BK := Ak hbox; have m_BQ := Ak (blk_below BQ.1 hb); clear HB BQ hbox hb hg; have HB := m_HB; have BQ := m_BQ; clear m_HB m_BQ; have hl0 : Sem.run Tryz.prog (Wide.heavy0 ⟨gb, 0, none⟩ 44) w1 = .ok cx.toArray w1 := row_load BK.1 0 44 _ CX.1.1 (by rw [List.drop_zero, List.take_of_length_le (by rw [CX.1.1]; exact Nat.le_refl _)])) | ((with_reducible refine gate_callee (f := 8) rfl ?_); refine goesL_ (some 5) rfl rfl Tryz.func8 (by kernel_rfl) rfl #[.agg cx.toArray] rfl (by (try simp only [lm_, lc_, ln_]); first | done | rfl) ?_; with_reducible refine (HC.1 _).mono ?_; rintro e w3 ⟨rfl, hb⟩; refine ⟨_, rfl, ?_⟩; replace BK := Ak (blk_below BK.1 hb); replace HB := Ak (below_step HB.1 hb); replace BQ := Ak (blk_below BQ.1 hb); clear hl0 hb; have k34 : w3.cell? ⟨gb, 34, none⟩ = some (.int .i64 n2) := (blk_cell BK.1 34).trans (by simpa using CX.1.2.1); have k35 : w3.cell? ⟨gb, 35, none⟩ = some (.int .i64 n3) := (blk_cell BK.1 35).trans (by simpa using CX.1.2.2.1); have k36 : w3.cell? ⟨gb, 36, none⟩ = some (.string n4) := (blk_cell BK.1 36).trans (by simpa using CX.1.2.2.2.1); have k37 : w3.cell? ⟨gb, 37, none⟩ = some (.int .i64 n5) := (blk_cell BK.1 37).trans (by simpa using CX.1.2.2.2.2.1); have k38 : w3.cell? ⟨gb, 38, none⟩ = some (.int .i64 n6) := (blk_cell BK.1 38).trans (by simpa using CX.1.2.2.2.2.2.1); have k39 : w3.cell? ⟨gb, 39, none⟩ = some (.int .i64 n7) := (blk_cell BK.1 39).trans (by simpa using CX.1.2.2.2.2.2.2.1); have k40 : w3.cell? ⟨gb, 40, none⟩ = some (.int .i64 n8) := (blk_cell BK.1 40).trans (by simpa using CX.1.2.2.2.2.2.2.2); have kq : w3.cell? ⟨q, 0, none⟩ = some (.int .i64 next) := (blk_cell BQ.1 0).trans rfl))
  go_ret
  exact ⟨by first | rfl | simp, HB.1⟩
set_option maxHeartbeats 1000000 in
theorem mkRate_calls (next : Int) (w : World) : Calls Tryz.prog 48 #[.int .i64 next] w fun e w' => ∃ q, e = .returned (.func (.func 76) #[] #[.pointer (some ⟨q, 0, none⟩)]) ∧ w.heap.size ≤ q ∧ w'.heap[q]? = some (.cells #[.int .i64 next] 3 (0, 0)) ∧ Below w.heap.size w w' := by
 have HB := Ak (Below.refl w.heap.size w)
 go_enter Tryz.func48, Tryz.ntmps48
 go_wp2_with (first | ((with_reducible refine gate_dst (N := 1) rfl ?_); refine box_event ?hg (N := 1) ?hd (cs := #[.int .i64 next]) (t := 3) ?hr ?_; (case hd => rfl); (case hg => rfl); (case hr => first | (go_simp; done) | (go_simp; rfl)); intro q hg w1 hbox hb; have m_HB := Ak (below_step HB.1 hb); have BQ := Ak hbox; have GQ := Ak (show w.heap.size ≤ q by rw [hg]; exact Nat.le_refl _); clear HB hbox hb hg))
 go_ret
 exact ⟨q, rfl, GQ.1, BQ.1, m_HB.1⟩
end Go.Proofs.YtiodebjjbgcbhaaGreat.Inp
