/- What fits. -/
import Derived.Test.YtiodebjjbgcbhaaInpN
namespace Go.Proofs.Ytiodebjjbgcbhaa.Inp
open Go.RowKit Go.Sort Go.Lib Go.Shelf Go.Proofs.Ytiodebjjbgcbhaa.Hand Go.Proofs.YtiodebjjbgcbhaaW.PrintWords Go.Proofs.YtiodebjjbgcbhaaW.PrintLast Go.Proofs.YtiodebjjbgcbhaaW.PrintMore Go.Proofs.Ytiodebjjbgcbhaa.RowK Go.Proofs.Ytiodebjjbgcbhaa.Fill Go.Proofs.Ytiodebjjbgcbhaa.OrdO Go.Proofs.Ytiodebjjbgcbhaa.QLef Go.Proofs.Ytiodebjjbgcbhaa.LefL
attribute [local go_sem ↓ high] Wide.hv44 Wide.hv33 Wide.hv37
set_option linter.unusedVariables false
set_option linter.unusedSectionVars false
set_option linter.unusedSimpArgs false
variable {α : Type}
/-- A batch returned, with an answer. -/
def Fit (w : World) (e : Ending) (w' : World) (b : Bt) (s : Bool) : Prop := ∃ v0 v1 : Value, e = .returned (.tuple #[.agg #[v0, v1, .int .i64 b.lock, .int .i64 b.fee, .int .i64 b.rate], .bool s]) ∧ Kd.R k38 38 w' w.heap.size (fun _ => True) v0 b.ins ∧ Kd.R k64 64 w' w.heap.size (fun _ => True) v1 b.outs ∧ Below w.heap.size w w'
theorem make_len (I : Spec α) (ck : α → Int) (tot : List Int → Int × Int) (tc : List S38 → List S64 → Int → Int) (l : List α) (rate key : Int) : ((makeV I ck tot tc l rate key).getD .zero).ins.length ≤ l.length ∧ ((makeV I ck tot tc l rate key).getD .zero).outs.length ≤ 1 := by
 unfold makeV
 simp only []
 (repeat' split) <;> simp [Bt.zero]
/-- What fits tells. -/
def fitsV (I : Spec α) (ck : α → Int) (tot : List Int → Int × Int) (tc : List S38 → List S64 → Int → Int) (limit key : Int) (l : List α) (rate : Int) : Bt × Bool :=
 let o := makeV I ck tot tc l rate key
 (o.getD .zero, o.isSome && decide (weightV (o.getD .zero).ins (o.getD .zero).outs.length ≤ limit))
set_option maxHeartbeats 16000000 in
set_option maxRecDepth 100000 in
theorem fits_calls (I : Spec α) (ck : α → Int) (hC : Checked I ck) (tot : List Int → Int × Int) (htot : ∀ l : List Int, l.length < 100000 → ∃ k, amount_Total.f k l = some (tot l)) (tc : List S38 → List S64 → Int → Int) (hT : TxChecked tc) (l : List α) (A : Option Addr) (c : Nat) (next limit key rate : Int) (w : World) (hA : ReadsRow (fun x c => c = I.enc x) 44 w A l.length l) (hl : l.length < 100000) :
 Calls Try.prog 73 #[.agg #[.int .i64 next, .int .i64 limit, .int .i64 key], .slice A l.length c, .int .i64 rate] w fun e w' => Fit w e w' (fitsV I ck tot tc limit key l rate).1 (fitsV I ck tot tc limit key l rate).2 := by
 have hlen := make_len I ck tot tc l rate key
 have MK := Aside0.mk (fun W (hb : Below w.heap.size w W) => make_calls I ck hC tot htot tc hT l A c rate key W (ReadsRow.imp_ hA hb (fun _ _ h => h)) hl)
 unfold fitsV
 simp only []
 unfold Made at MK
 have LN := Aside0.mk (show ((makeV I ck tot tc l rate key).getD .zero).ins.length < 1000000 ∧ ((makeV I ck tot tc l rate key).getD .zero).outs.length < 1000000 by omega)
 clear hC htot hT hA hlen
 generalize (makeV I ck tot tc l rate key).getD .zero = b at MK LN ⊢
 generalize (makeV I ck tot tc l rate key).isSome = s at MK ⊢
 obtain ⟨ins, outs, lock, fee, rt⟩ := b
 simp only [] at MK LN ⊢
 have HB := Aside0.mk (Below.refl w.heap.size w)
 have hwf := weight_f ins outs lock (ins.length + 1) LN.out.1 LN.out.2 (by omega)
 generalize weightV ins outs.length = wt at hwf ⊢
 have KW := Aside0.mk hwf
 clear hwf
 cases s
 ·go_enter Try.func73, Try.ntmps73
  go_wp2_with (first | ((with_reducible refine gate_dst (N := 3) rfl ?_); refine box_event ?hg (N := 3) ?hd (cs := #[.int .i64 next, .int .i64 limit, .int .i64 key]) (t := 96) ?hr ?_; (case hd => rfl); (case hg => rfl); (case hr => first | (go_simp; done) | (go_simp; rfl)); intro g3 hg w1 hbox hb; have m_HB := Aside0.mk (below_step HB.out hb); have B3 := Aside0.mk hbox; clear HB hbox hb hg; have HB := m_HB; clear m_HB) | ((with_reducible refine gate_dst (N := 6) rfl ?_); refine box_event ?hg (N := 6) ?hd (cs := #[.slice none 0 0, .slice none 0 0, .int .i64 0, .int .i64 0, .int .i64 0]) (t := 39) ?hr ?_; (case hd => rfl); (case hg => rfl); (case hr => first | (go_simp; done) | (go_simp; rfl)); intro g6 hg w2 hbox hb; have N36 := Aside0.mk (show g3 ≠ g6 by rw [hg]; exact Nat.ne_of_lt (blk_lt B3.out)); have G6 := Aside0.mk (show w.heap.size ≤ g6 by rw [hg]; exact HB.out.size); have m_HB := Aside0.mk (below_step HB.out hb); have m_B3 := Aside0.mk (blk_below B3.out hb); have B6 := Aside0.mk hbox; clear HB B3 hbox hb hg; have HB := m_HB; have B3 := m_B3; clear m_HB m_B3; have kk : w2.cell? ⟨g3, 2, none⟩ = some (.int .i64 key) := (blk_cell B3.out 2).trans rfl) | ((with_reducible refine gate_callee (f := 38) rfl ?_); refine goesL_ (some 15) rfl rfl Try.func38 (by kernel_rfl) rfl #[.slice A l.length c, .int .i64 rate, .int .i64 key] rfl (by (try simp only [List.map_toArray, List.map_cons, List.map_nil]); first | done | rfl) ?_; refine (MK.out _ HB.out).mono ?_; rintro e w4 ⟨v0, v1, rfl, h0, h1, hb⟩; refine ⟨_, rfl, ?_⟩; have H0 := Aside0.mk (Kd.R_lower h0 HB.out.size); have H1 := Aside0.mk (Kd.R_lower h1 HB.out.size); clear h0 h1 kk; obtain ⟨A0, c0, e0⟩ := Kd.R_slice H0.out; subst e0; obtain ⟨A1, c1, e1⟩ := Kd.R_slice H1.out; subst e1; have m_B3 := Aside0.mk (blk_below B3.out hb); have m_B6 := Aside0.mk (blk_below B6.out hb); have m_HB := Aside0.mk (below_step HB.out hb); clear B3 B6 HB; have B3 := m_B3; have B6 := m_B6; have HB := m_HB; clear m_B3 m_B6 m_HB; clear hb) | ((with_reducible refine gate_dst (N := 8) rfl ?_); refine Fill.fill_event (N := 8) (x := 16) (cs := #[.slice A0 ins.length c0, .slice A1 outs.length c1, .int .i64 lock, .int .i64 fee, .int .i64 rt]) (t := 39) rfl rfl rfl rfl rfl rfl Try.zeroValue39 Try.sizeOf39 rfl rfl (fun _ => rfl) (fun _ => rfl) ?_; intro g8 hg8 w5 hbox hb; have N68 := Aside0.mk (show g6 ≠ g8 by rw [hg8]; exact Nat.ne_of_lt (blk_lt B6.out)); have B8 := Aside0.mk hbox; have m_H0 := Aside0.mk (Kd.R_below H0.out hb); have m_H1 := Aside0.mk (Kd.R_below H1.out hb); have m_B3 := Aside0.mk (blk_below B3.out hb); have m_B6 := Aside0.mk (blk_below B6.out hb); have m_HB := Aside0.mk (below_step HB.out hb); clear B3 B6 HB; have B3 := m_B3; have B6 := m_B6; have HB := m_HB; clear m_B3 m_B6 m_HB; clear H0 H1 hbox hb hg8; have H0 := m_H0; have H1 := m_H1; clear m_H0 m_H1))
  have m_B3 := Aside0.mk (blk_drew B3.out)
  have m_B6 := Aside0.mk (blk_drew B6.out)
  have m_B8 := Aside0.mk (blk_drew B8.out)
  have m_H0 := Aside0.mk (Kd.R_drew H0.out)
  have m_H1 := Aside0.mk (Kd.R_drew H1.out)
  have m_HB := Aside0.mk (below_drew1 HB.out)
  clear B3 B6 B8 H0 H1 HB
  have B3 := m_B3
  have B6 := m_B6
  have B8 := m_B8
  have H0 := m_H0
  have H1 := m_H1
  have HB := m_HB
  clear m_B3 m_B6 m_B8 m_H0 m_H1 m_HB
  refine start_ (n := 12) (S := (fun w' => (w'.cell? ⟨g8, 0, none⟩ = some (.slice A0 ins.length c0) ∧ w'.cell? ⟨g8, 1, none⟩ = some (.slice A1 outs.length c1) ∧ w'.cell? ⟨g8, 2, none⟩ = some (.int .i64 lock) ∧ w'.cell? ⟨g8, 3, none⟩ = some (.int .i64 fee) ∧ w'.cell? ⟨g8, 4, none⟩ = some (.int .i64 rt)) ∧ w'.cell? ⟨g3, 1, none⟩ = some (.int .i64 limit))) (ds := []) #[false, false, false, false, false, false, false, false, false, false, false, false] (by kernel_rfl) rfl rfl ⟨⟨(blk_cell B8.out 0).trans rfl, (blk_cell B8.out 1).trans rfl, (blk_cell B8.out 2).trans rfl, (blk_cell B8.out 3).trans rfl, (blk_cell B8.out 4).trans rfl⟩, (blk_cell B3.out 1).trans rfl⟩ (fun hHeld => ?_)
  generalize w5.drew = w6 at B3 B6 B8 H0 H1 HB hHeld ⊢
  refine pure_ (i := 1) (N := some 19) (v := ?_) (a' := ?_) #[false, true, false, false, false, false, false, false, false, false, false, false] rfl rfl (by kernel_rfl) (fun _ _ _ h => h) (Or.inl ⟨by rfl, ?_⟩) ?_ ?_
  rotate_left
  ·intro w'
   go_simp
   with_reducible rfl
  rotate_left
  ·simp only [Act.put, List.setIfInBounds_toArray, List.set_cons_zero, List.set_cons_succ, i64_w, i32_w]
   rfl
  refine pure_ (i := 2) (N := some 20) (v := ?_) (a' := ?_) #[false, true, true, false, false, false, false, false, false, false, false, false] rfl rfl (by kernel_rfl) (fun _ _ _ h => h) (Or.inl ⟨by rfl, ?_⟩) ?_ ?_
  rotate_left
  ·intro w'
   go_simp
   with_reducible rfl
  rotate_left
  ·simp only [Act.put, List.setIfInBounds_toArray, List.set_cons_zero, List.set_cons_succ, i64_w, i32_w]
   rfl
  refine pure_ (i := 3) (N := some 21) (v := undef) (a' := ?_) #[false, true, true, true, false, false, false, false, false, false, false, false] rfl rfl (by kernel_rfl) (fun _ _ _ h => h) (Or.inr ⟨by rfl, rfl⟩) ?_ ?_
  rotate_left
  ·simp only [Act.put, List.setIfInBounds_toArray, List.set_cons_zero, List.set_cons_succ, i64_w, i32_w]
   rfl
  refine pure_ (i := 4) (N := some 22) (v := undef) (a' := ?_) #[false, true, true, true, true, false, false, false, false, false, false, false] rfl rfl (by kernel_rfl) (fun _ _ _ h => h) (Or.inr ⟨by rfl, rfl⟩) ?_ ?_
  rotate_left
  ·simp only [Act.put, List.setIfInBounds_toArray, List.set_cons_zero, List.set_cons_succ, i64_w, i32_w]
   rfl
  refine pure_ (i := 5) (N := some 23) (v := undef) (a' := ?_) #[false, true, true, true, true, true, false, false, false, false, false, false] rfl rfl (by kernel_rfl) (fun _ _ _ h => h) (Or.inr ⟨by rfl, rfl⟩) ?_ ?_
  rotate_left
  ·simp only [Act.put, List.setIfInBounds_toArray, List.set_cons_zero, List.set_cons_succ, i64_w, i32_w]
   rfl
  refine pure_ (i := 6) (N := some 24) (v := undef) (a' := ?_) #[false, true, true, true, true, true, true, false, false, false, false, false] rfl rfl (by kernel_rfl) (fun _ _ _ h => h) (Or.inr ⟨by rfl, rfl⟩) ?_ ?_
  rotate_left
  ·simp only [Act.put, List.setIfInBounds_toArray, List.set_cons_zero, List.set_cons_succ, i64_w, i32_w]
   rfl
  refine pure_ (i := 7) (N := some 25) (v := undef) (a' := ?_) #[false, true, true, true, true, true, true, true, false, false, false, false] rfl rfl (by kernel_rfl) (fun _ _ _ h => h) (Or.inr ⟨by rfl, rfl⟩) ?_ ?_
  rotate_left
  ·simp only [Act.put, List.setIfInBounds_toArray, List.set_cons_zero, List.set_cons_succ, i64_w, i32_w]
   rfl
  refine pure_ (i := 8) (N := some 26) (v := undef) (a' := ?_) #[false, true, true, true, true, true, true, true, true, false, false, false] rfl rfl (by kernel_rfl) (fun _ _ _ h => h) (Or.inr ⟨by rfl, rfl⟩) ?_ ?_
  rotate_left
  ·simp only [Act.put, List.setIfInBounds_toArray, List.set_cons_zero, List.set_cons_succ, i64_w, i32_w]
   rfl
  refine take_ (i := 0) (N := some 18) (v := ?_) (a' := ?_) #[true, true, true, true, true, true, true, true, true, false, false, false] rfl rfl (by kernel_rfl) (fun _ _ _ h => h) (Or.inl ⟨by rfl, ?_⟩) hHeld ?_ ?_
  rotate_left
  ·rintro w' ⟨⟨hs0, hs1, hs2, hs3, hs4⟩, hs5⟩
   go_simp
   with_reducible rfl
  rotate_left
  ·simp only [Act.put, List.setIfInBounds_toArray, List.set_cons_zero, List.set_cons_succ, i64_w, i32_w]
   rfl
  refine pure_ (i := 9) (N := some 27) (v := ?_) (a' := ?_) #[true, true, true, true, true, true, true, true, true, true, false, false] rfl rfl (by kernel_rfl) (fun _ _ _ h => h) (Or.inl ⟨by rfl, ?_⟩) ?_ ?_
  rotate_left
  ·intro w'
   go_simp
   with_reducible rfl
  rotate_left
  ·simp only [Act.put, List.setIfInBounds_toArray, List.set_cons_zero, List.set_cons_succ, i64_w, i32_w]
   rfl
  refine one_ (i := 10) (N := none) #[true, true, true, true, true, true, true, true, true, true, true, false] rfl rfl (by kernel_rfl) (by decide) (fun K hK => ?_)
  have q0 : w6.cell? ⟨g6, 0, none⟩ = some (.slice none 0 0) := (blk_cell B6.out 0).trans rfl
  have q1 : w6.cell? ⟨g6, 1, none⟩ = some (.slice none 0 0) := (blk_cell B6.out 1).trans rfl
  have q2 : w6.cell? ⟨g6, 2, none⟩ = some (.int .i64 0) := (blk_cell B6.out 2).trans rfl
  have q3 : w6.cell? ⟨g6, 3, none⟩ = some (.int .i64 0) := (blk_cell B6.out 3).trans rfl
  have q4 : w6.cell? ⟨g6, 4, none⟩ = some (.int .i64 0) := (blk_cell B6.out 4).trans rfl
  have f0 := blk_frozen B6.out 0
  have f1 := blk_frozen B6.out 1
  have f2 := blk_frozen B6.out 2
  have f3 := blk_frozen B6.out 3
  have f4 := blk_frozen B6.out 4
  refine skip_ (w1 := w6.setCells g6 0 [.slice A0 ins.length c0, .slice A1 outs.length c1, .int .i64 lock, .int .i64 fee, .int .i64 rt]) (by rfl) rfl ?_ ?_
  ·first | (go_simp; done) | (go_simp; rfl)
  have hgs : w6.grownBy (w6.setCells g6 0 [.slice A0 ins.length c0, .slice A1 outs.length c1, .int .i64 lock, .int .i64 fee, .int .i64 rt]) (some g6) := grown_setCells g6 [.slice A0 ins.length c0, .slice A1 outs.length c1, .int .i64 lock, .int .i64 fee, .int .i64 rt] 0 w6
  have m_B3 := Aside0.mk (blk_grown B3.out hgs (by simpa using N36.out))
  have m_B8 := Aside0.mk (blk_grown B8.out hgs (by simpa using Ne.symm N68.out))
  have m_B6 := Aside0.mk (heap_setCells [.slice A0 ins.length c0, .slice A1 outs.length c1, .int .i64 lock, .int .i64 fee, .int .i64 rt] 0 w6 [.slice none 0 0, .slice none 0 0, .int .i64 0, .int .i64 0, .int .i64 0] B6.out (by simp))
  have m_H0 := Aside0.mk (Kd.R_grown2 H0.out rfl hgs (fun k e => by cases e; exact Kd.R_ne H0.out B6.out (by decide)))
  have m_H1 := Aside0.mk (Kd.R_grown2 H1.out rfl hgs (fun k e => by cases e; exact Kd.R_ne H1.out B6.out (by decide)))
  have m_HB := Aside0.mk (pw_below_grown HB.out (some g6) HB.out.size hgs (fun k e => by cases e; exact G6.out))
  clear B3 B6 B8 H0 H1 HB hgs q0 q1 q2 q3 q4 f0 f1 f2 f3 f4
  have B3 := m_B3
  have B6 := m_B6
  have B8 := m_B8
  have H0 := m_H0
  have H1 := m_H1
  have HB := m_HB
  clear m_B3 m_B6 m_B8 m_H0 m_H1 m_HB
  generalize w6.setCells g6 0 [.slice A0 ins.length c0, .slice A1 outs.length c1, .int .i64 lock, .int .i64 fee, .int .i64 rt] = w9 at B3 B6 B8 H0 H1 HB ⊢
  refine hK.out _ _ ⟨⟨(blk_cell B8.out 0).trans rfl, (blk_cell B8.out 1).trans rfl, (blk_cell B8.out 2).trans rfl, (blk_cell B8.out 3).trans rfl, (blk_cell B8.out 4).trans rfl⟩, (blk_cell B3.out 1).trans rfl⟩ (fun hHeld => ?_)
  clear hK K
  refine pure_ (i := 11) (N := some 7) (v := ?_) (a' := ?_) #[true, true, true, true, true, true, true, true, true, true, true, true] rfl rfl (by kernel_rfl) (fun _ _ _ h => h) (Or.inl ⟨by rfl, ?_⟩) ?_ ?_
  rotate_left
  ·intro w'
   go_simp
   with_reducible rfl
  rotate_left
  ·simp only [Act.put, List.setIfInBounds_toArray, List.set_cons_zero, List.set_cons_succ, i64_w, i32_w]
   rfl
  refine done_ (by kernel_rfl) ?_
  clear hHeld
  go_wp2
  (refine bodyPost_ret (results_ct rfl _ _ g6 39 #[.slice A0 ins.length c0, .slice A1 outs.length c1, .int .i64 lock, .int .i64 fee, .int .i64 rt] (0, 0) _ rfl (by simpa [over] using B6.out) Try.underlying39 rfl (by kernel_rfl)) rfl ?_; first | exact ⟨_, _, rfl, H0.out, H1.out, HB.out⟩ | (rw [HW.out]; exact ⟨_, _, rfl, H0.out, H1.out, HB.out⟩))
 ·by_cases hw : wt ≤ limit
  ·have hw1 := eq_true hw
   have HW := Aside0.mk (show (true && decide (wt ≤ limit)) = true by simpa using hw)
   clear hw
   go_enter Try.func73, Try.ntmps73
   go_wp2_with (first | ((with_reducible refine gate_dst (N := 3) rfl ?_); refine box_event ?hg (N := 3) ?hd (cs := #[.int .i64 next, .int .i64 limit, .int .i64 key]) (t := 96) ?hr ?_; (case hd => rfl); (case hg => rfl); (case hr => first | (go_simp; done) | (go_simp; rfl)); intro g3 hg w1 hbox hb; have m_HB := Aside0.mk (below_step HB.out hb); have B3 := Aside0.mk hbox; clear HB hbox hb hg; have HB := m_HB; clear m_HB) | ((with_reducible refine gate_dst (N := 6) rfl ?_); refine box_event ?hg (N := 6) ?hd (cs := #[.slice none 0 0, .slice none 0 0, .int .i64 0, .int .i64 0, .int .i64 0]) (t := 39) ?hr ?_; (case hd => rfl); (case hg => rfl); (case hr => first | (go_simp; done) | (go_simp; rfl)); intro g6 hg w2 hbox hb; have N36 := Aside0.mk (show g3 ≠ g6 by rw [hg]; exact Nat.ne_of_lt (blk_lt B3.out)); have G6 := Aside0.mk (show w.heap.size ≤ g6 by rw [hg]; exact HB.out.size); have m_HB := Aside0.mk (below_step HB.out hb); have m_B3 := Aside0.mk (blk_below B3.out hb); have B6 := Aside0.mk hbox; clear HB B3 hbox hb hg; have HB := m_HB; have B3 := m_B3; clear m_HB m_B3; have kk : w2.cell? ⟨g3, 2, none⟩ = some (.int .i64 key) := (blk_cell B3.out 2).trans rfl) | ((with_reducible refine gate_callee (f := 38) rfl ?_); refine goesL_ (some 15) rfl rfl Try.func38 (by kernel_rfl) rfl #[.slice A l.length c, .int .i64 rate, .int .i64 key] rfl (by (try simp only [List.map_toArray, List.map_cons, List.map_nil]); first | done | rfl) ?_; refine (MK.out _ HB.out).mono ?_; rintro e w4 ⟨v0, v1, rfl, h0, h1, hb⟩; refine ⟨_, rfl, ?_⟩; have H0 := Aside0.mk (Kd.R_lower h0 HB.out.size); have H1 := Aside0.mk (Kd.R_lower h1 HB.out.size); clear h0 h1 kk; obtain ⟨A0, c0, e0⟩ := Kd.R_slice H0.out; subst e0; obtain ⟨A1, c1, e1⟩ := Kd.R_slice H1.out; subst e1; have m_B3 := Aside0.mk (blk_below B3.out hb); have m_B6 := Aside0.mk (blk_below B6.out hb); have m_HB := Aside0.mk (below_step HB.out hb); clear B3 B6 HB; have B3 := m_B3; have B6 := m_B6; have HB := m_HB; clear m_B3 m_B6 m_HB; clear hb) | ((with_reducible refine gate_dst (N := 8) rfl ?_); refine Fill.fill_event (N := 8) (x := 16) (cs := #[.slice A0 ins.length c0, .slice A1 outs.length c1, .int .i64 lock, .int .i64 fee, .int .i64 rt]) (t := 39) rfl rfl rfl rfl rfl rfl Try.zeroValue39 Try.sizeOf39 rfl rfl (fun _ => rfl) (fun _ => rfl) ?_; intro g8 hg8 w5 hbox hb; have N68 := Aside0.mk (show g6 ≠ g8 by rw [hg8]; exact Nat.ne_of_lt (blk_lt B6.out)); have B8 := Aside0.mk hbox; have m_H0 := Aside0.mk (Kd.R_below H0.out hb); have m_H1 := Aside0.mk (Kd.R_below H1.out hb); have m_B3 := Aside0.mk (blk_below B3.out hb); have m_B6 := Aside0.mk (blk_below B6.out hb); have m_HB := Aside0.mk (below_step HB.out hb); clear B3 B6 HB; have B3 := m_B3; have B6 := m_B6; have HB := m_HB; clear m_B3 m_B6 m_HB; clear H0 H1 hbox hb hg8; have H0 := m_H0; have H1 := m_H1; clear m_H0 m_H1))
   have m_B3 := Aside0.mk (blk_drew B3.out)
   have m_B6 := Aside0.mk (blk_drew B6.out)
   have m_B8 := Aside0.mk (blk_drew B8.out)
   have m_H0 := Aside0.mk (Kd.R_drew H0.out)
   have m_H1 := Aside0.mk (Kd.R_drew H1.out)
   have m_HB := Aside0.mk (below_drew1 HB.out)
   clear B3 B6 B8 H0 H1 HB
   have B3 := m_B3
   have B6 := m_B6
   have B8 := m_B8
   have H0 := m_H0
   have H1 := m_H1
   have HB := m_HB
   clear m_B3 m_B6 m_B8 m_H0 m_H1 m_HB
   refine start_ (n := 12) (S := (fun w' => (w'.cell? ⟨g8, 0, none⟩ = some (.slice A0 ins.length c0) ∧ w'.cell? ⟨g8, 1, none⟩ = some (.slice A1 outs.length c1) ∧ w'.cell? ⟨g8, 2, none⟩ = some (.int .i64 lock) ∧ w'.cell? ⟨g8, 3, none⟩ = some (.int .i64 fee) ∧ w'.cell? ⟨g8, 4, none⟩ = some (.int .i64 rt)) ∧ w'.cell? ⟨g3, 1, none⟩ = some (.int .i64 limit))) (ds := []) #[false, false, false, false, false, false, false, false, false, false, false, false] (by kernel_rfl) rfl rfl ⟨⟨(blk_cell B8.out 0).trans rfl, (blk_cell B8.out 1).trans rfl, (blk_cell B8.out 2).trans rfl, (blk_cell B8.out 3).trans rfl, (blk_cell B8.out 4).trans rfl⟩, (blk_cell B3.out 1).trans rfl⟩ (fun hHeld => ?_)
   generalize w5.drew = w6 at B3 B6 B8 H0 H1 HB hHeld ⊢
   refine pure_ (i := 1) (N := some 19) (v := ?_) (a' := ?_) #[false, true, false, false, false, false, false, false, false, false, false, false] rfl rfl (by kernel_rfl) (fun _ _ _ h => h) (Or.inl ⟨by rfl, ?_⟩) ?_ ?_
   rotate_left
   ·intro w'
    go_simp
    with_reducible rfl
   rotate_left
   ·simp only [Act.put, List.setIfInBounds_toArray, List.set_cons_zero, List.set_cons_succ, i64_w, i32_w]
    rfl
   refine pure_ (i := 2) (N := some 20) (v := ?_) (a' := ?_) #[false, true, true, false, false, false, false, false, false, false, false, false] rfl rfl (by kernel_rfl) (fun _ _ _ h => h) (Or.inl ⟨by rfl, ?_⟩) ?_ ?_
   rotate_left
   ·intro w'
    go_simp
    with_reducible rfl
   rotate_left
   ·simp only [Act.put, List.setIfInBounds_toArray, List.set_cons_zero, List.set_cons_succ, i64_w, i32_w]
    rfl
   refine pure_ (i := 3) (N := some 21) (v := ?_) (a' := ?_) #[false, true, true, true, false, false, false, false, false, false, false, false] rfl rfl (by kernel_rfl) (fun _ _ _ h => h) (Or.inl ⟨by rfl, ?_⟩) ?_ ?_
   rotate_left
   ·intro w'
    go_simp
    with_reducible rfl
   rotate_left
   ·simp only [Act.put, List.setIfInBounds_toArray, List.set_cons_zero, List.set_cons_succ, i64_w, i32_w]
    rfl
   refine take_ (i := 4) (N := some 22) (v := ?_) (a' := ?_) #[false, true, true, true, true, false, false, false, false, false, false, false] rfl rfl (by kernel_rfl) (fun _ _ _ h => h) (Or.inl ⟨by rfl, ?_⟩) hHeld ?_ ?_
   rotate_left
   ·rintro w' ⟨⟨hs0, hs1, hs2, hs3, hs4⟩, hs5⟩
    go_simp
    with_reducible rfl
   rotate_left
   ·simp only [Act.put, List.setIfInBounds_toArray, List.set_cons_zero, List.set_cons_succ, i64_w, i32_w]
    rfl
   refine pure_ (i := 6) (N := some 24) (v := ?_) (a' := ?_) #[false, true, true, true, true, false, true, false, false, false, false, false] rfl rfl (by kernel_rfl) (fun _ _ _ h => h) (Or.inl ⟨by rfl, ?_⟩) ?_ ?_
   rotate_left
   ·intro w'
    go_simp
    with_reducible rfl
   rotate_left
   ·simp only [Act.put, List.setIfInBounds_toArray, List.set_cons_zero, List.set_cons_succ, i64_w, i32_w]
    rfl
   refine take_ (i := 7) (N := some 25) (v := ?_) (a' := ?_) #[false, true, true, true, true, false, true, true, false, false, false, false] rfl rfl (by kernel_rfl) (fun _ _ _ h => h) (Or.inl ⟨by rfl, ?_⟩) hHeld ?_ ?_
   rotate_left
   ·rintro w' ⟨⟨hs0, hs1, hs2, hs3, hs4⟩, hs5⟩
    go_simp
    with_reducible rfl
   rotate_left
   ·simp only [Act.put, List.setIfInBounds_toArray, List.set_cons_zero, List.set_cons_succ, i64_w, i32_w]
    rfl
   refine take_ (i := 0) (N := some 18) (v := ?_) (a' := ?_) #[true, true, true, true, true, false, true, true, false, false, false, false] rfl rfl (by kernel_rfl) (fun _ _ _ h => h) (Or.inl ⟨by rfl, ?_⟩) hHeld ?_ ?_
   rotate_left
   ·rintro w' ⟨⟨hs0, hs1, hs2, hs3, hs4⟩, hs5⟩
    go_simp
    with_reducible rfl
   rotate_left
   ·simp only [Act.put, List.setIfInBounds_toArray, List.set_cons_zero, List.set_cons_succ, i64_w, i32_w]
    rfl
   refine one_ (i := 5) (N := some 23) #[true, true, true, true, true, true, true, true, false, false, false, false] rfl rfl (by kernel_rfl) (by decide) (fun K hK => ?_)
   refine goes_ Try.func22 (by kernel_rfl) rfl #[.agg #[.slice A0 ins.length c0, .slice A1 outs.length c1, .int .i64 lock]] (by rfl) rfl rfl (by (try simp only [List.map_toArray, List.map_cons, List.map_nil]); first | done | rfl) ?_
   refine (tx_Weight.calls _ A0 c0 ins A1 c1 outs lock wt _ (Kd.R_reads' H0.out).2.2 (Kd.R_reads' H0.out).2.1 (Kd.R_reads' H1.out).2.2 (Kd.R_reads' H1.out).2.1 KW.out).mono ?_
   rintro e w7 ⟨rfl, hb⟩
   refine ⟨_, rfl, ?_⟩
   have m_B3 := Aside0.mk (blk_below B3.out hb)
   have m_B6 := Aside0.mk (blk_below B6.out hb)
   have m_B8 := Aside0.mk (blk_below B8.out hb)
   have m_H0 := Aside0.mk (Kd.R_below H0.out hb)
   have m_H1 := Aside0.mk (Kd.R_below H1.out hb)
   have m_HB := Aside0.mk (below_step HB.out hb)
   clear B3 B6 B8 H0 H1 HB
   have B3 := m_B3
   have B6 := m_B6
   have B8 := m_B8
   have H0 := m_H0
   have H1 := m_H1
   have HB := m_HB
   clear m_B3 m_B6 m_B8 m_H0 m_H1 m_HB
   clear hb
   refine hK.out _ _ ⟨⟨(blk_cell B8.out 0).trans rfl, (blk_cell B8.out 1).trans rfl, (blk_cell B8.out 2).trans rfl, (blk_cell B8.out 3).trans rfl, (blk_cell B8.out 4).trans rfl⟩, (blk_cell B3.out 1).trans rfl⟩ (fun hHeld => ?_)
   clear hK K
   refine norm_ (a' := ?_) ?_ ?_
   rotate_left
   ·show Act.put _ (some 23) _ = _
    simp only [Act.put, List.setIfInBounds_toArray, List.set_cons_zero, List.set_cons_succ, i64_w, i32_w]
    rfl
   refine pure_ (i := 8) (N := some 26) (v := ?_) (a' := ?_) #[true, true, true, true, true, true, true, true, true, false, false, false] rfl rfl (by kernel_rfl) (fun _ _ _ h => h) (Or.inl ⟨by rfl, ?_⟩) ?_ ?_
   rotate_left
   ·intro w'
    go_simp
    with_reducible rfl
   rotate_left
   ·simp only [Act.put, List.setIfInBounds_toArray, List.set_cons_zero, List.set_cons_succ, i64_w, i32_w]
    rfl
   refine pure_ (i := 9) (N := some 27) (v := ?_) (a' := ?_) #[true, true, true, true, true, true, true, true, true, true, false, false] rfl rfl (by kernel_rfl) (fun _ _ _ h => h) (Or.inl ⟨by rfl, ?_⟩) ?_ ?_
   rotate_left
   ·intro w'
    go_simp
    with_reducible rfl
   rotate_left
   ·simp only [Act.put, List.setIfInBounds_toArray, List.set_cons_zero, List.set_cons_succ, i64_w, i32_w]
    rfl
   refine one_ (i := 10) (N := none) #[true, true, true, true, true, true, true, true, true, true, true, false] rfl rfl (by kernel_rfl) (by decide) (fun K hK => ?_)
   have q0 : w7.cell? ⟨g6, 0, none⟩ = some (.slice none 0 0) := (blk_cell B6.out 0).trans rfl
   have q1 : w7.cell? ⟨g6, 1, none⟩ = some (.slice none 0 0) := (blk_cell B6.out 1).trans rfl
   have q2 : w7.cell? ⟨g6, 2, none⟩ = some (.int .i64 0) := (blk_cell B6.out 2).trans rfl
   have q3 : w7.cell? ⟨g6, 3, none⟩ = some (.int .i64 0) := (blk_cell B6.out 3).trans rfl
   have q4 : w7.cell? ⟨g6, 4, none⟩ = some (.int .i64 0) := (blk_cell B6.out 4).trans rfl
   have f0 := blk_frozen B6.out 0
   have f1 := blk_frozen B6.out 1
   have f2 := blk_frozen B6.out 2
   have f3 := blk_frozen B6.out 3
   have f4 := blk_frozen B6.out 4
   refine skip_ (w1 := w7.setCells g6 0 [.slice A0 ins.length c0, .slice A1 outs.length c1, .int .i64 lock, .int .i64 fee, .int .i64 rt]) (by rfl) rfl ?_ ?_
   ·first | (go_simp; done) | (go_simp; rfl)
   have hgs : w7.grownBy (w7.setCells g6 0 [.slice A0 ins.length c0, .slice A1 outs.length c1, .int .i64 lock, .int .i64 fee, .int .i64 rt]) (some g6) := grown_setCells g6 [.slice A0 ins.length c0, .slice A1 outs.length c1, .int .i64 lock, .int .i64 fee, .int .i64 rt] 0 w7
   have m_B3 := Aside0.mk (blk_grown B3.out hgs (by simpa using N36.out))
   have m_B8 := Aside0.mk (blk_grown B8.out hgs (by simpa using Ne.symm N68.out))
   have m_B6 := Aside0.mk (heap_setCells [.slice A0 ins.length c0, .slice A1 outs.length c1, .int .i64 lock, .int .i64 fee, .int .i64 rt] 0 w7 [.slice none 0 0, .slice none 0 0, .int .i64 0, .int .i64 0, .int .i64 0] B6.out (by simp))
   have m_H0 := Aside0.mk (Kd.R_grown2 H0.out rfl hgs (fun k e => by cases e; exact Kd.R_ne H0.out B6.out (by decide)))
   have m_H1 := Aside0.mk (Kd.R_grown2 H1.out rfl hgs (fun k e => by cases e; exact Kd.R_ne H1.out B6.out (by decide)))
   have m_HB := Aside0.mk (pw_below_grown HB.out (some g6) HB.out.size hgs (fun k e => by cases e; exact G6.out))
   clear B3 B6 B8 H0 H1 HB hgs q0 q1 q2 q3 q4 f0 f1 f2 f3 f4
   have B3 := m_B3
   have B6 := m_B6
   have B8 := m_B8
   have H0 := m_H0
   have H1 := m_H1
   have HB := m_HB
   clear m_B3 m_B6 m_B8 m_H0 m_H1 m_HB
   generalize w7.setCells g6 0 [.slice A0 ins.length c0, .slice A1 outs.length c1, .int .i64 lock, .int .i64 fee, .int .i64 rt] = w9 at B3 B6 B8 H0 H1 HB ⊢
   refine hK.out _ _ ⟨⟨(blk_cell B8.out 0).trans rfl, (blk_cell B8.out 1).trans rfl, (blk_cell B8.out 2).trans rfl, (blk_cell B8.out 3).trans rfl, (blk_cell B8.out 4).trans rfl⟩, (blk_cell B3.out 1).trans rfl⟩ (fun hHeld => ?_)
   clear hK K
   refine pure_ (i := 11) (N := some 7) (v := ?_) (a' := ?_) #[true, true, true, true, true, true, true, true, true, true, true, true] rfl rfl (by kernel_rfl) (fun _ _ _ h => h) (Or.inl ⟨by rfl, ?_⟩) ?_ ?_
   rotate_left
   ·intro w'
    go_simp
    with_reducible rfl
   rotate_left
   ·simp only [Act.put, List.setIfInBounds_toArray, List.set_cons_zero, List.set_cons_succ, i64_w, i32_w]
    rfl
   refine done_ (by kernel_rfl) ?_
   clear hHeld
   go_wp2
   (refine bodyPost_ret (results_ct rfl _ _ g6 39 #[.slice A0 ins.length c0, .slice A1 outs.length c1, .int .i64 lock, .int .i64 fee, .int .i64 rt] (0, 0) _ rfl (by simpa [over] using B6.out) Try.underlying39 rfl (by kernel_rfl)) rfl ?_; first | exact ⟨_, _, rfl, H0.out, H1.out, HB.out⟩ | (rw [HW.out]; exact ⟨_, _, rfl, H0.out, H1.out, HB.out⟩))
  ·have hw1 := eq_false hw
   have HW := Aside0.mk (show (true && decide (wt ≤ limit)) = false by simpa using hw)
   clear hw
   go_enter Try.func73, Try.ntmps73
   go_wp2_with (first | ((with_reducible refine gate_dst (N := 3) rfl ?_); refine box_event ?hg (N := 3) ?hd (cs := #[.int .i64 next, .int .i64 limit, .int .i64 key]) (t := 96) ?hr ?_; (case hd => rfl); (case hg => rfl); (case hr => first | (go_simp; done) | (go_simp; rfl)); intro g3 hg w1 hbox hb; have m_HB := Aside0.mk (below_step HB.out hb); have B3 := Aside0.mk hbox; clear HB hbox hb hg; have HB := m_HB; clear m_HB) | ((with_reducible refine gate_dst (N := 6) rfl ?_); refine box_event ?hg (N := 6) ?hd (cs := #[.slice none 0 0, .slice none 0 0, .int .i64 0, .int .i64 0, .int .i64 0]) (t := 39) ?hr ?_; (case hd => rfl); (case hg => rfl); (case hr => first | (go_simp; done) | (go_simp; rfl)); intro g6 hg w2 hbox hb; have N36 := Aside0.mk (show g3 ≠ g6 by rw [hg]; exact Nat.ne_of_lt (blk_lt B3.out)); have G6 := Aside0.mk (show w.heap.size ≤ g6 by rw [hg]; exact HB.out.size); have m_HB := Aside0.mk (below_step HB.out hb); have m_B3 := Aside0.mk (blk_below B3.out hb); have B6 := Aside0.mk hbox; clear HB B3 hbox hb hg; have HB := m_HB; have B3 := m_B3; clear m_HB m_B3; have kk : w2.cell? ⟨g3, 2, none⟩ = some (.int .i64 key) := (blk_cell B3.out 2).trans rfl) | ((with_reducible refine gate_callee (f := 38) rfl ?_); refine goesL_ (some 15) rfl rfl Try.func38 (by kernel_rfl) rfl #[.slice A l.length c, .int .i64 rate, .int .i64 key] rfl (by (try simp only [List.map_toArray, List.map_cons, List.map_nil]); first | done | rfl) ?_; refine (MK.out _ HB.out).mono ?_; rintro e w4 ⟨v0, v1, rfl, h0, h1, hb⟩; refine ⟨_, rfl, ?_⟩; have H0 := Aside0.mk (Kd.R_lower h0 HB.out.size); have H1 := Aside0.mk (Kd.R_lower h1 HB.out.size); clear h0 h1 kk; obtain ⟨A0, c0, e0⟩ := Kd.R_slice H0.out; subst e0; obtain ⟨A1, c1, e1⟩ := Kd.R_slice H1.out; subst e1; have m_B3 := Aside0.mk (blk_below B3.out hb); have m_B6 := Aside0.mk (blk_below B6.out hb); have m_HB := Aside0.mk (below_step HB.out hb); clear B3 B6 HB; have B3 := m_B3; have B6 := m_B6; have HB := m_HB; clear m_B3 m_B6 m_HB; clear hb) | ((with_reducible refine gate_dst (N := 8) rfl ?_); refine Fill.fill_event (N := 8) (x := 16) (cs := #[.slice A0 ins.length c0, .slice A1 outs.length c1, .int .i64 lock, .int .i64 fee, .int .i64 rt]) (t := 39) rfl rfl rfl rfl rfl rfl Try.zeroValue39 Try.sizeOf39 rfl rfl (fun _ => rfl) (fun _ => rfl) ?_; intro g8 hg8 w5 hbox hb; have N68 := Aside0.mk (show g6 ≠ g8 by rw [hg8]; exact Nat.ne_of_lt (blk_lt B6.out)); have B8 := Aside0.mk hbox; have m_H0 := Aside0.mk (Kd.R_below H0.out hb); have m_H1 := Aside0.mk (Kd.R_below H1.out hb); have m_B3 := Aside0.mk (blk_below B3.out hb); have m_B6 := Aside0.mk (blk_below B6.out hb); have m_HB := Aside0.mk (below_step HB.out hb); clear B3 B6 HB; have B3 := m_B3; have B6 := m_B6; have HB := m_HB; clear m_B3 m_B6 m_HB; clear H0 H1 hbox hb hg8; have H0 := m_H0; have H1 := m_H1; clear m_H0 m_H1))
   have m_B3 := Aside0.mk (blk_drew B3.out)
   have m_B6 := Aside0.mk (blk_drew B6.out)
   have m_B8 := Aside0.mk (blk_drew B8.out)
   have m_H0 := Aside0.mk (Kd.R_drew H0.out)
   have m_H1 := Aside0.mk (Kd.R_drew H1.out)
   have m_HB := Aside0.mk (below_drew1 HB.out)
   clear B3 B6 B8 H0 H1 HB
   have B3 := m_B3
   have B6 := m_B6
   have B8 := m_B8
   have H0 := m_H0
   have H1 := m_H1
   have HB := m_HB
   clear m_B3 m_B6 m_B8 m_H0 m_H1 m_HB
   refine start_ (n := 12) (S := (fun w' => (w'.cell? ⟨g8, 0, none⟩ = some (.slice A0 ins.length c0) ∧ w'.cell? ⟨g8, 1, none⟩ = some (.slice A1 outs.length c1) ∧ w'.cell? ⟨g8, 2, none⟩ = some (.int .i64 lock) ∧ w'.cell? ⟨g8, 3, none⟩ = some (.int .i64 fee) ∧ w'.cell? ⟨g8, 4, none⟩ = some (.int .i64 rt)) ∧ w'.cell? ⟨g3, 1, none⟩ = some (.int .i64 limit))) (ds := []) #[false, false, false, false, false, false, false, false, false, false, false, false] (by kernel_rfl) rfl rfl ⟨⟨(blk_cell B8.out 0).trans rfl, (blk_cell B8.out 1).trans rfl, (blk_cell B8.out 2).trans rfl, (blk_cell B8.out 3).trans rfl, (blk_cell B8.out 4).trans rfl⟩, (blk_cell B3.out 1).trans rfl⟩ (fun hHeld => ?_)
   generalize w5.drew = w6 at B3 B6 B8 H0 H1 HB hHeld ⊢
   refine pure_ (i := 1) (N := some 19) (v := ?_) (a' := ?_) #[false, true, false, false, false, false, false, false, false, false, false, false] rfl rfl (by kernel_rfl) (fun _ _ _ h => h) (Or.inl ⟨by rfl, ?_⟩) ?_ ?_
   rotate_left
   ·intro w'
    go_simp
    with_reducible rfl
   rotate_left
   ·simp only [Act.put, List.setIfInBounds_toArray, List.set_cons_zero, List.set_cons_succ, i64_w, i32_w]
    rfl
   refine pure_ (i := 2) (N := some 20) (v := ?_) (a' := ?_) #[false, true, true, false, false, false, false, false, false, false, false, false] rfl rfl (by kernel_rfl) (fun _ _ _ h => h) (Or.inl ⟨by rfl, ?_⟩) ?_ ?_
   rotate_left
   ·intro w'
    go_simp
    with_reducible rfl
   rotate_left
   ·simp only [Act.put, List.setIfInBounds_toArray, List.set_cons_zero, List.set_cons_succ, i64_w, i32_w]
    rfl
   refine pure_ (i := 3) (N := some 21) (v := ?_) (a' := ?_) #[false, true, true, true, false, false, false, false, false, false, false, false] rfl rfl (by kernel_rfl) (fun _ _ _ h => h) (Or.inl ⟨by rfl, ?_⟩) ?_ ?_
   rotate_left
   ·intro w'
    go_simp
    with_reducible rfl
   rotate_left
   ·simp only [Act.put, List.setIfInBounds_toArray, List.set_cons_zero, List.set_cons_succ, i64_w, i32_w]
    rfl
   refine take_ (i := 4) (N := some 22) (v := ?_) (a' := ?_) #[false, true, true, true, true, false, false, false, false, false, false, false] rfl rfl (by kernel_rfl) (fun _ _ _ h => h) (Or.inl ⟨by rfl, ?_⟩) hHeld ?_ ?_
   rotate_left
   ·rintro w' ⟨⟨hs0, hs1, hs2, hs3, hs4⟩, hs5⟩
    go_simp
    with_reducible rfl
   rotate_left
   ·simp only [Act.put, List.setIfInBounds_toArray, List.set_cons_zero, List.set_cons_succ, i64_w, i32_w]
    rfl
   refine pure_ (i := 6) (N := some 24) (v := ?_) (a' := ?_) #[false, true, true, true, true, false, true, false, false, false, false, false] rfl rfl (by kernel_rfl) (fun _ _ _ h => h) (Or.inl ⟨by rfl, ?_⟩) ?_ ?_
   rotate_left
   ·intro w'
    go_simp
    with_reducible rfl
   rotate_left
   ·simp only [Act.put, List.setIfInBounds_toArray, List.set_cons_zero, List.set_cons_succ, i64_w, i32_w]
    rfl
   refine take_ (i := 7) (N := some 25) (v := ?_) (a' := ?_) #[false, true, true, true, true, false, true, true, false, false, false, false] rfl rfl (by kernel_rfl) (fun _ _ _ h => h) (Or.inl ⟨by rfl, ?_⟩) hHeld ?_ ?_
   rotate_left
   ·rintro w' ⟨⟨hs0, hs1, hs2, hs3, hs4⟩, hs5⟩
    go_simp
    with_reducible rfl
   rotate_left
   ·simp only [Act.put, List.setIfInBounds_toArray, List.set_cons_zero, List.set_cons_succ, i64_w, i32_w]
    rfl
   refine take_ (i := 0) (N := some 18) (v := ?_) (a' := ?_) #[true, true, true, true, true, false, true, true, false, false, false, false] rfl rfl (by kernel_rfl) (fun _ _ _ h => h) (Or.inl ⟨by rfl, ?_⟩) hHeld ?_ ?_
   rotate_left
   ·rintro w' ⟨⟨hs0, hs1, hs2, hs3, hs4⟩, hs5⟩
    go_simp
    with_reducible rfl
   rotate_left
   ·simp only [Act.put, List.setIfInBounds_toArray, List.set_cons_zero, List.set_cons_succ, i64_w, i32_w]
    rfl
   refine one_ (i := 5) (N := some 23) #[true, true, true, true, true, true, true, true, false, false, false, false] rfl rfl (by kernel_rfl) (by decide) (fun K hK => ?_)
   refine goes_ Try.func22 (by kernel_rfl) rfl #[.agg #[.slice A0 ins.length c0, .slice A1 outs.length c1, .int .i64 lock]] (by rfl) rfl rfl (by (try simp only [List.map_toArray, List.map_cons, List.map_nil]); first | done | rfl) ?_
   refine (tx_Weight.calls _ A0 c0 ins A1 c1 outs lock wt _ (Kd.R_reads' H0.out).2.2 (Kd.R_reads' H0.out).2.1 (Kd.R_reads' H1.out).2.2 (Kd.R_reads' H1.out).2.1 KW.out).mono ?_
   rintro e w7 ⟨rfl, hb⟩
   refine ⟨_, rfl, ?_⟩
   have m_B3 := Aside0.mk (blk_below B3.out hb)
   have m_B6 := Aside0.mk (blk_below B6.out hb)
   have m_B8 := Aside0.mk (blk_below B8.out hb)
   have m_H0 := Aside0.mk (Kd.R_below H0.out hb)
   have m_H1 := Aside0.mk (Kd.R_below H1.out hb)
   have m_HB := Aside0.mk (below_step HB.out hb)
   clear B3 B6 B8 H0 H1 HB
   have B3 := m_B3
   have B6 := m_B6
   have B8 := m_B8
   have H0 := m_H0
   have H1 := m_H1
   have HB := m_HB
   clear m_B3 m_B6 m_B8 m_H0 m_H1 m_HB
   clear hb
   refine hK.out _ _ ⟨⟨(blk_cell B8.out 0).trans rfl, (blk_cell B8.out 1).trans rfl, (blk_cell B8.out 2).trans rfl, (blk_cell B8.out 3).trans rfl, (blk_cell B8.out 4).trans rfl⟩, (blk_cell B3.out 1).trans rfl⟩ (fun hHeld => ?_)
   clear hK K
   refine norm_ (a' := ?_) ?_ ?_
   rotate_left
   ·show Act.put _ (some 23) _ = _
    simp only [Act.put, List.setIfInBounds_toArray, List.set_cons_zero, List.set_cons_succ, i64_w, i32_w]
    rfl
   refine pure_ (i := 8) (N := some 26) (v := ?_) (a' := ?_) #[true, true, true, true, true, true, true, true, true, false, false, false] rfl rfl (by kernel_rfl) (fun _ _ _ h => h) (Or.inl ⟨by rfl, ?_⟩) ?_ ?_
   rotate_left
   ·intro w'
    go_simp
    with_reducible rfl
   rotate_left
   ·simp only [Act.put, List.setIfInBounds_toArray, List.set_cons_zero, List.set_cons_succ, i64_w, i32_w]
    rfl
   refine pure_ (i := 9) (N := some 27) (v := ?_) (a' := ?_) #[true, true, true, true, true, true, true, true, true, true, false, false] rfl rfl (by kernel_rfl) (fun _ _ _ h => h) (Or.inl ⟨by rfl, ?_⟩) ?_ ?_
   rotate_left
   ·intro w'
    go_simp
    with_reducible rfl
   rotate_left
   ·simp only [Act.put, List.setIfInBounds_toArray, List.set_cons_zero, List.set_cons_succ, i64_w, i32_w]
    rfl
   refine one_ (i := 10) (N := none) #[true, true, true, true, true, true, true, true, true, true, true, false] rfl rfl (by kernel_rfl) (by decide) (fun K hK => ?_)
   have q0 : w7.cell? ⟨g6, 0, none⟩ = some (.slice none 0 0) := (blk_cell B6.out 0).trans rfl
   have q1 : w7.cell? ⟨g6, 1, none⟩ = some (.slice none 0 0) := (blk_cell B6.out 1).trans rfl
   have q2 : w7.cell? ⟨g6, 2, none⟩ = some (.int .i64 0) := (blk_cell B6.out 2).trans rfl
   have q3 : w7.cell? ⟨g6, 3, none⟩ = some (.int .i64 0) := (blk_cell B6.out 3).trans rfl
   have q4 : w7.cell? ⟨g6, 4, none⟩ = some (.int .i64 0) := (blk_cell B6.out 4).trans rfl
   have f0 := blk_frozen B6.out 0
   have f1 := blk_frozen B6.out 1
   have f2 := blk_frozen B6.out 2
   have f3 := blk_frozen B6.out 3
   have f4 := blk_frozen B6.out 4
   refine skip_ (w1 := w7.setCells g6 0 [.slice A0 ins.length c0, .slice A1 outs.length c1, .int .i64 lock, .int .i64 fee, .int .i64 rt]) (by rfl) rfl ?_ ?_
   ·first | (go_simp; done) | (go_simp; rfl)
   have hgs : w7.grownBy (w7.setCells g6 0 [.slice A0 ins.length c0, .slice A1 outs.length c1, .int .i64 lock, .int .i64 fee, .int .i64 rt]) (some g6) := grown_setCells g6 [.slice A0 ins.length c0, .slice A1 outs.length c1, .int .i64 lock, .int .i64 fee, .int .i64 rt] 0 w7
   have m_B3 := Aside0.mk (blk_grown B3.out hgs (by simpa using N36.out))
   have m_B8 := Aside0.mk (blk_grown B8.out hgs (by simpa using Ne.symm N68.out))
   have m_B6 := Aside0.mk (heap_setCells [.slice A0 ins.length c0, .slice A1 outs.length c1, .int .i64 lock, .int .i64 fee, .int .i64 rt] 0 w7 [.slice none 0 0, .slice none 0 0, .int .i64 0, .int .i64 0, .int .i64 0] B6.out (by simp))
   have m_H0 := Aside0.mk (Kd.R_grown2 H0.out rfl hgs (fun k e => by cases e; exact Kd.R_ne H0.out B6.out (by decide)))
   have m_H1 := Aside0.mk (Kd.R_grown2 H1.out rfl hgs (fun k e => by cases e; exact Kd.R_ne H1.out B6.out (by decide)))
   have m_HB := Aside0.mk (pw_below_grown HB.out (some g6) HB.out.size hgs (fun k e => by cases e; exact G6.out))
   clear B3 B6 B8 H0 H1 HB hgs q0 q1 q2 q3 q4 f0 f1 f2 f3 f4
   have B3 := m_B3
   have B6 := m_B6
   have B8 := m_B8
   have H0 := m_H0
   have H1 := m_H1
   have HB := m_HB
   clear m_B3 m_B6 m_B8 m_H0 m_H1 m_HB
   generalize w7.setCells g6 0 [.slice A0 ins.length c0, .slice A1 outs.length c1, .int .i64 lock, .int .i64 fee, .int .i64 rt] = w9 at B3 B6 B8 H0 H1 HB ⊢
   refine hK.out _ _ ⟨⟨(blk_cell B8.out 0).trans rfl, (blk_cell B8.out 1).trans rfl, (blk_cell B8.out 2).trans rfl, (blk_cell B8.out 3).trans rfl, (blk_cell B8.out 4).trans rfl⟩, (blk_cell B3.out 1).trans rfl⟩ (fun hHeld => ?_)
   clear hK K
   refine pure_ (i := 11) (N := some 7) (v := ?_) (a' := ?_) #[true, true, true, true, true, true, true, true, true, true, true, true] rfl rfl (by kernel_rfl) (fun _ _ _ h => h) (Or.inl ⟨by rfl, ?_⟩) ?_ ?_
   rotate_left
   ·intro w'
    go_simp
    with_reducible rfl
   rotate_left
   ·simp only [Act.put, List.setIfInBounds_toArray, List.set_cons_zero, List.set_cons_succ, i64_w, i32_w]
    rfl
   refine done_ (by kernel_rfl) ?_
   clear hHeld
   go_wp2
   (refine bodyPost_ret (results_ct rfl _ _ g6 39 #[.slice A0 ins.length c0, .slice A1 outs.length c1, .int .i64 lock, .int .i64 fee, .int .i64 rt] (0, 0) _ rfl (by simpa [over] using B6.out) Try.underlying39 rfl (by kernel_rfl)) rfl ?_; first | exact ⟨_, _, rfl, H0.out, H1.out, HB.out⟩ | (rw [HW.out]; exact ⟨_, _, rfl, H0.out, H1.out, HB.out⟩))
end Go.Proofs.Ytiodebjjbgcbhaa.Inp
