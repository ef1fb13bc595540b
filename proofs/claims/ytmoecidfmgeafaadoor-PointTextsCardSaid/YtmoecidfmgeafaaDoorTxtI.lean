/- PointTexts: the walk: whatever the outpoint, whatever the text, it answers true. -/
import Derived.Test.YtmoecidfmgeafaaDoorTxtP
import Derived.Test.YtmoecidfmgeafaaDoorQPntx4
namespace Go.Proofs.YtmoecidfmgeafaaDoor.Txt
open Go.RowKit Go.Proofs.YtmoecidfmgeafaaDoor.QPnt Go.Proofs.YtmoecidfmgeafaaDoorW.PrintWords Go.Proofs.YtmoecidfmgeafaaDoorW.PrintLast Go.Proofs.YtmoecidfmgeafaaDoorW.PrintMore
attribute [local go_sem] Go.Proofs.YtmoecidfmgeafaaDoor.Wide.cellsAt_drewN Go.Proofs.YtmoecidfmgeafaaDoor.Wide.cellsAt_drew Go.Proofs.YtmoecidfmgeafaaDoor.Wide.lw32 Go.Proofs.YtmoecidfmgeafaaDoor.Wide.lw33
attribute [local go_sem ↓ high] Go.Proofs.YtmoecidfmgeafaaDoor.Wide.hv32 Go.Proofs.YtmoecidfmgeafaaDoor.Wide.hv33
set_option linter.unusedVariables false
set_option linter.unusedSimpArgs false
def T3 : Bool × List (List Nat × List Nat) := (true, [([], []), ([0], [0]), ([], []), ([2, 1], [2]), ([1, 3], [1, 3]), ([4, 3], [4]), ([5], [5]), ([5], [5]), ([6, 7, 5], [5, 6, 7]), ([5, 8], [5, 8]), ([9, 5], [9]), ([10], [10]), ([10], [10]), ([11, 12, 10], [10, 11, 12]), ([10, 13], [10, 13]), ([14, 10], [14]), ([15], [15]), ([15], [15]), ([16, 17, 15], [15, 16, 17]), ([15, 18], [15, 18]), ([19, 15], [19]), ([20], [20]), ([21, 20], [20, 21]), ([22, 20, 20], [20, 22]), ([23], [23]), ([23], [23]), ([24, 25, 23], [23, 24, 25]), ([23, 26, 20], [20, 23, 26]), ([20, 27], [20, 27]), ([28, 23], [28]), ([29, 29], [29]), ([29, 30], [29, 30]), ([31, 30, 0, 1, 2, 3, 4, 5, 6, 7, 8, 9, 10, 11, 12, 13, 14, 15, 16, 17, 18, 19, 20, 21, 22, 23, 24, 25, 26, 27, 28, 29, 30, 31], [31])])
def B3 : List Nat := [0, 1, 0, 7, 15, 31, 63, 63, 255, 511, 1023, 2047, 2047, 8191, 16383, 32767, 65535, 65535, 262143, 524287, 1048575, 2097151, 4194303, 8388607, 16777215, 16777215, 67108863, 134217727, 268435455, 536870911, 1073741823, 2147483647, 4294967295]
theorem tab3 : rtab .any (opsOf Tryd.f3 7) = T3 := by kernel_rfl
theorem bits3 : waitsOk T3.2 B3 = true := by kernel_rfl
theorem oeq_self (x : S25) : oeq x x = true := by simp [oeq]
theorem oeq_same (x : S25) (d : Nat) (W : World) : (Op.equalIn (d + 3) 25 (.agg (encO x).toArray) (.agg (encO x).toArray)).run Tryd.prog W = .ok true W := by
  rw [oeq_run, oeq_self]
attribute [local go_sem high] oeq_same
theorem errs_grown {w w1 : World} (h : Errs w) {g : Nat} (hg : w.grownBy w1 (some g)) (hk : ∀ k, some g = some k → 3 ≤ k) : Errs w1 := by
  obtain ⟨⟨e1, h1, h2⟩, e2, h3, h4⟩ := h
  have h3g := hk g rfl
  have keep : ∀ k, k < 3 → (hlt : k < w.heap.size) → w1.cell? ⟨k, 0, none⟩ = w.cell? ⟨k, 0, none⟩ := fun k hk3 hlt =>
    World.cell?_of_block (hg.block k hlt (fun e => by injection e with e; omega))
  exact ⟨⟨e1, (keep 1 (by omega) (Lib.lt_of_cell h1)).trans h1, h2⟩, e2, (keep 2 (by omega) (Lib.lt_of_cell h3)).trans h3, h4⟩
theorem pt_le (p : S25) : (pt p).size ≤ 1000 := by
  by_cases h : okN p
  · rw [pt_size h]
    have := (dec_facts p.f1.toNat (by have := h.1; have := h.2; omega)).2.1
    omega
  · rw [pt_out h]
    show (0 : Nat) ≤ 1000
    omega
set_option maxHeartbeats 16000000 in
set_option maxRecDepth 100000 in
theorem texts (p : S25) (hw : wfO p) (s : ByteArray) (w : World) (he : Errs w) : Calls Tryd.prog 3 #[.agg (encO p).toArray, .string s] w fun e w' => e = .returned (.bool true) ∧ Below w.heap.size w w' := by
  have HB0 := Aside0.mk (Below.refl w.heap.size w)
  have HE := Aside0.mk he
  have HWF := Aside0.mk hw
  have HW2 := Aside0.mk (show 3 ≤ w.heap.size by obtain ⟨_, e2, h3, _⟩ := he; exact Lib.lt_of_cell h3)
  clear he hw
  by_cases hs : s.size > 200
  · have q1 := eq_true (show 200 < (s.size : Int) by omega)
    have q2 := eq_true (show 200 < s.size by omega)
    clear hs
    go_enter Tryd.func3, Tryd.ntmps3
    go_wp2_with (first | ((with_reducible refine gate_dst (N := 2) rfl ?_); refine box_event ?hg2 (N := 2) ?hd2 (cs := (encO p).toArray) (t := 25) ?hr2 ?_; (case hd2 => rfl); (case hg2 => rfl); (case hr2 => first | (go_simp; done) | (go_simp; rfl)); intro g2 hg w1 hbox hb; have HB1 := Aside0.mk (below_step HB0.out hb); have S2 := Aside0.mk hbox; have HE1 := Aside0.mk (HE.out.below hb); clear hbox hb hg) | (go_at_call 7; refine (coraclelaw3_awake.calls true _ rfl).mono ?_; rintro e w2 ⟨rfl, hb⟩; have HB2 := Aside0.mk (below_step HB1.out hb); clear hb))
    go_ret
    exact ⟨rfl, HB2.out⟩
  have q1 := eq_false (show ¬ 200 < (s.size : Int) by omega)
  have q2 := eq_false (show ¬ 200 < s.size by omega)
  obtain ⟨x1, b1, hpp⟩ : ∃ x1 b1, pp s = (x1, b1) := ⟨_, _, rfl⟩
  obtain ⟨x3, b3, hpt⟩ : ∃ x3 b3, pp (pt p) = (x3, b3) := ⟨_, _, rfl⟩
  have HP8 : Aside0 (∀ w, Errs w → Calls Tryd.prog 8 #[.string s] w fun e w' => e = .returned (.tuple #[.agg (encO x1).toArray, .bool b1]) ∧ Below w.heap.size w w') := ⟨fun w he => by have h := pparse s (by omega) w he; rw [hpp] at h; exact h⟩
  have HP9 : Aside0 (∀ w, Calls Tryd.prog 9 #[.string s] w fun e w' => e = .returned (.tuple #[.agg (encO x1).toArray, .bool b1]) ∧ Below w.heap.size w w') := ⟨fun w => by have h := rpparse s w; rw [← pp_rp, hpp] at h; exact h⟩
  have HP8b : Aside0 (∀ w, Errs w → Calls Tryd.prog 8 #[.string (pt p)] w fun e w' => e = .returned (.tuple #[.agg (encO x3).toArray, .bool b3]) ∧ Below w.heap.size w w') := ⟨fun w he => by have h := pparse (pt p) (pt_le p) w he; rw [hpt] at h; exact h⟩
  have HPT := Aside0.mk hpt
  clear hs hpp hpt
  by_cases ho : okN p
  · obtain ⟨e3, eb⟩ : p = x3 ∧ true = b3 := by
      have h := HPT.out.symm.trans (pp_pt HWF.out ho)
      injection h with h1 h2
      exact ⟨h1.symm, h2.symm⟩
    subst e3 eb
    have n1 := eq_true ho.1
    have n2 := eq_true ho.2
    clear ho HPT
    go_enter Tryd.func3, Tryd.ntmps3
    go_wp2_with (first | ((with_reducible refine gate_dst (N := 2) rfl ?_); refine box_event ?hg2 (N := 2) ?hd2 (cs := (encO p).toArray) (t := 25) ?hr2 ?_; (case hd2 => rfl); (case hg2 => rfl); (case hr2 => first | (go_simp; done) | (go_simp; rfl)); intro g2 hg w1 hbox hb; have HB1 := Aside0.mk (below_step HB0.out hb); have S2 := Aside0.mk hbox; have HE1 := Aside0.mk (HE.out.below hb); clear hbox hb hg) | (go_at_call 8; refine (HP8.out _ HE1.out).mono ?_; rintro e w2 ⟨rfl, hb⟩; have HB2 := Aside0.mk (below_step HB1.out hb); have S2a := Aside0.mk (blk_below S2.out hb); have HE2 := Aside0.mk (HE1.out.below hb); clear hb HE1) | ((with_reducible refine gate_dst (N := 5) rfl ?_); refine box_event ?hg5 (N := 5) ?hd5 (cs := #[.int .u8 0, .int .u8 0, .int .u8 0, .int .u8 0, .int .u8 0, .int .u8 0, .int .u8 0, .int .u8 0, .int .u8 0, .int .u8 0, .int .u8 0, .int .u8 0, .int .u8 0, .int .u8 0, .int .u8 0, .int .u8 0, .int .u8 0, .int .u8 0, .int .u8 0, .int .u8 0, .int .u8 0, .int .u8 0, .int .u8 0, .int .u8 0, .int .u8 0, .int .u8 0, .int .u8 0, .int .u8 0, .int .u8 0, .int .u8 0, .int .u8 0, .int .u8 0, .int .i64 0]) (t := 25) ?hr5 ?_; (case hd5 => rfl); (case hg5 => rfl); (case hr5 => first | (go_simp; done) | (go_simp; rfl)); intro g5 hg w3 hbox hb; have HB3 := Aside0.mk (below_step HB2.out hb); have S2b := Aside0.mk (blk_below S2a.out hb); have Z5 := Aside0.mk hbox; have HE3 := Aside0.mk (HE2.out.below hb); have G5 := Aside0.mk (show w.heap.size ≤ g5 by rw [hg]; exact HB2.out.size); have N5 := Aside0.mk (show g2 ≠ g5 by rw [hg]; exact fun e => by have := blk_lt S2a.out; omega); clear hbox hb hg) | (refine Go.Proofs.YtmoecidfmgeafaaDoor.PutW.store_event rfl rfl 25 (.tmp 5) (.tmp 19) rfl (g := g5) (cells := (encO x1).toArray) rfl rfl Z5.out rfl (sz25 _) (one25 _) ?_; intro w4 hz hs6 hg; have S5c := Aside0.mk hz; have HB4 := Aside0.mk (pw_below_grown HB3.out (some g5) HB3.out.size hg (fun k e => by cases e; exact G5.out)); have S2c := Aside0.mk ((hg.block _ (blk_lt S2b.out) (fun e => N5.out (by injection e))).trans S2b.out); have HE4 := Aside0.mk (errs_grown HE3.out hg (fun k e => by cases e; exact Nat.le_trans HW2.out G5.out)); clear hz hs6 hg) | (go_at_call 9; refine (HP9.out _).mono ?_; rintro e w5 ⟨rfl, hb⟩; have HB5 := Aside0.mk (below_step HB4.out hb); have S2d := Aside0.mk (blk_below S2c.out hb); have S5d := Aside0.mk (blk_below S5c.out hb); have HE5 := Aside0.mk (HE4.out.below hb); clear hb) | ((with_reducible refine gate_dst (N := 7) rfl ?_); refine box_event ?hg7 (N := 7) ?hd7 (cs := #[.int .u8 0, .int .u8 0, .int .u8 0, .int .u8 0, .int .u8 0, .int .u8 0, .int .u8 0, .int .u8 0, .int .u8 0, .int .u8 0, .int .u8 0, .int .u8 0, .int .u8 0, .int .u8 0, .int .u8 0, .int .u8 0, .int .u8 0, .int .u8 0, .int .u8 0, .int .u8 0, .int .u8 0, .int .u8 0, .int .u8 0, .int .u8 0, .int .u8 0, .int .u8 0, .int .u8 0, .int .u8 0, .int .u8 0, .int .u8 0, .int .u8 0, .int .u8 0, .int .i64 0]) (t := 25) ?hr7 ?_; (case hd7 => rfl); (case hg7 => rfl); (case hr7 => first | (go_simp; done) | (go_simp; rfl)); intro g7 hg w6 hbox hb; have HB6 := Aside0.mk (below_step HB5.out hb); have S2e := Aside0.mk (blk_below S2d.out hb); have S5e := Aside0.mk (blk_below S5d.out hb); have Z7 := Aside0.mk hbox; have HE6 := Aside0.mk (HE5.out.below hb); have G7 := Aside0.mk (show w.heap.size ≤ g7 by rw [hg]; exact HB5.out.size); have N7 := Aside0.mk (show g2 ≠ g7 by rw [hg]; exact fun e => by have := blk_lt S2d.out; omega); have M7 := Aside0.mk (show g5 ≠ g7 by rw [hg]; exact fun e => by have := blk_lt S5d.out; omega); clear hbox hb hg) | (refine Go.Proofs.YtmoecidfmgeafaaDoor.PutW.store_event rfl rfl 25 (.tmp 7) (.tmp 24) rfl (g := g7) (cells := (encO x1).toArray) rfl rfl Z7.out rfl (sz25 _) (one25 _) ?_; intro w7 hz hs6 hg; have S7f := Aside0.mk hz; have HB7 := Aside0.mk (pw_below_grown HB6.out (some g7) HB6.out.size hg (fun k e => by cases e; exact G7.out)); have S2f := Aside0.mk ((hg.block _ (blk_lt S2e.out) (fun e => N7.out (by injection e))).trans S2e.out); have S5f := Aside0.mk ((hg.block _ (blk_lt S5e.out) (fun e => M7.out (by injection e))).trans S5e.out); have HE7 := Aside0.mk (errs_grown HE6.out hg (fun k e => by cases e; exact Nat.le_trans HW2.out G7.out)); have hl7 := row25 S2f.out; clear hz hs6 hg) | (go_at_call 10; refine (ptext10 p HWF.out _).mono ?_; rintro e w8 ⟨rfl, hb⟩; have HB8 := Aside0.mk (below_step HB7.out hb); have S2g := Aside0.mk (blk_below S2f.out hb); have S5g := Aside0.mk (blk_below S5f.out hb); have S7g := Aside0.mk (blk_below S7f.out hb); have HE8 := Aside0.mk (HE7.out.below hb); clear hb HE7) | (go_at_call 8; refine (HP8b.out _ HE8.out).mono ?_; rintro e w9 ⟨rfl, hb⟩; have HB9 := Aside0.mk (below_step HB8.out hb); have S2h := Aside0.mk (blk_below S2g.out hb); have S5h := Aside0.mk (blk_below S5g.out hb); have S7h := Aside0.mk (blk_below S7g.out hb); have HE9 := Aside0.mk (HE8.out.below hb); clear hb HE8) | ((with_reducible refine gate_dst (N := 9) rfl ?_); refine box_event ?hg9 (N := 9) ?hd9 (cs := #[.int .u8 0, .int .u8 0, .int .u8 0, .int .u8 0, .int .u8 0, .int .u8 0, .int .u8 0, .int .u8 0, .int .u8 0, .int .u8 0, .int .u8 0, .int .u8 0, .int .u8 0, .int .u8 0, .int .u8 0, .int .u8 0, .int .u8 0, .int .u8 0, .int .u8 0, .int .u8 0, .int .u8 0, .int .u8 0, .int .u8 0, .int .u8 0, .int .u8 0, .int .u8 0, .int .u8 0, .int .u8 0, .int .u8 0, .int .u8 0, .int .u8 0, .int .u8 0, .int .i64 0]) (t := 25) ?hr9 ?_; (case hd9 => rfl); (case hg9 => rfl); (case hr9 => first | (go_simp; done) | (go_simp; rfl)); intro g9 hg w10 hbox hb; have HB10 := Aside0.mk (below_step HB9.out hb); have S2i := Aside0.mk (blk_below S2h.out hb); have S5i := Aside0.mk (blk_below S5h.out hb); have S7i := Aside0.mk (blk_below S7h.out hb); have Z9 := Aside0.mk hbox; have HE10 := Aside0.mk (HE9.out.below hb); have G9 := Aside0.mk (show w.heap.size ≤ g9 by rw [hg]; exact HB9.out.size); have N9 := Aside0.mk (show g2 ≠ g9 by rw [hg]; exact fun e => by have := blk_lt S2h.out; omega); have M9 := Aside0.mk (show g5 ≠ g9 by rw [hg]; exact fun e => by have := blk_lt S5h.out; omega); have O9 := Aside0.mk (show g7 ≠ g9 by rw [hg]; exact fun e => by have := blk_lt S7h.out; omega); clear hbox hb hg) | (refine Go.Proofs.YtmoecidfmgeafaaDoor.PutW.store_event rfl rfl 25 (.tmp 9) (.tmp 30) rfl (g := g9) (cells := (encO p).toArray) rfl rfl Z9.out rfl (sz25 _) (one25 _) ?_; intro w11 hz hs6 hg; have S9j := Aside0.mk hz; have HB11 := Aside0.mk (pw_below_grown HB10.out (some g9) HB10.out.size hg (fun k e => by cases e; exact G9.out)); have S2j := Aside0.mk ((hg.block _ (blk_lt S2i.out) (fun e => N9.out (by injection e))).trans S2i.out); have S5j := Aside0.mk ((hg.block _ (blk_lt S5i.out) (fun e => M9.out (by injection e))).trans S5i.out); have S7j := Aside0.mk ((hg.block _ (blk_lt S7i.out) (fun e => O9.out (by injection e))).trans S7i.out); have HE11 := Aside0.mk (errs_grown HE10.out hg (fun k e => by cases e; exact Nat.le_trans HW2.out G9.out)); have hc32 : w11.cell? ⟨g2, 32, none⟩ = some (.int .i64 p.f1) := (blk_cell S2j.out 32).trans rfl; clear hz hs6 hg))
    have HS : Aside0 (w11.drew.heap[g2]? = some (.cells (encO p).toArray 25 (0, 0)) ∧ w11.drew.heap[g5]? = some (.cells (encO x1).toArray 25 (0, 0)) ∧ w11.drew.heap[g7]? = some (.cells (encO x1).toArray 25 (0, 0)) ∧ w11.drew.heap[g9]? = some (.cells (encO p).toArray 25 (0, 0))) := ⟨⟨blk_drew S2j.out, blk_drew S5j.out, blk_drew S7j.out, blk_drew S9j.out⟩⟩
    have HB := Aside0.mk (below_drew1 HB11.out)
    clear S2j S5j S7j S9j HB11
    refine start_ (n := 33) (S := fun w' => w'.heap[g2]? = some (.cells (encO p).toArray 25 (0, 0)) ∧ w'.heap[g5]? = some (.cells (encO x1).toArray 25 (0, 0)) ∧ w'.heap[g7]? = some (.cells (encO x1).toArray 25 (0, 0)) ∧ w'.heap[g9]? = some (.cells (encO p).toArray 25 (0, 0))) (ds := []) #[false, false, false, false, false, false, false, false, false, false, false, false, false, false, false, false, false, false, false, false, false, false, false, false, false, false, false, false, false, false, false, false, false] (by kernel_rfl) rfl rfl HS.out (fun hHeld => ?_)
    refine with_tabW tab3 bits3 (fun HT_ HW_ => ?_)
    generalize w11.drew = w20 at HS HB hHeld ⊢
    refine take_ (i := 0) (N := some 40) (v := ?_) (a' := ?_) #[true, false, false, false, false, false, false, false, false, false, false, false, false, false, false, false, false, false, false, false, false, false, false, false, false, false, false, false, false, false, false, false, false] rfl rfl (take_ofW HT_.out HW_.out (by kernel_rfl)) (fun _ _ _ h => h) (Or.inl ⟨by rfl, ?_⟩) hHeld ?_ ?_
    rotate_left
    · rintro w' ⟨s2, s5, s7, s9⟩
      have hl := row25 s2
      go_simp
      try with_reducible rfl
    rotate_left
    · simp only [Act.put, List.setIfInBounds_toArray, List.set_cons_zero, List.set_cons_succ, i64_w, i32_w]
      rfl
    refine take_ (i := 2) (N := some 42) (v := ?_) (a' := ?_) #[true, false, true, false, false, false, false, false, false, false, false, false, false, false, false, false, false, false, false, false, false, false, false, false, false, false, false, false, false, false, false, false, false] rfl rfl (take_ofW HT_.out HW_.out (by kernel_rfl)) (fun _ _ _ h => h) (Or.inl ⟨by rfl, ?_⟩) hHeld ?_ ?_
    rotate_left
    · rintro w' ⟨s2, s5, s7, s9⟩
      have hl := row25 s2
      go_simp
      try with_reducible rfl
    rotate_left
    · simp only [Act.put, List.setIfInBounds_toArray, List.set_cons_zero, List.set_cons_succ, i64_w, i32_w]
      rfl
    refine one_ (i := 1) (N := some 41) #[true, true, true, false, false, false, false, false, false, false, false, false, false, false, false, false, false, false, false, false, false, false, false, false, false, false, false, false, false, false, false, false, false] rfl rfl (one_of HT_.out (by kernel_rfl)) (by decide) (fun K hK => ?_)
    refine goes_ Tryd.func10 (by kernel_rfl) rfl #[(.agg (encO p).toArray)] (by rfl) rfl rfl (by (try simp only [List.map_toArray, List.map_cons, List.map_nil]); first | done | rfl) ?_
    refine (ptext10 p HWF.out _).mono ?_
    rintro e w21 ⟨rfl, hb⟩
    refine ⟨_, rfl, ?_⟩
    have HB2 := Aside0.mk (below_step HB.out hb)
    have hS : w21.heap[g2]? = some (.cells (encO p).toArray 25 (0, 0)) ∧ w21.heap[g5]? = some (.cells (encO x1).toArray 25 (0, 0)) ∧ w21.heap[g7]? = some (.cells (encO x1).toArray 25 (0, 0)) ∧ w21.heap[g9]? = some (.cells (encO p).toArray 25 (0, 0)) := ⟨blk_below HS.out.1 hb, blk_below HS.out.2.1 hb, blk_below HS.out.2.2.1 hb, blk_below HS.out.2.2.2 hb⟩
    clear HB HS hb
    have HB := HB2
    have HS := Aside0.mk hS
    clear HB2 hS
    refine hK.out _ _ HS.out (fun hHeld => ?_)
    clear hK K
    refine norm_ (a' := ?_) ?_ ?_
    rotate_left
    · show Act.put _ (some 41) _ = _
      simp only [Act.put, List.setIfInBounds_toArray, List.set_cons_zero, List.set_cons_succ, i64_w, i32_w]
      rfl
    refine one_ (i := 3) (N := some 43) #[true, true, true, true, false, false, false, false, false, false, false, false, false, false, false, false, false, false, false, false, false, false, false, false, false, false, false, false, false, false, false, false, false] rfl rfl (one_of HT_.out (by kernel_rfl)) (by decide) (fun K hK => ?_)
    refine goes_ Tryd.func11 (by kernel_rfl) rfl #[(.agg (encO p).toArray)] (by rfl) rfl rfl (by (try simp only [List.map_toArray, List.map_cons, List.map_nil]); first | done | rfl) ?_
    refine (ptext11 p HWF.out _).mono ?_
    rintro e w22 ⟨rfl, hb⟩
    refine ⟨_, rfl, ?_⟩
    have HB2 := Aside0.mk (below_step HB.out hb)
    have hS : w22.heap[g2]? = some (.cells (encO p).toArray 25 (0, 0)) ∧ w22.heap[g5]? = some (.cells (encO x1).toArray 25 (0, 0)) ∧ w22.heap[g7]? = some (.cells (encO x1).toArray 25 (0, 0)) ∧ w22.heap[g9]? = some (.cells (encO p).toArray 25 (0, 0)) := ⟨blk_below HS.out.1 hb, blk_below HS.out.2.1 hb, blk_below HS.out.2.2.1 hb, blk_below HS.out.2.2.2 hb⟩
    clear HB HS hb
    have HB := HB2
    have HS := Aside0.mk hS
    clear HB2 hS
    refine hK.out _ _ HS.out (fun hHeld => ?_)
    clear hK K
    refine norm_ (a' := ?_) ?_ ?_
    rotate_left
    · show Act.put _ (some 43) _ = _
      simp only [Act.put, List.setIfInBounds_toArray, List.set_cons_zero, List.set_cons_succ, i64_w, i32_w]
      rfl
    refine pure_ (i := 4) (N := some 44) (v := ?_) (a' := ?_) #[true, true, true, true, true, false, false, false, false, false, false, false, false, false, false, false, false, false, false, false, false, false, false, false, false, false, false, false, false, false, false, false, false] rfl rfl (any_of HT_.out (by kernel_rfl)) (fun _ _ _ h => h) (Or.inl ⟨by rfl, ?_⟩) ?_ ?_
    rotate_left
    · intro w'
      go_simp
      try with_reducible rfl
    rotate_left
    · simp only [Act.put, List.setIfInBounds_toArray, List.set_cons_zero, List.set_cons_succ, i64_w, i32_w]
      rfl
    refine pure_ (i := 5) (N := some 45) (v := ?_) (a' := ?_) #[true, true, true, true, true, true, false, false, false, false, false, false, false, false, false, false, false, false, false, false, false, false, false, false, false, false, false, false, false, false, false, false, false] rfl rfl (any_of HT_.out (by kernel_rfl)) (fun _ _ _ h => h) (Or.inl ⟨by rfl, ?_⟩) ?_ ?_
    rotate_left
    · intro w'
      go_simp
      try with_reducible rfl
    rotate_left
    · simp only [Act.put, List.setIfInBounds_toArray, List.set_cons_zero, List.set_cons_succ, i64_w, i32_w]
      rfl
    refine take_ (i := 6) (N := some 46) (v := ?_) (a' := ?_) #[true, true, true, true, true, true, true, false, false, false, false, false, false, false, false, false, false, false, false, false, false, false, false, false, false, false, false, false, false, false, false, false, false] rfl rfl (take_ofW HT_.out HW_.out (by kernel_rfl)) (fun _ _ _ h => h) (Or.inl ⟨by rfl, ?_⟩) hHeld ?_ ?_
    rotate_left
    · rintro w' ⟨s2, s5, s7, s9⟩
      have hl := row25 s5
      go_simp
      try with_reducible rfl
    rotate_left
    · simp only [Act.put, List.setIfInBounds_toArray, List.set_cons_zero, List.set_cons_succ, i64_w, i32_w]
      rfl
    refine take_ (i := 7) (N := some 47) (v := ?_) (a' := ?_) #[true, true, true, true, true, true, true, true, false, false, false, false, false, false, false, false, false, false, false, false, false, false, false, false, false, false, false, false, false, false, false, false, false] rfl rfl (take_ofW HT_.out HW_.out (by kernel_rfl)) (fun _ _ _ h => h) (Or.inl ⟨by rfl, ?_⟩) hHeld ?_ ?_
    rotate_left
    · rintro w' ⟨s2, s5, s7, s9⟩
      have hl := row25 s7
      go_simp
      try with_reducible rfl
    rotate_left
    · simp only [Act.put, List.setIfInBounds_toArray, List.set_cons_zero, List.set_cons_succ, i64_w, i32_w]
      rfl
    refine pure_ (i := 8) (N := some 48) (v := ?_) (a' := ?_) #[true, true, true, true, true, true, true, true, true, false, false, false, false, false, false, false, false, false, false, false, false, false, false, false, false, false, false, false, false, false, false, false, false] rfl rfl (any_of HT_.out (by kernel_rfl)) (fun _ _ _ h => h) (Or.inl ⟨by rfl, ?_⟩) ?_ ?_
    rotate_left
    · intro w'
      go_simp
      try with_reducible rfl
    rotate_left
    · simp only [Act.put, List.setIfInBounds_toArray, List.set_cons_zero, List.set_cons_succ, i64_w, i32_w]
      rfl
    refine pure_ (i := 9) (N := some 49) (v := ?_) (a' := ?_) #[true, true, true, true, true, true, true, true, true, true, false, false, false, false, false, false, false, false, false, false, false, false, false, false, false, false, false, false, false, false, false, false, false] rfl rfl (any_of HT_.out (by kernel_rfl)) (fun _ _ _ h => h) (Or.inl ⟨by rfl, ?_⟩) ?_ ?_
    rotate_left
    · intro w'
      go_simp
      try with_reducible rfl
    rotate_left
    · simp only [Act.put, List.setIfInBounds_toArray, List.set_cons_zero, List.set_cons_succ, i64_w, i32_w]
      rfl
    refine pure_ (i := 10) (N := some 50) (v := ?_) (a' := ?_) #[true, true, true, true, true, true, true, true, true, true, true, false, false, false, false, false, false, false, false, false, false, false, false, false, false, false, false, false, false, false, false, false, false] rfl rfl (any_of HT_.out (by kernel_rfl)) (fun _ _ _ h => h) (Or.inl ⟨by rfl, ?_⟩) ?_ ?_
    rotate_left
    · intro w'
      go_simp
      try with_reducible rfl
    rotate_left
    · simp only [Act.put, List.setIfInBounds_toArray, List.set_cons_zero, List.set_cons_succ, i64_w, i32_w]
      rfl
    refine pure_ (i := 11) (N := some 51) (v := ?_) (a' := ?_) #[true, true, true, true, true, true, true, true, true, true, true, true, false, false, false, false, false, false, false, false, false, false, false, false, false, false, false, false, false, false, false, false, false] rfl rfl (any_of HT_.out (by kernel_rfl)) (fun _ _ _ h => h) (Or.inl ⟨by rfl, ?_⟩) ?_ ?_
    rotate_left
    · intro w'
      go_simp
      try with_reducible rfl
    rotate_left
    · simp only [Act.put, List.setIfInBounds_toArray, List.set_cons_zero, List.set_cons_succ, i64_w, i32_w]
      rfl
    refine pure_ (i := 12) (N := some 52) (v := ?_) (a' := ?_) #[true, true, true, true, true, true, true, true, true, true, true, true, true, false, false, false, false, false, false, false, false, false, false, false, false, false, false, false, false, false, false, false, false] rfl rfl (any_of HT_.out (by kernel_rfl)) (fun _ _ _ h => h) (Or.inl ⟨by rfl, ?_⟩) ?_ ?_
    rotate_left
    · intro w'
      go_simp
      try with_reducible rfl
    rotate_left
    · simp only [Act.put, List.setIfInBounds_toArray, List.set_cons_zero, List.set_cons_succ, i64_w, i32_w]
      rfl
    refine pure_ (i := 13) (N := some 53) (v := ?_) (a' := ?_) #[true, true, true, true, true, true, true, true, true, true, true, true, true, true, false, false, false, false, false, false, false, false, false, false, false, false, false, false, false, false, false, false, false] rfl rfl (any_of HT_.out (by kernel_rfl)) (fun _ _ _ h => h) (Or.inl ⟨by rfl, ?_⟩) ?_ ?_
    rotate_left
    · intro w'
      go_simp
      try with_reducible rfl
    rotate_left
    · simp only [Act.put, List.setIfInBounds_toArray, List.set_cons_zero, List.set_cons_succ, i64_w, i32_w]
      rfl
    refine pure_ (i := 14) (N := some 54) (v := ?_) (a' := ?_) #[true, true, true, true, true, true, true, true, true, true, true, true, true, true, true, false, false, false, false, false, false, false, false, false, false, false, false, false, false, false, false, false, false] rfl rfl (any_of HT_.out (by kernel_rfl)) (fun _ _ _ h => h) (Or.inl ⟨by rfl, ?_⟩) ?_ ?_
    rotate_left
    · intro w'
      go_simp
      try with_reducible rfl
    rotate_left
    · simp only [Act.put, List.setIfInBounds_toArray, List.set_cons_zero, List.set_cons_succ, i64_w, i32_w]
      rfl
    refine pure_ (i := 15) (N := some 55) (v := ?_) (a' := ?_) #[true, true, true, true, true, true, true, true, true, true, true, true, true, true, true, true, false, false, false, false, false, false, false, false, false, false, false, false, false, false, false, false, false] rfl rfl (any_of HT_.out (by kernel_rfl)) (fun _ _ _ h => h) (Or.inl ⟨by rfl, ?_⟩) ?_ ?_
    rotate_left
    · intro w'
      go_simp
      try with_reducible rfl
    rotate_left
    · simp only [Act.put, List.setIfInBounds_toArray, List.set_cons_zero, List.set_cons_succ, i64_w, i32_w]
      rfl
    refine pure_ (i := 16) (N := some 56) (v := ?_) (a' := ?_) #[true, true, true, true, true, true, true, true, true, true, true, true, true, true, true, true, true, false, false, false, false, false, false, false, false, false, false, false, false, false, false, false, false] rfl rfl (any_of HT_.out (by kernel_rfl)) (fun _ _ _ h => h) (Or.inl ⟨by rfl, ?_⟩) ?_ ?_
    rotate_left
    · intro w'
      go_simp
      try with_reducible rfl
    rotate_left
    · simp only [Act.put, List.setIfInBounds_toArray, List.set_cons_zero, List.set_cons_succ, i64_w, i32_w]
      rfl
    refine pure_ (i := 17) (N := some 57) (v := ?_) (a' := ?_) #[true, true, true, true, true, true, true, true, true, true, true, true, true, true, true, true, true, true, false, false, false, false, false, false, false, false, false, false, false, false, false, false, false] rfl rfl (any_of HT_.out (by kernel_rfl)) (fun _ _ _ h => h) (Or.inl ⟨by rfl, ?_⟩) ?_ ?_
    rotate_left
    · intro w'
      go_simp
      try with_reducible rfl
    rotate_left
    · simp only [Act.put, List.setIfInBounds_toArray, List.set_cons_zero, List.set_cons_succ, i64_w, i32_w]
      rfl
    refine pure_ (i := 18) (N := some 58) (v := ?_) (a' := ?_) #[true, true, true, true, true, true, true, true, true, true, true, true, true, true, true, true, true, true, true, false, false, false, false, false, false, false, false, false, false, false, false, false, false] rfl rfl (any_of HT_.out (by kernel_rfl)) (fun _ _ _ h => h) (Or.inl ⟨by rfl, ?_⟩) ?_ ?_
    rotate_left
    · intro w'
      go_simp
      try with_reducible rfl
    rotate_left
    · simp only [Act.put, List.setIfInBounds_toArray, List.set_cons_zero, List.set_cons_succ, i64_w, i32_w]
      rfl
    refine pure_ (i := 19) (N := some 59) (v := ?_) (a' := ?_) #[true, true, true, true, true, true, true, true, true, true, true, true, true, true, true, true, true, true, true, true, false, false, false, false, false, false, false, false, false, false, false, false, false] rfl rfl (any_of HT_.out (by kernel_rfl)) (fun _ _ _ h => h) (Or.inl ⟨by rfl, ?_⟩) ?_ ?_
    rotate_left
    · intro w'
      go_simp
      try with_reducible rfl
    rotate_left
    · simp only [Act.put, List.setIfInBounds_toArray, List.set_cons_zero, List.set_cons_succ, i64_w, i32_w]
      rfl
    refine pure_ (i := 20) (N := some 60) (v := ?_) (a' := ?_) #[true, true, true, true, true, true, true, true, true, true, true, true, true, true, true, true, true, true, true, true, true, false, false, false, false, false, false, false, false, false, false, false, false] rfl rfl (any_of HT_.out (by kernel_rfl)) (fun _ _ _ h => h) (Or.inl ⟨by rfl, ?_⟩) ?_ ?_
    rotate_left
    · intro w'
      go_simp
      try with_reducible rfl
    rotate_left
    · simp only [Act.put, List.setIfInBounds_toArray, List.set_cons_zero, List.set_cons_succ, i64_w, i32_w]
      rfl
    refine pure_ (i := 21) (N := some 61) (v := ?_) (a' := ?_) #[true, true, true, true, true, true, true, true, true, true, true, true, true, true, true, true, true, true, true, true, true, true, false, false, false, false, false, false, false, false, false, false, false] rfl rfl (any_of HT_.out (by kernel_rfl)) (fun _ _ _ h => h) (Or.inl ⟨by rfl, ?_⟩) ?_ ?_
    rotate_left
    · intro w'
      go_simp
      try with_reducible rfl
    rotate_left
    · simp only [Act.put, List.setIfInBounds_toArray, List.set_cons_zero, List.set_cons_succ, i64_w, i32_w]
      rfl
    refine pure_ (i := 22) (N := some 62) (v := ?_) (a' := ?_) #[true, true, true, true, true, true, true, true, true, true, true, true, true, true, true, true, true, true, true, true, true, true, true, false, false, false, false, false, false, false, false, false, false] rfl rfl (any_of HT_.out (by kernel_rfl)) (fun _ _ _ h => h) (Or.inl ⟨by rfl, ?_⟩) ?_ ?_
    rotate_left
    · intro w'
      go_simp
      try with_reducible rfl
    rotate_left
    · simp only [Act.put, List.setIfInBounds_toArray, List.set_cons_zero, List.set_cons_succ, i64_w, i32_w]
      rfl
    refine pure_ (i := 23) (N := some 63) (v := ?_) (a' := ?_) #[true, true, true, true, true, true, true, true, true, true, true, true, true, true, true, true, true, true, true, true, true, true, true, true, false, false, false, false, false, false, false, false, false] rfl rfl (any_of HT_.out (by kernel_rfl)) (fun _ _ _ h => h) (Or.inl ⟨by rfl, ?_⟩) ?_ ?_
    rotate_left
    · intro w'
      go_simp
      try with_reducible rfl
    rotate_left
    · simp only [Act.put, List.setIfInBounds_toArray, List.set_cons_zero, List.set_cons_succ, i64_w, i32_w]
      rfl
    refine take_ (i := 24) (N := some 64) (v := ?_) (a' := ?_) #[true, true, true, true, true, true, true, true, true, true, true, true, true, true, true, true, true, true, true, true, true, true, true, true, true, false, false, false, false, false, false, false, false] rfl rfl (take_ofW HT_.out HW_.out (by kernel_rfl)) (fun _ _ _ h => h) (Or.inl ⟨by rfl, ?_⟩) hHeld ?_ ?_
    rotate_left
    · rintro w' ⟨s2, s5, s7, s9⟩
      have hl := row25 s9
      go_simp
      try with_reducible rfl
    rotate_left
    · simp only [Act.put, List.setIfInBounds_toArray, List.set_cons_zero, List.set_cons_succ, i64_w, i32_w]
      rfl
    refine take_ (i := 25) (N := some 65) (v := ?_) (a' := ?_) #[true, true, true, true, true, true, true, true, true, true, true, true, true, true, true, true, true, true, true, true, true, true, true, true, true, true, false, false, false, false, false, false, false] rfl rfl (take_ofW HT_.out HW_.out (by kernel_rfl)) (fun _ _ _ h => h) (Or.inl ⟨by rfl, ?_⟩) hHeld ?_ ?_
    rotate_left
    · rintro w' ⟨s2, s5, s7, s9⟩
      have hl := row25 s2
      go_simp
      try with_reducible rfl
    rotate_left
    · simp only [Act.put, List.setIfInBounds_toArray, List.set_cons_zero, List.set_cons_succ, i64_w, i32_w]
      rfl
    refine pure_ (i := 26) (N := some 66) (v := ?_) (a' := ?_) #[true, true, true, true, true, true, true, true, true, true, true, true, true, true, true, true, true, true, true, true, true, true, true, true, true, true, true, false, false, false, false, false, false] rfl rfl (any_of HT_.out (by kernel_rfl)) (fun _ _ _ h => h) (Or.inl ⟨by rfl, ?_⟩) ?_ ?_
    rotate_left
    · intro w'
      go_simp
      try with_reducible rfl
    rotate_left
    · simp only [Act.put, List.setIfInBounds_toArray, List.set_cons_zero, List.set_cons_succ, i64_w, i32_w]
      rfl
    refine pure_ (i := 27) (N := some 67) (v := ?_) (a' := ?_) #[true, true, true, true, true, true, true, true, true, true, true, true, true, true, true, true, true, true, true, true, true, true, true, true, true, true, true, true, false, false, false, false, false] rfl rfl (any_of HT_.out (by kernel_rfl)) (fun _ _ _ h => h) (Or.inl ⟨by rfl, ?_⟩) ?_ ?_
    rotate_left
    · intro w'
      go_simp
      try with_reducible rfl
    rotate_left
    · simp only [Act.put, List.setIfInBounds_toArray, List.set_cons_zero, List.set_cons_succ, i64_w, i32_w]
      rfl
    refine pure_ (i := 28) (N := some 68) (v := ?_) (a' := ?_) #[true, true, true, true, true, true, true, true, true, true, true, true, true, true, true, true, true, true, true, true, true, true, true, true, true, true, true, true, true, false, false, false, false] rfl rfl (any_of HT_.out (by kernel_rfl)) (fun _ _ _ h => h) (Or.inl ⟨by rfl, ?_⟩) ?_ ?_
    rotate_left
    · intro w'
      go_simp
      try with_reducible rfl
    rotate_left
    · simp only [Act.put, List.setIfInBounds_toArray, List.set_cons_zero, List.set_cons_succ, i64_w, i32_w]
      rfl
    refine pure_ (i := 29) (N := some 69) (v := ?_) (a' := ?_) #[true, true, true, true, true, true, true, true, true, true, true, true, true, true, true, true, true, true, true, true, true, true, true, true, true, true, true, true, true, true, false, false, false] rfl rfl (any_of HT_.out (by kernel_rfl)) (fun _ _ _ h => h) (Or.inl ⟨by rfl, ?_⟩) ?_ ?_
    rotate_left
    · intro w'
      go_simp
      try with_reducible rfl
    rotate_left
    · simp only [Act.put, List.setIfInBounds_toArray, List.set_cons_zero, List.set_cons_succ, i64_w, i32_w]
      rfl
    refine one_ (i := 30) (N := some 70) #[true, true, true, true, true, true, true, true, true, true, true, true, true, true, true, true, true, true, true, true, true, true, true, true, true, true, true, true, true, true, true, false, false] rfl rfl (one_of HT_.out (by kernel_rfl)) (by decide) (fun K hK => ?_)
    refine goes_ Tryd.func7 (by kernel_rfl) rfl #[] (by rfl) rfl rfl (by (try simp only [List.map_toArray, List.map_cons, List.map_nil]); first | done | rfl) ?_
    refine (coraclelaw3_awake.calls true _ rfl).mono ?_
    rintro e w23 ⟨rfl, hb⟩
    refine ⟨_, rfl, ?_⟩
    have HB2 := Aside0.mk (below_step HB.out hb)
    have hS : w23.heap[g2]? = some (.cells (encO p).toArray 25 (0, 0)) ∧ w23.heap[g5]? = some (.cells (encO x1).toArray 25 (0, 0)) ∧ w23.heap[g7]? = some (.cells (encO x1).toArray 25 (0, 0)) ∧ w23.heap[g9]? = some (.cells (encO p).toArray 25 (0, 0)) := ⟨blk_below HS.out.1 hb, blk_below HS.out.2.1 hb, blk_below HS.out.2.2.1 hb, blk_below HS.out.2.2.2 hb⟩
    clear HB HS hb
    have HB := HB2
    have HS := Aside0.mk hS
    clear HB2 hS
    refine hK.out _ _ HS.out (fun hHeld => ?_)
    clear hK K
    refine norm_ (a' := ?_) ?_ ?_
    rotate_left
    · show Act.put _ (some 70) _ = _
      simp only [Act.put, List.setIfInBounds_toArray, List.set_cons_zero, List.set_cons_succ, i64_w, i32_w]
      rfl
    refine pure_ (i := 31) (N := some 71) (v := ?_) (a' := ?_) #[true, true, true, true, true, true, true, true, true, true, true, true, true, true, true, true, true, true, true, true, true, true, true, true, true, true, true, true, true, true, true, true, false] rfl rfl (any_of HT_.out (by kernel_rfl)) (fun _ _ _ h => h) (Or.inl ⟨by rfl, ?_⟩) ?_ ?_
    rotate_left
    · intro w'
      go_simp
      try with_reducible rfl
    rotate_left
    · simp only [Act.put, List.setIfInBounds_toArray, List.set_cons_zero, List.set_cons_succ, i64_w, i32_w]
      rfl
    refine pure_ (i := 32) (N := some 4) (v := ?_) (a' := ?_) #[true, true, true, true, true, true, true, true, true, true, true, true, true, true, true, true, true, true, true, true, true, true, true, true, true, true, true, true, true, true, true, true, true] rfl rfl (any_of HT_.out (by kernel_rfl)) (fun _ _ _ h => h) (Or.inl ⟨by rfl, ?_⟩) ?_ ?_
    rotate_left
    · intro w'
      go_simp
      try with_reducible rfl
    rotate_left
    · simp only [Act.put, List.setIfInBounds_toArray, List.set_cons_zero, List.set_cons_succ, i64_w, i32_w]
      rfl
    refine done_ (done_of HT_.out (by kernel_rfl)) ?_
    try go_wp2
    go_ret
    exact ⟨rfl, HB.out⟩
  · have hpe : pp (pt p) = (z25, false) := by rw [pt_out ho, pp_empty]
    obtain ⟨e3, eb⟩ : z25 = x3 ∧ false = b3 := by
      have h := HPT.out.symm.trans hpe
      injection h with h1 h2
      exact ⟨h1.symm, h2.symm⟩
    subst e3 eb
    clear HPT hpe
    by_cases h0 : 0 ≤ p.f1
    · have n1 := eq_true h0
      have n2 := eq_false (show ¬ p.f1 ≤ 99 by unfold okN at ho; omega)
      clear h0 ho
      go_enter Tryd.func3, Tryd.ntmps3
      go_wp2_with (first | ((with_reducible refine gate_dst (N := 2) rfl ?_); refine box_event ?hg2 (N := 2) ?hd2 (cs := (encO p).toArray) (t := 25) ?hr2 ?_; (case hd2 => rfl); (case hg2 => rfl); (case hr2 => first | (go_simp; done) | (go_simp; rfl)); intro g2 hg w1 hbox hb; have HB1 := Aside0.mk (below_step HB0.out hb); have S2 := Aside0.mk hbox; have HE1 := Aside0.mk (HE.out.below hb); clear hbox hb hg) | (go_at_call 8; refine (HP8.out _ HE1.out).mono ?_; rintro e w2 ⟨rfl, hb⟩; have HB2 := Aside0.mk (below_step HB1.out hb); have S2a := Aside0.mk (blk_below S2.out hb); have HE2 := Aside0.mk (HE1.out.below hb); clear hb HE1) | ((with_reducible refine gate_dst (N := 5) rfl ?_); refine box_event ?hg5 (N := 5) ?hd5 (cs := #[.int .u8 0, .int .u8 0, .int .u8 0, .int .u8 0, .int .u8 0, .int .u8 0, .int .u8 0, .int .u8 0, .int .u8 0, .int .u8 0, .int .u8 0, .int .u8 0, .int .u8 0, .int .u8 0, .int .u8 0, .int .u8 0, .int .u8 0, .int .u8 0, .int .u8 0, .int .u8 0, .int .u8 0, .int .u8 0, .int .u8 0, .int .u8 0, .int .u8 0, .int .u8 0, .int .u8 0, .int .u8 0, .int .u8 0, .int .u8 0, .int .u8 0, .int .u8 0, .int .i64 0]) (t := 25) ?hr5 ?_; (case hd5 => rfl); (case hg5 => rfl); (case hr5 => first | (go_simp; done) | (go_simp; rfl)); intro g5 hg w3 hbox hb; have HB3 := Aside0.mk (below_step HB2.out hb); have S2b := Aside0.mk (blk_below S2a.out hb); have Z5 := Aside0.mk hbox; have HE3 := Aside0.mk (HE2.out.below hb); have G5 := Aside0.mk (show w.heap.size ≤ g5 by rw [hg]; exact HB2.out.size); have N5 := Aside0.mk (show g2 ≠ g5 by rw [hg]; exact fun e => by have := blk_lt S2a.out; omega); clear hbox hb hg) | (refine Go.Proofs.YtmoecidfmgeafaaDoor.PutW.store_event rfl rfl 25 (.tmp 5) (.tmp 19) rfl (g := g5) (cells := (encO x1).toArray) rfl rfl Z5.out rfl (sz25 _) (one25 _) ?_; intro w4 hz hs6 hg; have S5c := Aside0.mk hz; have HB4 := Aside0.mk (pw_below_grown HB3.out (some g5) HB3.out.size hg (fun k e => by cases e; exact G5.out)); have S2c := Aside0.mk ((hg.block _ (blk_lt S2b.out) (fun e => N5.out (by injection e))).trans S2b.out); have HE4 := Aside0.mk (errs_grown HE3.out hg (fun k e => by cases e; exact Nat.le_trans HW2.out G5.out)); clear hz hs6 hg) | (go_at_call 9; refine (HP9.out _).mono ?_; rintro e w5 ⟨rfl, hb⟩; have HB5 := Aside0.mk (below_step HB4.out hb); have S2d := Aside0.mk (blk_below S2c.out hb); have S5d := Aside0.mk (blk_below S5c.out hb); have HE5 := Aside0.mk (HE4.out.below hb); clear hb) | ((with_reducible refine gate_dst (N := 7) rfl ?_); refine box_event ?hg7 (N := 7) ?hd7 (cs := #[.int .u8 0, .int .u8 0, .int .u8 0, .int .u8 0, .int .u8 0, .int .u8 0, .int .u8 0, .int .u8 0, .int .u8 0, .int .u8 0, .int .u8 0, .int .u8 0, .int .u8 0, .int .u8 0, .int .u8 0, .int .u8 0, .int .u8 0, .int .u8 0, .int .u8 0, .int .u8 0, .int .u8 0, .int .u8 0, .int .u8 0, .int .u8 0, .int .u8 0, .int .u8 0, .int .u8 0, .int .u8 0, .int .u8 0, .int .u8 0, .int .u8 0, .int .u8 0, .int .i64 0]) (t := 25) ?hr7 ?_; (case hd7 => rfl); (case hg7 => rfl); (case hr7 => first | (go_simp; done) | (go_simp; rfl)); intro g7 hg w6 hbox hb; have HB6 := Aside0.mk (below_step HB5.out hb); have S2e := Aside0.mk (blk_below S2d.out hb); have S5e := Aside0.mk (blk_below S5d.out hb); have Z7 := Aside0.mk hbox; have HE6 := Aside0.mk (HE5.out.below hb); have G7 := Aside0.mk (show w.heap.size ≤ g7 by rw [hg]; exact HB5.out.size); have N7 := Aside0.mk (show g2 ≠ g7 by rw [hg]; exact fun e => by have := blk_lt S2d.out; omega); have M7 := Aside0.mk (show g5 ≠ g7 by rw [hg]; exact fun e => by have := blk_lt S5d.out; omega); clear hbox hb hg) | (refine Go.Proofs.YtmoecidfmgeafaaDoor.PutW.store_event rfl rfl 25 (.tmp 7) (.tmp 24) rfl (g := g7) (cells := (encO x1).toArray) rfl rfl Z7.out rfl (sz25 _) (one25 _) ?_; intro w7 hz hs6 hg; have S7f := Aside0.mk hz; have HB7 := Aside0.mk (pw_below_grown HB6.out (some g7) HB6.out.size hg (fun k e => by cases e; exact G7.out)); have S2f := Aside0.mk ((hg.block _ (blk_lt S2e.out) (fun e => N7.out (by injection e))).trans S2e.out); have S5f := Aside0.mk ((hg.block _ (blk_lt S5e.out) (fun e => M7.out (by injection e))).trans S5e.out); have HE7 := Aside0.mk (errs_grown HE6.out hg (fun k e => by cases e; exact Nat.le_trans HW2.out G7.out)); have hl7 := row25 S2f.out; clear hz hs6 hg) | (go_at_call 10; refine (ptext10 p HWF.out _).mono ?_; rintro e w8 ⟨rfl, hb⟩; have HB8 := Aside0.mk (below_step HB7.out hb); have S2g := Aside0.mk (blk_below S2f.out hb); have S5g := Aside0.mk (blk_below S5f.out hb); have S7g := Aside0.mk (blk_below S7f.out hb); have HE8 := Aside0.mk (HE7.out.below hb); clear hb HE7) | (go_at_call 8; refine (HP8b.out _ HE8.out).mono ?_; rintro e w9 ⟨rfl, hb⟩; have HB9 := Aside0.mk (below_step HB8.out hb); have S2h := Aside0.mk (blk_below S2g.out hb); have S5h := Aside0.mk (blk_below S5g.out hb); have S7h := Aside0.mk (blk_below S7g.out hb); have HE9 := Aside0.mk (HE8.out.below hb); clear hb HE8) | ((with_reducible refine gate_dst (N := 9) rfl ?_); refine box_event ?hg9 (N := 9) ?hd9 (cs := #[.int .u8 0, .int .u8 0, .int .u8 0, .int .u8 0, .int .u8 0, .int .u8 0, .int .u8 0, .int .u8 0, .int .u8 0, .int .u8 0, .int .u8 0, .int .u8 0, .int .u8 0, .int .u8 0, .int .u8 0, .int .u8 0, .int .u8 0, .int .u8 0, .int .u8 0, .int .u8 0, .int .u8 0, .int .u8 0, .int .u8 0, .int .u8 0, .int .u8 0, .int .u8 0, .int .u8 0, .int .u8 0, .int .u8 0, .int .u8 0, .int .u8 0, .int .u8 0, .int .i64 0]) (t := 25) ?hr9 ?_; (case hd9 => rfl); (case hg9 => rfl); (case hr9 => first | (go_simp; done) | (go_simp; rfl)); intro g9 hg w10 hbox hb; have HB10 := Aside0.mk (below_step HB9.out hb); have S2i := Aside0.mk (blk_below S2h.out hb); have S5i := Aside0.mk (blk_below S5h.out hb); have S7i := Aside0.mk (blk_below S7h.out hb); have Z9 := Aside0.mk hbox; have HE10 := Aside0.mk (HE9.out.below hb); have G9 := Aside0.mk (show w.heap.size ≤ g9 by rw [hg]; exact HB9.out.size); have N9 := Aside0.mk (show g2 ≠ g9 by rw [hg]; exact fun e => by have := blk_lt S2h.out; omega); have M9 := Aside0.mk (show g5 ≠ g9 by rw [hg]; exact fun e => by have := blk_lt S5h.out; omega); have O9 := Aside0.mk (show g7 ≠ g9 by rw [hg]; exact fun e => by have := blk_lt S7h.out; omega); clear hbox hb hg) | (refine Go.Proofs.YtmoecidfmgeafaaDoor.PutW.store_event rfl rfl 25 (.tmp 9) (.tmp 30) rfl (g := g9) (cells := (encO z25).toArray) rfl rfl Z9.out rfl (sz25 _) (one25 _) ?_; intro w11 hz hs6 hg; have S9j := Aside0.mk hz; have HB11 := Aside0.mk (pw_below_grown HB10.out (some g9) HB10.out.size hg (fun k e => by cases e; exact G9.out)); have S2j := Aside0.mk ((hg.block _ (blk_lt S2i.out) (fun e => N9.out (by injection e))).trans S2i.out); have S5j := Aside0.mk ((hg.block _ (blk_lt S5i.out) (fun e => M9.out (by injection e))).trans S5i.out); have S7j := Aside0.mk ((hg.block _ (blk_lt S7i.out) (fun e => O9.out (by injection e))).trans S7i.out); have HE11 := Aside0.mk (errs_grown HE10.out hg (fun k e => by cases e; exact Nat.le_trans HW2.out G9.out)); have hc32 : w11.cell? ⟨g2, 32, none⟩ = some (.int .i64 p.f1) := (blk_cell S2j.out 32).trans rfl; clear hz hs6 hg))
      have HS : Aside0 (w11.drew.heap[g2]? = some (.cells (encO p).toArray 25 (0, 0)) ∧ w11.drew.heap[g5]? = some (.cells (encO x1).toArray 25 (0, 0)) ∧ w11.drew.heap[g7]? = some (.cells (encO x1).toArray 25 (0, 0)) ∧ w11.drew.heap[g9]? = some (.cells (encO z25).toArray 25 (0, 0))) := ⟨⟨blk_drew S2j.out, blk_drew S5j.out, blk_drew S7j.out, blk_drew S9j.out⟩⟩
      have HB := Aside0.mk (below_drew1 HB11.out)
      clear S2j S5j S7j S9j HB11
      refine start_ (n := 33) (S := fun w' => w'.heap[g2]? = some (.cells (encO p).toArray 25 (0, 0)) ∧ w'.heap[g5]? = some (.cells (encO x1).toArray 25 (0, 0)) ∧ w'.heap[g7]? = some (.cells (encO x1).toArray 25 (0, 0)) ∧ w'.heap[g9]? = some (.cells (encO z25).toArray 25 (0, 0))) (ds := []) #[false, false, false, false, false, false, false, false, false, false, false, false, false, false, false, false, false, false, false, false, false, false, false, false, false, false, false, false, false, false, false, false, false] (by kernel_rfl) rfl rfl HS.out (fun hHeld => ?_)
      refine with_tabW tab3 bits3 (fun HT_ HW_ => ?_)
      generalize w11.drew = w20 at HS HB hHeld ⊢
      refine take_ (i := 0) (N := some 40) (v := ?_) (a' := ?_) #[true, false, false, false, false, false, false, false, false, false, false, false, false, false, false, false, false, false, false, false, false, false, false, false, false, false, false, false, false, false, false, false, false] rfl rfl (take_ofW HT_.out HW_.out (by kernel_rfl)) (fun _ _ _ h => h) (Or.inl ⟨by rfl, ?_⟩) hHeld ?_ ?_
      rotate_left
      · rintro w' ⟨s2, s5, s7, s9⟩
        have hl := row25 s2
        go_simp
        try with_reducible rfl
      rotate_left
      · simp only [Act.put, List.setIfInBounds_toArray, List.set_cons_zero, List.set_cons_succ, i64_w, i32_w]
        rfl
      refine take_ (i := 2) (N := some 42) (v := ?_) (a' := ?_) #[true, false, true, false, false, false, false, false, false, false, false, false, false, false, false, false, false, false, false, false, false, false, false, false, false, false, false, false, false, false, false, false, false] rfl rfl (take_ofW HT_.out HW_.out (by kernel_rfl)) (fun _ _ _ h => h) (Or.inl ⟨by rfl, ?_⟩) hHeld ?_ ?_
      rotate_left
      · rintro w' ⟨s2, s5, s7, s9⟩
        have hl := row25 s2
        go_simp
        try with_reducible rfl
      rotate_left
      · simp only [Act.put, List.setIfInBounds_toArray, List.set_cons_zero, List.set_cons_succ, i64_w, i32_w]
        rfl
      refine one_ (i := 1) (N := some 41) #[true, true, true, false, false, false, false, false, false, false, false, false, false, false, false, false, false, false, false, false, false, false, false, false, false, false, false, false, false, false, false, false, false] rfl rfl (one_of HT_.out (by kernel_rfl)) (by decide) (fun K hK => ?_)
      refine goes_ Tryd.func10 (by kernel_rfl) rfl #[(.agg (encO p).toArray)] (by rfl) rfl rfl (by (try simp only [List.map_toArray, List.map_cons, List.map_nil]); first | done | rfl) ?_
      refine (ptext10 p HWF.out _).mono ?_
      rintro e w21 ⟨rfl, hb⟩
      refine ⟨_, rfl, ?_⟩
      have HB2 := Aside0.mk (below_step HB.out hb)
      have hS : w21.heap[g2]? = some (.cells (encO p).toArray 25 (0, 0)) ∧ w21.heap[g5]? = some (.cells (encO x1).toArray 25 (0, 0)) ∧ w21.heap[g7]? = some (.cells (encO x1).toArray 25 (0, 0)) ∧ w21.heap[g9]? = some (.cells (encO z25).toArray 25 (0, 0)) := ⟨blk_below HS.out.1 hb, blk_below HS.out.2.1 hb, blk_below HS.out.2.2.1 hb, blk_below HS.out.2.2.2 hb⟩
      clear HB HS hb
      have HB := HB2
      have HS := Aside0.mk hS
      clear HB2 hS
      refine hK.out _ _ HS.out (fun hHeld => ?_)
      clear hK K
      refine norm_ (a' := ?_) ?_ ?_
      rotate_left
      · show Act.put _ (some 41) _ = _
        simp only [Act.put, List.setIfInBounds_toArray, List.set_cons_zero, List.set_cons_succ, i64_w, i32_w]
        rfl
      refine one_ (i := 3) (N := some 43) #[true, true, true, true, false, false, false, false, false, false, false, false, false, false, false, false, false, false, false, false, false, false, false, false, false, false, false, false, false, false, false, false, false] rfl rfl (one_of HT_.out (by kernel_rfl)) (by decide) (fun K hK => ?_)
      refine goes_ Tryd.func11 (by kernel_rfl) rfl #[(.agg (encO p).toArray)] (by rfl) rfl rfl (by (try simp only [List.map_toArray, List.map_cons, List.map_nil]); first | done | rfl) ?_
      refine (ptext11 p HWF.out _).mono ?_
      rintro e w22 ⟨rfl, hb⟩
      refine ⟨_, rfl, ?_⟩
      have HB2 := Aside0.mk (below_step HB.out hb)
      have hS : w22.heap[g2]? = some (.cells (encO p).toArray 25 (0, 0)) ∧ w22.heap[g5]? = some (.cells (encO x1).toArray 25 (0, 0)) ∧ w22.heap[g7]? = some (.cells (encO x1).toArray 25 (0, 0)) ∧ w22.heap[g9]? = some (.cells (encO z25).toArray 25 (0, 0)) := ⟨blk_below HS.out.1 hb, blk_below HS.out.2.1 hb, blk_below HS.out.2.2.1 hb, blk_below HS.out.2.2.2 hb⟩
      clear HB HS hb
      have HB := HB2
      have HS := Aside0.mk hS
      clear HB2 hS
      refine hK.out _ _ HS.out (fun hHeld => ?_)
      clear hK K
      refine norm_ (a' := ?_) ?_ ?_
      rotate_left
      · show Act.put _ (some 43) _ = _
        simp only [Act.put, List.setIfInBounds_toArray, List.set_cons_zero, List.set_cons_succ, i64_w, i32_w]
        rfl
      refine pure_ (i := 4) (N := some 44) (v := ?_) (a' := ?_) #[true, true, true, true, true, false, false, false, false, false, false, false, false, false, false, false, false, false, false, false, false, false, false, false, false, false, false, false, false, false, false, false, false] rfl rfl (any_of HT_.out (by kernel_rfl)) (fun _ _ _ h => h) (Or.inl ⟨by rfl, ?_⟩) ?_ ?_
      rotate_left
      · intro w'
        go_simp
        try with_reducible rfl
      rotate_left
      · simp only [Act.put, List.setIfInBounds_toArray, List.set_cons_zero, List.set_cons_succ, i64_w, i32_w]
        rfl
      refine pure_ (i := 5) (N := some 45) (v := ?_) (a' := ?_) #[true, true, true, true, true, true, false, false, false, false, false, false, false, false, false, false, false, false, false, false, false, false, false, false, false, false, false, false, false, false, false, false, false] rfl rfl (any_of HT_.out (by kernel_rfl)) (fun _ _ _ h => h) (Or.inl ⟨by rfl, ?_⟩) ?_ ?_
      rotate_left
      · intro w'
        go_simp
        try with_reducible rfl
      rotate_left
      · simp only [Act.put, List.setIfInBounds_toArray, List.set_cons_zero, List.set_cons_succ, i64_w, i32_w]
        rfl
      refine take_ (i := 6) (N := some 46) (v := ?_) (a' := ?_) #[true, true, true, true, true, true, true, false, false, false, false, false, false, false, false, false, false, false, false, false, false, false, false, false, false, false, false, false, false, false, false, false, false] rfl rfl (take_ofW HT_.out HW_.out (by kernel_rfl)) (fun _ _ _ h => h) (Or.inl ⟨by rfl, ?_⟩) hHeld ?_ ?_
      rotate_left
      · rintro w' ⟨s2, s5, s7, s9⟩
        have hl := row25 s5
        go_simp
        try with_reducible rfl
      rotate_left
      · simp only [Act.put, List.setIfInBounds_toArray, List.set_cons_zero, List.set_cons_succ, i64_w, i32_w]
        rfl
      refine take_ (i := 7) (N := some 47) (v := ?_) (a' := ?_) #[true, true, true, true, true, true, true, true, false, false, false, false, false, false, false, false, false, false, false, false, false, false, false, false, false, false, false, false, false, false, false, false, false] rfl rfl (take_ofW HT_.out HW_.out (by kernel_rfl)) (fun _ _ _ h => h) (Or.inl ⟨by rfl, ?_⟩) hHeld ?_ ?_
      rotate_left
      · rintro w' ⟨s2, s5, s7, s9⟩
        have hl := row25 s7
        go_simp
        try with_reducible rfl
      rotate_left
      · simp only [Act.put, List.setIfInBounds_toArray, List.set_cons_zero, List.set_cons_succ, i64_w, i32_w]
        rfl
      refine pure_ (i := 8) (N := some 48) (v := ?_) (a' := ?_) #[true, true, true, true, true, true, true, true, true, false, false, false, false, false, false, false, false, false, false, false, false, false, false, false, false, false, false, false, false, false, false, false, false] rfl rfl (any_of HT_.out (by kernel_rfl)) (fun _ _ _ h => h) (Or.inl ⟨by rfl, ?_⟩) ?_ ?_
      rotate_left
      · intro w'
        go_simp
        try with_reducible rfl
      rotate_left
      · simp only [Act.put, List.setIfInBounds_toArray, List.set_cons_zero, List.set_cons_succ, i64_w, i32_w]
        rfl
      refine pure_ (i := 9) (N := some 49) (v := ?_) (a' := ?_) #[true, true, true, true, true, true, true, true, true, true, false, false, false, false, false, false, false, false, false, false, false, false, false, false, false, false, false, false, false, false, false, false, false] rfl rfl (any_of HT_.out (by kernel_rfl)) (fun _ _ _ h => h) (Or.inl ⟨by rfl, ?_⟩) ?_ ?_
      rotate_left
      · intro w'
        go_simp
        try with_reducible rfl
      rotate_left
      · simp only [Act.put, List.setIfInBounds_toArray, List.set_cons_zero, List.set_cons_succ, i64_w, i32_w]
        rfl
      refine pure_ (i := 10) (N := some 50) (v := ?_) (a' := ?_) #[true, true, true, true, true, true, true, true, true, true, true, false, false, false, false, false, false, false, false, false, false, false, false, false, false, false, false, false, false, false, false, false, false] rfl rfl (any_of HT_.out (by kernel_rfl)) (fun _ _ _ h => h) (Or.inl ⟨by rfl, ?_⟩) ?_ ?_
      rotate_left
      · intro w'
        go_simp
        try with_reducible rfl
      rotate_left
      · simp only [Act.put, List.setIfInBounds_toArray, List.set_cons_zero, List.set_cons_succ, i64_w, i32_w]
        rfl
      refine pure_ (i := 11) (N := some 51) (v := ?_) (a' := ?_) #[true, true, true, true, true, true, true, true, true, true, true, true, false, false, false, false, false, false, false, false, false, false, false, false, false, false, false, false, false, false, false, false, false] rfl rfl (any_of HT_.out (by kernel_rfl)) (fun _ _ _ h => h) (Or.inl ⟨by rfl, ?_⟩) ?_ ?_
      rotate_left
      · intro w'
        go_simp
        try with_reducible rfl
      rotate_left
      · simp only [Act.put, List.setIfInBounds_toArray, List.set_cons_zero, List.set_cons_succ, i64_w, i32_w]
        rfl
      refine pure_ (i := 12) (N := some 52) (v := ?_) (a' := ?_) #[true, true, true, true, true, true, true, true, true, true, true, true, true, false, false, false, false, false, false, false, false, false, false, false, false, false, false, false, false, false, false, false, false] rfl rfl (any_of HT_.out (by kernel_rfl)) (fun _ _ _ h => h) (Or.inl ⟨by rfl, ?_⟩) ?_ ?_
      rotate_left
      · intro w'
        go_simp
        try with_reducible rfl
      rotate_left
      · simp only [Act.put, List.setIfInBounds_toArray, List.set_cons_zero, List.set_cons_succ, i64_w, i32_w]
        rfl
      refine pure_ (i := 13) (N := some 53) (v := ?_) (a' := ?_) #[true, true, true, true, true, true, true, true, true, true, true, true, true, true, false, false, false, false, false, false, false, false, false, false, false, false, false, false, false, false, false, false, false] rfl rfl (any_of HT_.out (by kernel_rfl)) (fun _ _ _ h => h) (Or.inl ⟨by rfl, ?_⟩) ?_ ?_
      rotate_left
      · intro w'
        go_simp
        try with_reducible rfl
      rotate_left
      · simp only [Act.put, List.setIfInBounds_toArray, List.set_cons_zero, List.set_cons_succ, i64_w, i32_w]
        rfl
      refine pure_ (i := 14) (N := some 54) (v := ?_) (a' := ?_) #[true, true, true, true, true, true, true, true, true, true, true, true, true, true, true, false, false, false, false, false, false, false, false, false, false, false, false, false, false, false, false, false, false] rfl rfl (any_of HT_.out (by kernel_rfl)) (fun _ _ _ h => h) (Or.inl ⟨by rfl, ?_⟩) ?_ ?_
      rotate_left
      · intro w'
        go_simp
        try with_reducible rfl
      rotate_left
      · simp only [Act.put, List.setIfInBounds_toArray, List.set_cons_zero, List.set_cons_succ, i64_w, i32_w]
        rfl
      refine pure_ (i := 15) (N := some 55) (v := ?_) (a' := ?_) #[true, true, true, true, true, true, true, true, true, true, true, true, true, true, true, true, false, false, false, false, false, false, false, false, false, false, false, false, false, false, false, false, false] rfl rfl (any_of HT_.out (by kernel_rfl)) (fun _ _ _ h => h) (Or.inl ⟨by rfl, ?_⟩) ?_ ?_
      rotate_left
      · intro w'
        go_simp
        try with_reducible rfl
      rotate_left
      · simp only [Act.put, List.setIfInBounds_toArray, List.set_cons_zero, List.set_cons_succ, i64_w, i32_w]
        rfl
      refine pure_ (i := 16) (N := some 56) (v := ?_) (a' := ?_) #[true, true, true, true, true, true, true, true, true, true, true, true, true, true, true, true, true, false, false, false, false, false, false, false, false, false, false, false, false, false, false, false, false] rfl rfl (any_of HT_.out (by kernel_rfl)) (fun _ _ _ h => h) (Or.inl ⟨by rfl, ?_⟩) ?_ ?_
      rotate_left
      · intro w'
        go_simp
        try with_reducible rfl
      rotate_left
      · simp only [Act.put, List.setIfInBounds_toArray, List.set_cons_zero, List.set_cons_succ, i64_w, i32_w]
        rfl
      refine pure_ (i := 17) (N := some 57) (v := ?_) (a' := ?_) #[true, true, true, true, true, true, true, true, true, true, true, true, true, true, true, true, true, true, false, false, false, false, false, false, false, false, false, false, false, false, false, false, false] rfl rfl (any_of HT_.out (by kernel_rfl)) (fun _ _ _ h => h) (Or.inl ⟨by rfl, ?_⟩) ?_ ?_
      rotate_left
      · intro w'
        go_simp
        try with_reducible rfl
      rotate_left
      · simp only [Act.put, List.setIfInBounds_toArray, List.set_cons_zero, List.set_cons_succ, i64_w, i32_w]
        rfl
      refine pure_ (i := 18) (N := some 58) (v := ?_) (a' := ?_) #[true, true, true, true, true, true, true, true, true, true, true, true, true, true, true, true, true, true, true, false, false, false, false, false, false, false, false, false, false, false, false, false, false] rfl rfl (any_of HT_.out (by kernel_rfl)) (fun _ _ _ h => h) (Or.inl ⟨by rfl, ?_⟩) ?_ ?_
      rotate_left
      · intro w'
        go_simp
        try with_reducible rfl
      rotate_left
      · simp only [Act.put, List.setIfInBounds_toArray, List.set_cons_zero, List.set_cons_succ, i64_w, i32_w]
        rfl
      refine pure_ (i := 19) (N := some 59) (v := ?_) (a' := ?_) #[true, true, true, true, true, true, true, true, true, true, true, true, true, true, true, true, true, true, true, true, false, false, false, false, false, false, false, false, false, false, false, false, false] rfl rfl (any_of HT_.out (by kernel_rfl)) (fun _ _ _ h => h) (Or.inl ⟨by rfl, ?_⟩) ?_ ?_
      rotate_left
      · intro w'
        go_simp
        try with_reducible rfl
      rotate_left
      · simp only [Act.put, List.setIfInBounds_toArray, List.set_cons_zero, List.set_cons_succ, i64_w, i32_w]
        rfl
      refine pure_ (i := 20) (N := some 60) (v := ?_) (a' := ?_) #[true, true, true, true, true, true, true, true, true, true, true, true, true, true, true, true, true, true, true, true, true, false, false, false, false, false, false, false, false, false, false, false, false] rfl rfl (any_of HT_.out (by kernel_rfl)) (fun _ _ _ h => h) (Or.inl ⟨by rfl, ?_⟩) ?_ ?_
      rotate_left
      · intro w'
        go_simp
        try with_reducible rfl
      rotate_left
      · simp only [Act.put, List.setIfInBounds_toArray, List.set_cons_zero, List.set_cons_succ, i64_w, i32_w]
        rfl
      refine pure_ (i := 21) (N := some 61) (v := ?_) (a' := ?_) #[true, true, true, true, true, true, true, true, true, true, true, true, true, true, true, true, true, true, true, true, true, true, false, false, false, false, false, false, false, false, false, false, false] rfl rfl (any_of HT_.out (by kernel_rfl)) (fun _ _ _ h => h) (Or.inl ⟨by rfl, ?_⟩) ?_ ?_
      rotate_left
      · intro w'
        go_simp
        try with_reducible rfl
      rotate_left
      · simp only [Act.put, List.setIfInBounds_toArray, List.set_cons_zero, List.set_cons_succ, i64_w, i32_w]
        rfl
      refine pure_ (i := 22) (N := some 62) (v := ?_) (a' := ?_) #[true, true, true, true, true, true, true, true, true, true, true, true, true, true, true, true, true, true, true, true, true, true, true, false, false, false, false, false, false, false, false, false, false] rfl rfl (any_of HT_.out (by kernel_rfl)) (fun _ _ _ h => h) (Or.inl ⟨by rfl, ?_⟩) ?_ ?_
      rotate_left
      · intro w'
        go_simp
        try with_reducible rfl
      rotate_left
      · simp only [Act.put, List.setIfInBounds_toArray, List.set_cons_zero, List.set_cons_succ, i64_w, i32_w]
        rfl
      refine pure_ (i := 23) (N := some 63) (v := ?_) (a' := ?_) #[true, true, true, true, true, true, true, true, true, true, true, true, true, true, true, true, true, true, true, true, true, true, true, true, false, false, false, false, false, false, false, false, false] rfl rfl (any_of HT_.out (by kernel_rfl)) (fun _ _ _ h => h) (Or.inl ⟨by rfl, ?_⟩) ?_ ?_
      rotate_left
      · intro w'
        go_simp
        try with_reducible rfl
      rotate_left
      · simp only [Act.put, List.setIfInBounds_toArray, List.set_cons_zero, List.set_cons_succ, i64_w, i32_w]
        rfl
      refine pure_ (i := 24) (N := some 64) (v := undef) (a' := ?_) #[true, true, true, true, true, true, true, true, true, true, true, true, true, true, true, true, true, true, true, true, true, true, true, true, true, false, false, false, false, false, false, false, false] rfl rfl (any_of HT_.out (by kernel_rfl)) (fun _ _ _ h => h) (Or.inr ⟨by rfl, rfl⟩) ?_ ?_
      rotate_left
      · simp only [Act.put, List.setIfInBounds_toArray, List.set_cons_zero, List.set_cons_succ, i64_w, i32_w]
        rfl
      refine pure_ (i := 25) (N := some 65) (v := undef) (a' := ?_) #[true, true, true, true, true, true, true, true, true, true, true, true, true, true, true, true, true, true, true, true, true, true, true, true, true, true, false, false, false, false, false, false, false] rfl rfl (any_of HT_.out (by kernel_rfl)) (fun _ _ _ h => h) (Or.inr ⟨by rfl, rfl⟩) ?_ ?_
      rotate_left
      · simp only [Act.put, List.setIfInBounds_toArray, List.set_cons_zero, List.set_cons_succ, i64_w, i32_w]
        rfl
      refine pure_ (i := 26) (N := some 66) (v := undef) (a' := ?_) #[true, true, true, true, true, true, true, true, true, true, true, true, true, true, true, true, true, true, true, true, true, true, true, true, true, true, true, false, false, false, false, false, false] rfl rfl (any_of HT_.out (by kernel_rfl)) (fun _ _ _ h => h) (Or.inr ⟨by rfl, rfl⟩) ?_ ?_
      rotate_left
      · simp only [Act.put, List.setIfInBounds_toArray, List.set_cons_zero, List.set_cons_succ, i64_w, i32_w]
        rfl
      refine pure_ (i := 27) (N := some 67) (v := ?_) (a' := ?_) #[true, true, true, true, true, true, true, true, true, true, true, true, true, true, true, true, true, true, true, true, true, true, true, true, true, true, true, true, false, false, false, false, false] rfl rfl (any_of HT_.out (by kernel_rfl)) (fun _ _ _ h => h) (Or.inl ⟨by rfl, ?_⟩) ?_ ?_
      rotate_left
      · intro w'
        go_simp
        try with_reducible rfl
      rotate_left
      · simp only [Act.put, List.setIfInBounds_toArray, List.set_cons_zero, List.set_cons_succ, i64_w, i32_w]
        rfl
      refine pure_ (i := 28) (N := some 68) (v := ?_) (a' := ?_) #[true, true, true, true, true, true, true, true, true, true, true, true, true, true, true, true, true, true, true, true, true, true, true, true, true, true, true, true, true, false, false, false, false] rfl rfl (any_of HT_.out (by kernel_rfl)) (fun _ _ _ h => h) (Or.inl ⟨by rfl, ?_⟩) ?_ ?_
      rotate_left
      · intro w'
        go_simp
        try with_reducible rfl
      rotate_left
      · simp only [Act.put, List.setIfInBounds_toArray, List.set_cons_zero, List.set_cons_succ, i64_w, i32_w]
        rfl
      refine pure_ (i := 29) (N := some 69) (v := ?_) (a' := ?_) #[true, true, true, true, true, true, true, true, true, true, true, true, true, true, true, true, true, true, true, true, true, true, true, true, true, true, true, true, true, true, false, false, false] rfl rfl (any_of HT_.out (by kernel_rfl)) (fun _ _ _ h => h) (Or.inl ⟨by rfl, ?_⟩) ?_ ?_
      rotate_left
      · intro w'
        go_simp
        try with_reducible rfl
      rotate_left
      · simp only [Act.put, List.setIfInBounds_toArray, List.set_cons_zero, List.set_cons_succ, i64_w, i32_w]
        rfl
      refine one_ (i := 30) (N := some 70) #[true, true, true, true, true, true, true, true, true, true, true, true, true, true, true, true, true, true, true, true, true, true, true, true, true, true, true, true, true, true, true, false, false] rfl rfl (one_of HT_.out (by kernel_rfl)) (by decide) (fun K hK => ?_)
      refine goes_ Tryd.func7 (by kernel_rfl) rfl #[] (by rfl) rfl rfl (by (try simp only [List.map_toArray, List.map_cons, List.map_nil]); first | done | rfl) ?_
      refine (coraclelaw3_awake.calls true _ rfl).mono ?_
      rintro e w23 ⟨rfl, hb⟩
      refine ⟨_, rfl, ?_⟩
      have HB2 := Aside0.mk (below_step HB.out hb)
      have hS : w23.heap[g2]? = some (.cells (encO p).toArray 25 (0, 0)) ∧ w23.heap[g5]? = some (.cells (encO x1).toArray 25 (0, 0)) ∧ w23.heap[g7]? = some (.cells (encO x1).toArray 25 (0, 0)) ∧ w23.heap[g9]? = some (.cells (encO z25).toArray 25 (0, 0)) := ⟨blk_below HS.out.1 hb, blk_below HS.out.2.1 hb, blk_below HS.out.2.2.1 hb, blk_below HS.out.2.2.2 hb⟩
      clear HB HS hb
      have HB := HB2
      have HS := Aside0.mk hS
      clear HB2 hS
      refine hK.out _ _ HS.out (fun hHeld => ?_)
      clear hK K
      refine norm_ (a' := ?_) ?_ ?_
      rotate_left
      · show Act.put _ (some 70) _ = _
        simp only [Act.put, List.setIfInBounds_toArray, List.set_cons_zero, List.set_cons_succ, i64_w, i32_w]
        rfl
      refine pure_ (i := 31) (N := some 71) (v := ?_) (a' := ?_) #[true, true, true, true, true, true, true, true, true, true, true, true, true, true, true, true, true, true, true, true, true, true, true, true, true, true, true, true, true, true, true, true, false] rfl rfl (any_of HT_.out (by kernel_rfl)) (fun _ _ _ h => h) (Or.inl ⟨by rfl, ?_⟩) ?_ ?_
      rotate_left
      · intro w'
        go_simp
        try with_reducible rfl
      rotate_left
      · simp only [Act.put, List.setIfInBounds_toArray, List.set_cons_zero, List.set_cons_succ, i64_w, i32_w]
        rfl
      refine pure_ (i := 32) (N := some 4) (v := ?_) (a' := ?_) #[true, true, true, true, true, true, true, true, true, true, true, true, true, true, true, true, true, true, true, true, true, true, true, true, true, true, true, true, true, true, true, true, true] rfl rfl (any_of HT_.out (by kernel_rfl)) (fun _ _ _ h => h) (Or.inl ⟨by rfl, ?_⟩) ?_ ?_
      rotate_left
      · intro w'
        go_simp
        try with_reducible rfl
      rotate_left
      · simp only [Act.put, List.setIfInBounds_toArray, List.set_cons_zero, List.set_cons_succ, i64_w, i32_w]
        rfl
      refine done_ (done_of HT_.out (by kernel_rfl)) ?_
      try go_wp2
      go_ret
      exact ⟨rfl, HB.out⟩
    · have n1 := eq_false h0
      clear h0 ho
      go_enter Tryd.func3, Tryd.ntmps3
      go_wp2_with (first | ((with_reducible refine gate_dst (N := 2) rfl ?_); refine box_event ?hg2 (N := 2) ?hd2 (cs := (encO p).toArray) (t := 25) ?hr2 ?_; (case hd2 => rfl); (case hg2 => rfl); (case hr2 => first | (go_simp; done) | (go_simp; rfl)); intro g2 hg w1 hbox hb; have HB1 := Aside0.mk (below_step HB0.out hb); have S2 := Aside0.mk hbox; have HE1 := Aside0.mk (HE.out.below hb); clear hbox hb hg) | (go_at_call 8; refine (HP8.out _ HE1.out).mono ?_; rintro e w2 ⟨rfl, hb⟩; have HB2 := Aside0.mk (below_step HB1.out hb); have S2a := Aside0.mk (blk_below S2.out hb); have HE2 := Aside0.mk (HE1.out.below hb); clear hb HE1) | ((with_reducible refine gate_dst (N := 5) rfl ?_); refine box_event ?hg5 (N := 5) ?hd5 (cs := #[.int .u8 0, .int .u8 0, .int .u8 0, .int .u8 0, .int .u8 0, .int .u8 0, .int .u8 0, .int .u8 0, .int .u8 0, .int .u8 0, .int .u8 0, .int .u8 0, .int .u8 0, .int .u8 0, .int .u8 0, .int .u8 0, .int .u8 0, .int .u8 0, .int .u8 0, .int .u8 0, .int .u8 0, .int .u8 0, .int .u8 0, .int .u8 0, .int .u8 0, .int .u8 0, .int .u8 0, .int .u8 0, .int .u8 0, .int .u8 0, .int .u8 0, .int .u8 0, .int .i64 0]) (t := 25) ?hr5 ?_; (case hd5 => rfl); (case hg5 => rfl); (case hr5 => first | (go_simp; done) | (go_simp; rfl)); intro g5 hg w3 hbox hb; have HB3 := Aside0.mk (below_step HB2.out hb); have S2b := Aside0.mk (blk_below S2a.out hb); have Z5 := Aside0.mk hbox; have HE3 := Aside0.mk (HE2.out.below hb); have G5 := Aside0.mk (show w.heap.size ≤ g5 by rw [hg]; exact HB2.out.size); have N5 := Aside0.mk (show g2 ≠ g5 by rw [hg]; exact fun e => by have := blk_lt S2a.out; omega); clear hbox hb hg) | (refine Go.Proofs.YtmoecidfmgeafaaDoor.PutW.store_event rfl rfl 25 (.tmp 5) (.tmp 19) rfl (g := g5) (cells := (encO x1).toArray) rfl rfl Z5.out rfl (sz25 _) (one25 _) ?_; intro w4 hz hs6 hg; have S5c := Aside0.mk hz; have HB4 := Aside0.mk (pw_below_grown HB3.out (some g5) HB3.out.size hg (fun k e => by cases e; exact G5.out)); have S2c := Aside0.mk ((hg.block _ (blk_lt S2b.out) (fun e => N5.out (by injection e))).trans S2b.out); have HE4 := Aside0.mk (errs_grown HE3.out hg (fun k e => by cases e; exact Nat.le_trans HW2.out G5.out)); clear hz hs6 hg) | (go_at_call 9; refine (HP9.out _).mono ?_; rintro e w5 ⟨rfl, hb⟩; have HB5 := Aside0.mk (below_step HB4.out hb); have S2d := Aside0.mk (blk_below S2c.out hb); have S5d := Aside0.mk (blk_below S5c.out hb); have HE5 := Aside0.mk (HE4.out.below hb); clear hb) | ((with_reducible refine gate_dst (N := 7) rfl ?_); refine box_event ?hg7 (N := 7) ?hd7 (cs := #[.int .u8 0, .int .u8 0, .int .u8 0, .int .u8 0, .int .u8 0, .int .u8 0, .int .u8 0, .int .u8 0, .int .u8 0, .int .u8 0, .int .u8 0, .int .u8 0, .int .u8 0, .int .u8 0, .int .u8 0, .int .u8 0, .int .u8 0, .int .u8 0, .int .u8 0, .int .u8 0, .int .u8 0, .int .u8 0, .int .u8 0, .int .u8 0, .int .u8 0, .int .u8 0, .int .u8 0, .int .u8 0, .int .u8 0, .int .u8 0, .int .u8 0, .int .u8 0, .int .i64 0]) (t := 25) ?hr7 ?_; (case hd7 => rfl); (case hg7 => rfl); (case hr7 => first | (go_simp; done) | (go_simp; rfl)); intro g7 hg w6 hbox hb; have HB6 := Aside0.mk (below_step HB5.out hb); have S2e := Aside0.mk (blk_below S2d.out hb); have S5e := Aside0.mk (blk_below S5d.out hb); have Z7 := Aside0.mk hbox; have HE6 := Aside0.mk (HE5.out.below hb); have G7 := Aside0.mk (show w.heap.size ≤ g7 by rw [hg]; exact HB5.out.size); have N7 := Aside0.mk (show g2 ≠ g7 by rw [hg]; exact fun e => by have := blk_lt S2d.out; omega); have M7 := Aside0.mk (show g5 ≠ g7 by rw [hg]; exact fun e => by have := blk_lt S5d.out; omega); clear hbox hb hg) | (refine Go.Proofs.YtmoecidfmgeafaaDoor.PutW.store_event rfl rfl 25 (.tmp 7) (.tmp 24) rfl (g := g7) (cells := (encO x1).toArray) rfl rfl Z7.out rfl (sz25 _) (one25 _) ?_; intro w7 hz hs6 hg; have S7f := Aside0.mk hz; have HB7 := Aside0.mk (pw_below_grown HB6.out (some g7) HB6.out.size hg (fun k e => by cases e; exact G7.out)); have S2f := Aside0.mk ((hg.block _ (blk_lt S2e.out) (fun e => N7.out (by injection e))).trans S2e.out); have S5f := Aside0.mk ((hg.block _ (blk_lt S5e.out) (fun e => M7.out (by injection e))).trans S5e.out); have HE7 := Aside0.mk (errs_grown HE6.out hg (fun k e => by cases e; exact Nat.le_trans HW2.out G7.out)); have hl7 := row25 S2f.out; clear hz hs6 hg) | (go_at_call 10; refine (ptext10 p HWF.out _).mono ?_; rintro e w8 ⟨rfl, hb⟩; have HB8 := Aside0.mk (below_step HB7.out hb); have S2g := Aside0.mk (blk_below S2f.out hb); have S5g := Aside0.mk (blk_below S5f.out hb); have S7g := Aside0.mk (blk_below S7f.out hb); have HE8 := Aside0.mk (HE7.out.below hb); clear hb HE7) | (go_at_call 8; refine (HP8b.out _ HE8.out).mono ?_; rintro e w9 ⟨rfl, hb⟩; have HB9 := Aside0.mk (below_step HB8.out hb); have S2h := Aside0.mk (blk_below S2g.out hb); have S5h := Aside0.mk (blk_below S5g.out hb); have S7h := Aside0.mk (blk_below S7g.out hb); have HE9 := Aside0.mk (HE8.out.below hb); clear hb HE8) | ((with_reducible refine gate_dst (N := 9) rfl ?_); refine box_event ?hg9 (N := 9) ?hd9 (cs := #[.int .u8 0, .int .u8 0, .int .u8 0, .int .u8 0, .int .u8 0, .int .u8 0, .int .u8 0, .int .u8 0, .int .u8 0, .int .u8 0, .int .u8 0, .int .u8 0, .int .u8 0, .int .u8 0, .int .u8 0, .int .u8 0, .int .u8 0, .int .u8 0, .int .u8 0, .int .u8 0, .int .u8 0, .int .u8 0, .int .u8 0, .int .u8 0, .int .u8 0, .int .u8 0, .int .u8 0, .int .u8 0, .int .u8 0, .int .u8 0, .int .u8 0, .int .u8 0, .int .i64 0]) (t := 25) ?hr9 ?_; (case hd9 => rfl); (case hg9 => rfl); (case hr9 => first | (go_simp; done) | (go_simp; rfl)); intro g9 hg w10 hbox hb; have HB10 := Aside0.mk (below_step HB9.out hb); have S2i := Aside0.mk (blk_below S2h.out hb); have S5i := Aside0.mk (blk_below S5h.out hb); have S7i := Aside0.mk (blk_below S7h.out hb); have Z9 := Aside0.mk hbox; have HE10 := Aside0.mk (HE9.out.below hb); have G9 := Aside0.mk (show w.heap.size ≤ g9 by rw [hg]; exact HB9.out.size); have N9 := Aside0.mk (show g2 ≠ g9 by rw [hg]; exact fun e => by have := blk_lt S2h.out; omega); have M9 := Aside0.mk (show g5 ≠ g9 by rw [hg]; exact fun e => by have := blk_lt S5h.out; omega); have O9 := Aside0.mk (show g7 ≠ g9 by rw [hg]; exact fun e => by have := blk_lt S7h.out; omega); clear hbox hb hg) | (refine Go.Proofs.YtmoecidfmgeafaaDoor.PutW.store_event rfl rfl 25 (.tmp 9) (.tmp 30) rfl (g := g9) (cells := (encO z25).toArray) rfl rfl Z9.out rfl (sz25 _) (one25 _) ?_; intro w11 hz hs6 hg; have S9j := Aside0.mk hz; have HB11 := Aside0.mk (pw_below_grown HB10.out (some g9) HB10.out.size hg (fun k e => by cases e; exact G9.out)); have S2j := Aside0.mk ((hg.block _ (blk_lt S2i.out) (fun e => N9.out (by injection e))).trans S2i.out); have S5j := Aside0.mk ((hg.block _ (blk_lt S5i.out) (fun e => M9.out (by injection e))).trans S5i.out); have S7j := Aside0.mk ((hg.block _ (blk_lt S7i.out) (fun e => O9.out (by injection e))).trans S7i.out); have HE11 := Aside0.mk (errs_grown HE10.out hg (fun k e => by cases e; exact Nat.le_trans HW2.out G9.out)); have hc32 : w11.cell? ⟨g2, 32, none⟩ = some (.int .i64 p.f1) := (blk_cell S2j.out 32).trans rfl; clear hz hs6 hg))
      have HS : Aside0 (w11.drew.heap[g2]? = some (.cells (encO p).toArray 25 (0, 0)) ∧ w11.drew.heap[g5]? = some (.cells (encO x1).toArray 25 (0, 0)) ∧ w11.drew.heap[g7]? = some (.cells (encO x1).toArray 25 (0, 0)) ∧ w11.drew.heap[g9]? = some (.cells (encO z25).toArray 25 (0, 0))) := ⟨⟨blk_drew S2j.out, blk_drew S5j.out, blk_drew S7j.out, blk_drew S9j.out⟩⟩
      have HB := Aside0.mk (below_drew1 HB11.out)
      clear S2j S5j S7j S9j HB11
      refine start_ (n := 33) (S := fun w' => w'.heap[g2]? = some (.cells (encO p).toArray 25 (0, 0)) ∧ w'.heap[g5]? = some (.cells (encO x1).toArray 25 (0, 0)) ∧ w'.heap[g7]? = some (.cells (encO x1).toArray 25 (0, 0)) ∧ w'.heap[g9]? = some (.cells (encO z25).toArray 25 (0, 0))) (ds := []) #[false, false, false, false, false, false, false, false, false, false, false, false, false, false, false, false, false, false, false, false, false, false, false, false, false, false, false, false, false, false, false, false, false] (by kernel_rfl) rfl rfl HS.out (fun hHeld => ?_)
      refine with_tabW tab3 bits3 (fun HT_ HW_ => ?_)
      generalize w11.drew = w20 at HS HB hHeld ⊢
      refine take_ (i := 0) (N := some 40) (v := ?_) (a' := ?_) #[true, false, false, false, false, false, false, false, false, false, false, false, false, false, false, false, false, false, false, false, false, false, false, false, false, false, false, false, false, false, false, false, false] rfl rfl (take_ofW HT_.out HW_.out (by kernel_rfl)) (fun _ _ _ h => h) (Or.inl ⟨by rfl, ?_⟩) hHeld ?_ ?_
      rotate_left
      · rintro w' ⟨s2, s5, s7, s9⟩
        have hl := row25 s2
        go_simp
        try with_reducible rfl
      rotate_left
      · simp only [Act.put, List.setIfInBounds_toArray, List.set_cons_zero, List.set_cons_succ, i64_w, i32_w]
        rfl
      refine take_ (i := 2) (N := some 42) (v := ?_) (a' := ?_) #[true, false, true, false, false, false, false, false, false, false, false, false, false, false, false, false, false, false, false, false, false, false, false, false, false, false, false, false, false, false, false, false, false] rfl rfl (take_ofW HT_.out HW_.out (by kernel_rfl)) (fun _ _ _ h => h) (Or.inl ⟨by rfl, ?_⟩) hHeld ?_ ?_
      rotate_left
      · rintro w' ⟨s2, s5, s7, s9⟩
        have hl := row25 s2
        go_simp
        try with_reducible rfl
      rotate_left
      · simp only [Act.put, List.setIfInBounds_toArray, List.set_cons_zero, List.set_cons_succ, i64_w, i32_w]
        rfl
      refine one_ (i := 1) (N := some 41) #[true, true, true, false, false, false, false, false, false, false, false, false, false, false, false, false, false, false, false, false, false, false, false, false, false, false, false, false, false, false, false, false, false] rfl rfl (one_of HT_.out (by kernel_rfl)) (by decide) (fun K hK => ?_)
      refine goes_ Tryd.func10 (by kernel_rfl) rfl #[(.agg (encO p).toArray)] (by rfl) rfl rfl (by (try simp only [List.map_toArray, List.map_cons, List.map_nil]); first | done | rfl) ?_
      refine (ptext10 p HWF.out _).mono ?_
      rintro e w21 ⟨rfl, hb⟩
      refine ⟨_, rfl, ?_⟩
      have HB2 := Aside0.mk (below_step HB.out hb)
      have hS : w21.heap[g2]? = some (.cells (encO p).toArray 25 (0, 0)) ∧ w21.heap[g5]? = some (.cells (encO x1).toArray 25 (0, 0)) ∧ w21.heap[g7]? = some (.cells (encO x1).toArray 25 (0, 0)) ∧ w21.heap[g9]? = some (.cells (encO z25).toArray 25 (0, 0)) := ⟨blk_below HS.out.1 hb, blk_below HS.out.2.1 hb, blk_below HS.out.2.2.1 hb, blk_below HS.out.2.2.2 hb⟩
      clear HB HS hb
      have HB := HB2
      have HS := Aside0.mk hS
      clear HB2 hS
      refine hK.out _ _ HS.out (fun hHeld => ?_)
      clear hK K
      refine norm_ (a' := ?_) ?_ ?_
      rotate_left
      · show Act.put _ (some 41) _ = _
        simp only [Act.put, List.setIfInBounds_toArray, List.set_cons_zero, List.set_cons_succ, i64_w, i32_w]
        rfl
      refine one_ (i := 3) (N := some 43) #[true, true, true, true, false, false, false, false, false, false, false, false, false, false, false, false, false, false, false, false, false, false, false, false, false, false, false, false, false, false, false, false, false] rfl rfl (one_of HT_.out (by kernel_rfl)) (by decide) (fun K hK => ?_)
      refine goes_ Tryd.func11 (by kernel_rfl) rfl #[(.agg (encO p).toArray)] (by rfl) rfl rfl (by (try simp only [List.map_toArray, List.map_cons, List.map_nil]); first | done | rfl) ?_
      refine (ptext11 p HWF.out _).mono ?_
      rintro e w22 ⟨rfl, hb⟩
      refine ⟨_, rfl, ?_⟩
      have HB2 := Aside0.mk (below_step HB.out hb)
      have hS : w22.heap[g2]? = some (.cells (encO p).toArray 25 (0, 0)) ∧ w22.heap[g5]? = some (.cells (encO x1).toArray 25 (0, 0)) ∧ w22.heap[g7]? = some (.cells (encO x1).toArray 25 (0, 0)) ∧ w22.heap[g9]? = some (.cells (encO z25).toArray 25 (0, 0)) := ⟨blk_below HS.out.1 hb, blk_below HS.out.2.1 hb, blk_below HS.out.2.2.1 hb, blk_below HS.out.2.2.2 hb⟩
      clear HB HS hb
      have HB := HB2
      have HS := Aside0.mk hS
      clear HB2 hS
      refine hK.out _ _ HS.out (fun hHeld => ?_)
      clear hK K
      refine norm_ (a' := ?_) ?_ ?_
      rotate_left
      · show Act.put _ (some 43) _ = _
        simp only [Act.put, List.setIfInBounds_toArray, List.set_cons_zero, List.set_cons_succ, i64_w, i32_w]
        rfl
      refine pure_ (i := 4) (N := some 44) (v := ?_) (a' := ?_) #[true, true, true, true, true, false, false, false, false, false, false, false, false, false, false, false, false, false, false, false, false, false, false, false, false, false, false, false, false, false, false, false, false] rfl rfl (any_of HT_.out (by kernel_rfl)) (fun _ _ _ h => h) (Or.inl ⟨by rfl, ?_⟩) ?_ ?_
      rotate_left
      · intro w'
        go_simp
        try with_reducible rfl
      rotate_left
      · simp only [Act.put, List.setIfInBounds_toArray, List.set_cons_zero, List.set_cons_succ, i64_w, i32_w]
        rfl
      refine pure_ (i := 5) (N := some 45) (v := ?_) (a' := ?_) #[true, true, true, true, true, true, false, false, false, false, false, false, false, false, false, false, false, false, false, false, false, false, false, false, false, false, false, false, false, false, false, false, false] rfl rfl (any_of HT_.out (by kernel_rfl)) (fun _ _ _ h => h) (Or.inl ⟨by rfl, ?_⟩) ?_ ?_
      rotate_left
      · intro w'
        go_simp
        try with_reducible rfl
      rotate_left
      · simp only [Act.put, List.setIfInBounds_toArray, List.set_cons_zero, List.set_cons_succ, i64_w, i32_w]
        rfl
      refine take_ (i := 6) (N := some 46) (v := ?_) (a' := ?_) #[true, true, true, true, true, true, true, false, false, false, false, false, false, false, false, false, false, false, false, false, false, false, false, false, false, false, false, false, false, false, false, false, false] rfl rfl (take_ofW HT_.out HW_.out (by kernel_rfl)) (fun _ _ _ h => h) (Or.inl ⟨by rfl, ?_⟩) hHeld ?_ ?_
      rotate_left
      · rintro w' ⟨s2, s5, s7, s9⟩
        have hl := row25 s5
        go_simp
        try with_reducible rfl
      rotate_left
      · simp only [Act.put, List.setIfInBounds_toArray, List.set_cons_zero, List.set_cons_succ, i64_w, i32_w]
        rfl
      refine take_ (i := 7) (N := some 47) (v := ?_) (a' := ?_) #[true, true, true, true, true, true, true, true, false, false, false, false, false, false, false, false, false, false, false, false, false, false, false, false, false, false, false, false, false, false, false, false, false] rfl rfl (take_ofW HT_.out HW_.out (by kernel_rfl)) (fun _ _ _ h => h) (Or.inl ⟨by rfl, ?_⟩) hHeld ?_ ?_
      rotate_left
      · rintro w' ⟨s2, s5, s7, s9⟩
        have hl := row25 s7
        go_simp
        try with_reducible rfl
      rotate_left
      · simp only [Act.put, List.setIfInBounds_toArray, List.set_cons_zero, List.set_cons_succ, i64_w, i32_w]
        rfl
      refine pure_ (i := 8) (N := some 48) (v := ?_) (a' := ?_) #[true, true, true, true, true, true, true, true, true, false, false, false, false, false, false, false, false, false, false, false, false, false, false, false, false, false, false, false, false, false, false, false, false] rfl rfl (any_of HT_.out (by kernel_rfl)) (fun _ _ _ h => h) (Or.inl ⟨by rfl, ?_⟩) ?_ ?_
      rotate_left
      · intro w'
        go_simp
        try with_reducible rfl
      rotate_left
      · simp only [Act.put, List.setIfInBounds_toArray, List.set_cons_zero, List.set_cons_succ, i64_w, i32_w]
        rfl
      refine pure_ (i := 9) (N := some 49) (v := ?_) (a' := ?_) #[true, true, true, true, true, true, true, true, true, true, false, false, false, false, false, false, false, false, false, false, false, false, false, false, false, false, false, false, false, false, false, false, false] rfl rfl (any_of HT_.out (by kernel_rfl)) (fun _ _ _ h => h) (Or.inl ⟨by rfl, ?_⟩) ?_ ?_
      rotate_left
      · intro w'
        go_simp
        try with_reducible rfl
      rotate_left
      · simp only [Act.put, List.setIfInBounds_toArray, List.set_cons_zero, List.set_cons_succ, i64_w, i32_w]
        rfl
      refine pure_ (i := 10) (N := some 50) (v := ?_) (a' := ?_) #[true, true, true, true, true, true, true, true, true, true, true, false, false, false, false, false, false, false, false, false, false, false, false, false, false, false, false, false, false, false, false, false, false] rfl rfl (any_of HT_.out (by kernel_rfl)) (fun _ _ _ h => h) (Or.inl ⟨by rfl, ?_⟩) ?_ ?_
      rotate_left
      · intro w'
        go_simp
        try with_reducible rfl
      rotate_left
      · simp only [Act.put, List.setIfInBounds_toArray, List.set_cons_zero, List.set_cons_succ, i64_w, i32_w]
        rfl
      refine pure_ (i := 11) (N := some 51) (v := ?_) (a' := ?_) #[true, true, true, true, true, true, true, true, true, true, true, true, false, false, false, false, false, false, false, false, false, false, false, false, false, false, false, false, false, false, false, false, false] rfl rfl (any_of HT_.out (by kernel_rfl)) (fun _ _ _ h => h) (Or.inl ⟨by rfl, ?_⟩) ?_ ?_
      rotate_left
      · intro w'
        go_simp
        try with_reducible rfl
      rotate_left
      · simp only [Act.put, List.setIfInBounds_toArray, List.set_cons_zero, List.set_cons_succ, i64_w, i32_w]
        rfl
      refine pure_ (i := 12) (N := some 52) (v := ?_) (a' := ?_) #[true, true, true, true, true, true, true, true, true, true, true, true, true, false, false, false, false, false, false, false, false, false, false, false, false, false, false, false, false, false, false, false, false] rfl rfl (any_of HT_.out (by kernel_rfl)) (fun _ _ _ h => h) (Or.inl ⟨by rfl, ?_⟩) ?_ ?_
      rotate_left
      · intro w'
        go_simp
        try with_reducible rfl
      rotate_left
      · simp only [Act.put, List.setIfInBounds_toArray, List.set_cons_zero, List.set_cons_succ, i64_w, i32_w]
        rfl
      refine pure_ (i := 13) (N := some 53) (v := ?_) (a' := ?_) #[true, true, true, true, true, true, true, true, true, true, true, true, true, true, false, false, false, false, false, false, false, false, false, false, false, false, false, false, false, false, false, false, false] rfl rfl (any_of HT_.out (by kernel_rfl)) (fun _ _ _ h => h) (Or.inl ⟨by rfl, ?_⟩) ?_ ?_
      rotate_left
      · intro w'
        go_simp
        try with_reducible rfl
      rotate_left
      · simp only [Act.put, List.setIfInBounds_toArray, List.set_cons_zero, List.set_cons_succ, i64_w, i32_w]
        rfl
      refine pure_ (i := 14) (N := some 54) (v := ?_) (a' := ?_) #[true, true, true, true, true, true, true, true, true, true, true, true, true, true, true, false, false, false, false, false, false, false, false, false, false, false, false, false, false, false, false, false, false] rfl rfl (any_of HT_.out (by kernel_rfl)) (fun _ _ _ h => h) (Or.inl ⟨by rfl, ?_⟩) ?_ ?_
      rotate_left
      · intro w'
        go_simp
        try with_reducible rfl
      rotate_left
      · simp only [Act.put, List.setIfInBounds_toArray, List.set_cons_zero, List.set_cons_succ, i64_w, i32_w]
        rfl
      refine pure_ (i := 15) (N := some 55) (v := ?_) (a' := ?_) #[true, true, true, true, true, true, true, true, true, true, true, true, true, true, true, true, false, false, false, false, false, false, false, false, false, false, false, false, false, false, false, false, false] rfl rfl (any_of HT_.out (by kernel_rfl)) (fun _ _ _ h => h) (Or.inl ⟨by rfl, ?_⟩) ?_ ?_
      rotate_left
      · intro w'
        go_simp
        try with_reducible rfl
      rotate_left
      · simp only [Act.put, List.setIfInBounds_toArray, List.set_cons_zero, List.set_cons_succ, i64_w, i32_w]
        rfl
      refine pure_ (i := 16) (N := some 56) (v := ?_) (a' := ?_) #[true, true, true, true, true, true, true, true, true, true, true, true, true, true, true, true, true, false, false, false, false, false, false, false, false, false, false, false, false, false, false, false, false] rfl rfl (any_of HT_.out (by kernel_rfl)) (fun _ _ _ h => h) (Or.inl ⟨by rfl, ?_⟩) ?_ ?_
      rotate_left
      · intro w'
        go_simp
        try with_reducible rfl
      rotate_left
      · simp only [Act.put, List.setIfInBounds_toArray, List.set_cons_zero, List.set_cons_succ, i64_w, i32_w]
        rfl
      refine pure_ (i := 17) (N := some 57) (v := ?_) (a' := ?_) #[true, true, true, true, true, true, true, true, true, true, true, true, true, true, true, true, true, true, false, false, false, false, false, false, false, false, false, false, false, false, false, false, false] rfl rfl (any_of HT_.out (by kernel_rfl)) (fun _ _ _ h => h) (Or.inl ⟨by rfl, ?_⟩) ?_ ?_
      rotate_left
      · intro w'
        go_simp
        try with_reducible rfl
      rotate_left
      · simp only [Act.put, List.setIfInBounds_toArray, List.set_cons_zero, List.set_cons_succ, i64_w, i32_w]
        rfl
      refine pure_ (i := 18) (N := some 58) (v := ?_) (a' := ?_) #[true, true, true, true, true, true, true, true, true, true, true, true, true, true, true, true, true, true, true, false, false, false, false, false, false, false, false, false, false, false, false, false, false] rfl rfl (any_of HT_.out (by kernel_rfl)) (fun _ _ _ h => h) (Or.inl ⟨by rfl, ?_⟩) ?_ ?_
      rotate_left
      · intro w'
        go_simp
        try with_reducible rfl
      rotate_left
      · simp only [Act.put, List.setIfInBounds_toArray, List.set_cons_zero, List.set_cons_succ, i64_w, i32_w]
        rfl
      refine pure_ (i := 19) (N := some 59) (v := ?_) (a' := ?_) #[true, true, true, true, true, true, true, true, true, true, true, true, true, true, true, true, true, true, true, true, false, false, false, false, false, false, false, false, false, false, false, false, false] rfl rfl (any_of HT_.out (by kernel_rfl)) (fun _ _ _ h => h) (Or.inl ⟨by rfl, ?_⟩) ?_ ?_
      rotate_left
      · intro w'
        go_simp
        try with_reducible rfl
      rotate_left
      · simp only [Act.put, List.setIfInBounds_toArray, List.set_cons_zero, List.set_cons_succ, i64_w, i32_w]
        rfl
      refine pure_ (i := 20) (N := some 60) (v := ?_) (a' := ?_) #[true, true, true, true, true, true, true, true, true, true, true, true, true, true, true, true, true, true, true, true, true, false, false, false, false, false, false, false, false, false, false, false, false] rfl rfl (any_of HT_.out (by kernel_rfl)) (fun _ _ _ h => h) (Or.inl ⟨by rfl, ?_⟩) ?_ ?_
      rotate_left
      · intro w'
        go_simp
        try with_reducible rfl
      rotate_left
      · simp only [Act.put, List.setIfInBounds_toArray, List.set_cons_zero, List.set_cons_succ, i64_w, i32_w]
        rfl
      refine pure_ (i := 21) (N := some 61) (v := ?_) (a' := ?_) #[true, true, true, true, true, true, true, true, true, true, true, true, true, true, true, true, true, true, true, true, true, true, false, false, false, false, false, false, false, false, false, false, false] rfl rfl (any_of HT_.out (by kernel_rfl)) (fun _ _ _ h => h) (Or.inl ⟨by rfl, ?_⟩) ?_ ?_
      rotate_left
      · intro w'
        go_simp
        try with_reducible rfl
      rotate_left
      · simp only [Act.put, List.setIfInBounds_toArray, List.set_cons_zero, List.set_cons_succ, i64_w, i32_w]
        rfl
      refine pure_ (i := 22) (N := some 62) (v := ?_) (a' := ?_) #[true, true, true, true, true, true, true, true, true, true, true, true, true, true, true, true, true, true, true, true, true, true, true, false, false, false, false, false, false, false, false, false, false] rfl rfl (any_of HT_.out (by kernel_rfl)) (fun _ _ _ h => h) (Or.inl ⟨by rfl, ?_⟩) ?_ ?_
      rotate_left
      · intro w'
        go_simp
        try with_reducible rfl
      rotate_left
      · simp only [Act.put, List.setIfInBounds_toArray, List.set_cons_zero, List.set_cons_succ, i64_w, i32_w]
        rfl
      refine pure_ (i := 23) (N := some 63) (v := ?_) (a' := ?_) #[true, true, true, true, true, true, true, true, true, true, true, true, true, true, true, true, true, true, true, true, true, true, true, true, false, false, false, false, false, false, false, false, false] rfl rfl (any_of HT_.out (by kernel_rfl)) (fun _ _ _ h => h) (Or.inl ⟨by rfl, ?_⟩) ?_ ?_
      rotate_left
      · intro w'
        go_simp
        try with_reducible rfl
      rotate_left
      · simp only [Act.put, List.setIfInBounds_toArray, List.set_cons_zero, List.set_cons_succ, i64_w, i32_w]
        rfl
      refine pure_ (i := 24) (N := some 64) (v := undef) (a' := ?_) #[true, true, true, true, true, true, true, true, true, true, true, true, true, true, true, true, true, true, true, true, true, true, true, true, true, false, false, false, false, false, false, false, false] rfl rfl (any_of HT_.out (by kernel_rfl)) (fun _ _ _ h => h) (Or.inr ⟨by rfl, rfl⟩) ?_ ?_
      rotate_left
      · simp only [Act.put, List.setIfInBounds_toArray, List.set_cons_zero, List.set_cons_succ, i64_w, i32_w]
        rfl
      refine pure_ (i := 25) (N := some 65) (v := undef) (a' := ?_) #[true, true, true, true, true, true, true, true, true, true, true, true, true, true, true, true, true, true, true, true, true, true, true, true, true, true, false, false, false, false, false, false, false] rfl rfl (any_of HT_.out (by kernel_rfl)) (fun _ _ _ h => h) (Or.inr ⟨by rfl, rfl⟩) ?_ ?_
      rotate_left
      · simp only [Act.put, List.setIfInBounds_toArray, List.set_cons_zero, List.set_cons_succ, i64_w, i32_w]
        rfl
      refine pure_ (i := 26) (N := some 66) (v := undef) (a' := ?_) #[true, true, true, true, true, true, true, true, true, true, true, true, true, true, true, true, true, true, true, true, true, true, true, true, true, true, true, false, false, false, false, false, false] rfl rfl (any_of HT_.out (by kernel_rfl)) (fun _ _ _ h => h) (Or.inr ⟨by rfl, rfl⟩) ?_ ?_
      rotate_left
      · simp only [Act.put, List.setIfInBounds_toArray, List.set_cons_zero, List.set_cons_succ, i64_w, i32_w]
        rfl
      refine pure_ (i := 27) (N := some 67) (v := ?_) (a' := ?_) #[true, true, true, true, true, true, true, true, true, true, true, true, true, true, true, true, true, true, true, true, true, true, true, true, true, true, true, true, false, false, false, false, false] rfl rfl (any_of HT_.out (by kernel_rfl)) (fun _ _ _ h => h) (Or.inl ⟨by rfl, ?_⟩) ?_ ?_
      rotate_left
      · intro w'
        go_simp
        try with_reducible rfl
      rotate_left
      · simp only [Act.put, List.setIfInBounds_toArray, List.set_cons_zero, List.set_cons_succ, i64_w, i32_w]
        rfl
      refine pure_ (i := 28) (N := some 68) (v := ?_) (a' := ?_) #[true, true, true, true, true, true, true, true, true, true, true, true, true, true, true, true, true, true, true, true, true, true, true, true, true, true, true, true, true, false, false, false, false] rfl rfl (any_of HT_.out (by kernel_rfl)) (fun _ _ _ h => h) (Or.inl ⟨by rfl, ?_⟩) ?_ ?_
      rotate_left
      · intro w'
        go_simp
        try with_reducible rfl
      rotate_left
      · simp only [Act.put, List.setIfInBounds_toArray, List.set_cons_zero, List.set_cons_succ, i64_w, i32_w]
        rfl
      refine pure_ (i := 29) (N := some 69) (v := ?_) (a' := ?_) #[true, true, true, true, true, true, true, true, true, true, true, true, true, true, true, true, true, true, true, true, true, true, true, true, true, true, true, true, true, true, false, false, false] rfl rfl (any_of HT_.out (by kernel_rfl)) (fun _ _ _ h => h) (Or.inl ⟨by rfl, ?_⟩) ?_ ?_
      rotate_left
      · intro w'
        go_simp
        try with_reducible rfl
      rotate_left
      · simp only [Act.put, List.setIfInBounds_toArray, List.set_cons_zero, List.set_cons_succ, i64_w, i32_w]
        rfl
      refine one_ (i := 30) (N := some 70) #[true, true, true, true, true, true, true, true, true, true, true, true, true, true, true, true, true, true, true, true, true, true, true, true, true, true, true, true, true, true, true, false, false] rfl rfl (one_of HT_.out (by kernel_rfl)) (by decide) (fun K hK => ?_)
      refine goes_ Tryd.func7 (by kernel_rfl) rfl #[] (by rfl) rfl rfl (by (try simp only [List.map_toArray, List.map_cons, List.map_nil]); first | done | rfl) ?_
      refine (coraclelaw3_awake.calls true _ rfl).mono ?_
      rintro e w23 ⟨rfl, hb⟩
      refine ⟨_, rfl, ?_⟩
      have HB2 := Aside0.mk (below_step HB.out hb)
      have hS : w23.heap[g2]? = some (.cells (encO p).toArray 25 (0, 0)) ∧ w23.heap[g5]? = some (.cells (encO x1).toArray 25 (0, 0)) ∧ w23.heap[g7]? = some (.cells (encO x1).toArray 25 (0, 0)) ∧ w23.heap[g9]? = some (.cells (encO z25).toArray 25 (0, 0)) := ⟨blk_below HS.out.1 hb, blk_below HS.out.2.1 hb, blk_below HS.out.2.2.1 hb, blk_below HS.out.2.2.2 hb⟩
      clear HB HS hb
      have HB := HB2
      have HS := Aside0.mk hS
      clear HB2 hS
      refine hK.out _ _ HS.out (fun hHeld => ?_)
      clear hK K
      refine norm_ (a' := ?_) ?_ ?_
      rotate_left
      · show Act.put _ (some 70) _ = _
        simp only [Act.put, List.setIfInBounds_toArray, List.set_cons_zero, List.set_cons_succ, i64_w, i32_w]
        rfl
      refine pure_ (i := 31) (N := some 71) (v := ?_) (a' := ?_) #[true, true, true, true, true, true, true, true, true, true, true, true, true, true, true, true, true, true, true, true, true, true, true, true, true, true, true, true, true, true, true, true, false] rfl rfl (any_of HT_.out (by kernel_rfl)) (fun _ _ _ h => h) (Or.inl ⟨by rfl, ?_⟩) ?_ ?_
      rotate_left
      · intro w'
        go_simp
        try with_reducible rfl
      rotate_left
      · simp only [Act.put, List.setIfInBounds_toArray, List.set_cons_zero, List.set_cons_succ, i64_w, i32_w]
        rfl
      refine pure_ (i := 32) (N := some 4) (v := ?_) (a' := ?_) #[true, true, true, true, true, true, true, true, true, true, true, true, true, true, true, true, true, true, true, true, true, true, true, true, true, true, true, true, true, true, true, true, true] rfl rfl (any_of HT_.out (by kernel_rfl)) (fun _ _ _ h => h) (Or.inl ⟨by rfl, ?_⟩) ?_ ?_
      rotate_left
      · intro w'
        go_simp
        try with_reducible rfl
      rotate_left
      · simp only [Act.put, List.setIfInBounds_toArray, List.set_cons_zero, List.set_cons_succ, i64_w, i32_w]
        rfl
      refine done_ (done_of HT_.out (by kernel_rfl)) ?_
      try go_wp2
      go_ret
      exact ⟨rfl, HB.out⟩
end Go.Proofs.YtmoecidfmgeafaaDoor.Txt
