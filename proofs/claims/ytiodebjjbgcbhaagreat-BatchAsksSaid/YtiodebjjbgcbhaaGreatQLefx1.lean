import Derived.Test.YtiodebjjbgcbhaaGreatQLefx0
namespace Go.Proofs.YtiodebjjbgcbhaaGreat.QLef
open Go.RowKit Go.Proofs YtiodebjjbgcbhaaGreatW.PrintWords YtiodebjjbgcbhaaGreatW.PrintLast YtiodebjjbgcbhaaGreatW.PrintMore YtiodebjjbgcbhaaGreat Hand
attribute [local go_sem] max2_int min2_int max_two min_two max_three min_three max_four min_four run_equalIn_c run_store_float run_store_complex run_fop run_feq run_fne run_flt run_fle run_fgt run_fge run_fint run_toi run_real' run_imag' run_complex' run_ceq run_cne run_cadd run_csub Wide.cellsAt_drewN Wide.cellsAt_drew Wide.lw32 Wide.lw33 Wide.lw37 Wide.lw38 Wide.lw39 Wide.lw44
attribute [local go_sem ↓ high] Wide.hv32 Wide.hv33 Wide.hv37 Wide.hv38 Wide.hv39 Wide.hv44
set_option linter.unusedVariables false
set_option linter.unusedSimpArgs false
def tx_within.f (a0 a1 a2 : Int) : Option (Bool) := if a0 ≥ a1 then (some (decide (a0 ≤ a2))) else (some false)
set_option maxHeartbeats 8000000 in
set_option maxRecDepth 100000 in
theorem tx_within.calls (a0 a1 a2 : Int) (r : Bool) (w : World) (h : tx_within.f a0 a1 a2 = some r) :
 Calls Tryz.prog 55 #[.int .i64 a0, .int .i64 a1, .int .i64 a2] w fun e w' => e = .returned (.bool r) ∧ Drawn0 w w' := by
 have H : (if a0 ≥ a1 then (some (decide (a0 ≤ a2))) else (some false)) = some r := h
 clear h
 by_cases c4 : a0 ≥ a1
 ·rw [if_pos c4] at H
  have c4b0 : decide (a1 ≤ a0) = true := decide_eq_true c4
  clear c4
  obtain rfl := Option.some.inj H
  go_enter Tryz.func55, Tryz.ntmps55
  go_wp2
  go_ret
  exact ⟨by first | rfl | (simp; done) | (simp [*]; done), by repeat (first | exact Drawn0.refl _ | apply Drawn0.step)⟩
 ·rw [if_neg c4] at H
  have c4b0 : decide (a1 ≤ a0) = false := decide_eq_false c4
  clear c4
  obtain rfl := Option.some.inj H
  go_enter Tryz.func55, Tryz.ntmps55
  go_wp2
  go_ret
  exact ⟨by first | rfl | (simp; done) | (simp [*]; done), by repeat (first | exact Drawn0.refl _ | apply Drawn0.step)⟩
def tx_Witness.f (a0_0 a0_1 : Int) (a0_2 : ByteArray) : Option (Bool) := (tx_within.f a0_0 1 4).bind fun t102 => (if t102 = true then ((tx_within.f a0_1 0 1073741824).bind fun t103 => (if t103 = true then (if (a0_2.size : Int) ≤ 64 then (if a0_0 = 2 then (some (a0_2.toList != ([] : List UInt8))) else (some (!(a0_2.toList != ([] : List UInt8))))) else (some false)) else (some false))) else (some false))
set_option maxHeartbeats 8000000 in
set_option maxRecDepth 100000 in
theorem tx_Witness.calls (a0_0 a0_1 : Int) (a0_2 : ByteArray) (r : Bool) (w : World) (h : tx_Witness.f a0_0 a0_1 a0_2 = some r) :
 Calls Tryz.prog 24 #[.agg #[.int .i64 a0_0, .int .i64 a0_1, .string a0_2]] w fun e w' => e = .returned (.bool r) ∧ Below w.heap.size w w' := by
 have hu34 := Tryz.underlying34
 have HB := Ak (Below.refl w.heap.size w)
 have H : ((tx_within.f a0_0 1 4).bind fun t102 => (if t102 = true then ((tx_within.f a0_1 0 1073741824).bind fun t103 => (if t103 = true then (if (a0_2.size : Int) ≤ 64 then (if a0_0 = 2 then (some (a0_2.toList != ([] : List UInt8))) else (some (!(a0_2.toList != ([] : List UInt8))))) else (some false)) else (some false))) else (some false))) = some r := h
 clear h
 replace H := Option.bind_eq_some_iff.mp H
 obtain ⟨t102, A20, H⟩ := H
 replace H : (if t102 = true then ((tx_within.f a0_1 0 1073741824).bind fun t103 => (if t103 = true then (if (a0_2.size : Int) ≤ 64 then (if a0_0 = 2 then (some (a0_2.toList != ([] : List UInt8))) else (some (!(a0_2.toList != ([] : List UInt8))))) else (some false)) else (some false))) else (some false)) = some r := H
 have A2 := Ak A20
 clear A20
 by_cases c3 : t102 = true
 ·subst c3
  have H1 : ((tx_within.f a0_1 0 1073741824).bind fun t103 => (if t103 = true then (if (a0_2.size : Int) ≤ 64 then (if a0_0 = 2 then (some (a0_2.toList != ([] : List UInt8))) else (some (!(a0_2.toList != ([] : List UInt8))))) else (some false)) else (some false))) = some r := by rw [if_pos rfl] at H; exact H
  clear H
  have H := H1
  clear H1
  replace H := Option.bind_eq_some_iff.mp H
  obtain ⟨t103, A40, H⟩ := H
  replace H : (if t103 = true then (if (a0_2.size : Int) ≤ 64 then (if a0_0 = 2 then (some (a0_2.toList != ([] : List UInt8))) else (some (!(a0_2.toList != ([] : List UInt8))))) else (some false)) else (some false)) = some r := H
  have A4 := Ak A40
  clear A40
  by_cases c5 : t103 = true
  ·subst c5
   have H1 : (if (a0_2.size : Int) ≤ 64 then (if a0_0 = 2 then (some (a0_2.toList != ([] : List UInt8))) else (some (!(a0_2.toList != ([] : List UInt8))))) else (some false)) = some r := by rw [if_pos rfl] at H; exact H
   clear H
   have H := H1
   clear H1
   by_cases c6 : (a0_2.size : Int) ≤ 64
   ·rw [if_pos c6] at H
    have c6b0 : decide ((a0_2.size : Int) ≤ 64) = true := decide_eq_true c6
    have c6b1 : decide (a0_2.size ≤ 64) = true := decide_eq_true (by omega)
    clear c6
    by_cases c7 : a0_0 = 2
    ·rw [if_pos c7] at H
     have c7b0 : (a0_0 == 2) = true := beq_iff_eq.mpr c7
     have c7b1 : (a0_0 != 2) = false := bne_eq_false_iff_eq.mpr c7
     clear c7
     obtain rfl := Option.some.inj H
     go_enter Tryz.func24, Tryz.ntmps24
     go_wp2_with (first | ((with_reducible refine gate_dst (N := 1) rfl ?_); (try (refine gate_guard (by rfl) ?_; dsimp only)); refine box_event ?hg (N := 1) ?hd (cs := #[.int .i64 a0_0, .int .i64 a0_1, .string a0_2]) (t := 34) ?hr ?_; (case hd => rfl); (case hg => rfl); (case hr => first | (go_simp; done) | (go_simp; rfl)); intro gb101 hg w8 hbox hb; have BK101 := Ak (hbox); have GW101 := Ak ((by rw [hg]; exact (below_size (by repeat (first | (with_reducible first | exact HB.1 | apply below_alloc | apply pw_below_drewN | apply below_drew1) | exact HB.1))) : w.heap.size ≤ gb101)); have GE101 := Ak ((by rw [hg]; exact (below_size (by repeat (first | (with_reducible first | exact HB.1 | apply below_alloc | apply pw_below_drewN | apply below_drew1) | exact HB.1))) : w.heap.size ≤ gb101)); replace HB := Ak (below_step (by repeat (first | (with_reducible first | exact HB.1 | apply below_alloc | apply pw_below_drewN | apply below_drew1) | exact HB.1)) hb); clear hb hbox hg; have hcz9_0 : w8.cell? ⟨gb101, 0, none⟩ = some (.int .i64 a0_0) := (blk_cell BK101.1 0).trans rfl; have hcz9_1 : w8.cell? ⟨gb101, 1, none⟩ = some (.int .i64 a0_1) := (blk_cell BK101.1 1).trans rfl; have hcz9_2 : w8.cell? ⟨gb101, 2, none⟩ = some (.string a0_2) := (blk_cell BK101.1 2).trans rfl; have hfz9_0 := blk_frozen BK101.1 0; have hfz9_1 := blk_frozen BK101.1 1; have hfz9_2 := blk_frozen BK101.1 2) | ((with_reducible refine gate_callee (f := 55) rfl ?_); refine goesL_ (some 9) rfl rfl Tryz.func55 (by kernel_rfl) rfl #[.int .i64 a0_0, .int .i64 1, .int .i64 4] rfl (by (try simp only [lm_, lc_, ln_]); first | done | rfl | (simp only [List.length_drop, List.length_take]; rfl)) ?_; (with_reducible refine (tx_within.calls a0_0 1 4 true _ A2.1).mono ?_); rintro e w' ⟨rfl, ⟨nd, rfl⟩⟩; refine ⟨_, rfl, ?_⟩) | (go_at_call 55; (with_reducible refine (tx_within.calls a0_1 0 1073741824 true _ A4.1).mono ?_); rintro e w' ⟨rfl, ⟨nd, rfl⟩⟩))
     go_ret
     exact ⟨by first | rfl | (simp [errW_none, errW_some] <;> rfl) | (simp [*, errW_none, errW_some] <;> rfl), by repeat (first | (with_reducible first | exact HB.1 | apply below_alloc | apply pw_below_drewN | apply below_drew1 | refine below_set ?_ GE101.1) | exact HB.1)⟩
    ·rw [if_neg c7] at H
     have c7b0 : (a0_0 == 2) = false := beq_eq_false_iff_ne.mpr c7
     have c7b1 : (a0_0 != 2) = true := bne_iff_ne.mpr c7
     obtain rfl := Option.some.inj H
     go_enter Tryz.func24, Tryz.ntmps24
     go_wp2_with (first | ((with_reducible refine gate_dst (N := 1) rfl ?_); (try (refine gate_guard (by rfl) ?_; dsimp only)); refine box_event ?hg (N := 1) ?hd (cs := #[.int .i64 a0_0, .int .i64 a0_1, .string a0_2]) (t := 34) ?hr ?_; (case hd => rfl); (case hg => rfl); (case hr => first | (go_simp; done) | (go_simp; rfl)); intro gb101 hg w10 hbox hb; have BK101 := Ak (hbox); have GW101 := Ak ((by rw [hg]; exact (below_size (by repeat (first | (with_reducible first | exact HB.1 | apply below_alloc | apply pw_below_drewN | apply below_drew1) | exact HB.1))) : w.heap.size ≤ gb101)); have GE101 := Ak ((by rw [hg]; exact (below_size (by repeat (first | (with_reducible first | exact HB.1 | apply below_alloc | apply pw_below_drewN | apply below_drew1) | exact HB.1))) : w.heap.size ≤ gb101)); replace HB := Ak (below_step (by repeat (first | (with_reducible first | exact HB.1 | apply below_alloc | apply pw_below_drewN | apply below_drew1) | exact HB.1)) hb); clear hb hbox hg; have hcz11_0 : w10.cell? ⟨gb101, 0, none⟩ = some (.int .i64 a0_0) := (blk_cell BK101.1 0).trans rfl; have hcz11_1 : w10.cell? ⟨gb101, 1, none⟩ = some (.int .i64 a0_1) := (blk_cell BK101.1 1).trans rfl; have hcz11_2 : w10.cell? ⟨gb101, 2, none⟩ = some (.string a0_2) := (blk_cell BK101.1 2).trans rfl; have hfz11_0 := blk_frozen BK101.1 0; have hfz11_1 := blk_frozen BK101.1 1; have hfz11_2 := blk_frozen BK101.1 2) | ((with_reducible refine gate_callee (f := 55) rfl ?_); refine goesL_ (some 9) rfl rfl Tryz.func55 (by kernel_rfl) rfl #[.int .i64 a0_0, .int .i64 1, .int .i64 4] rfl (by (try simp only [lm_, lc_, ln_]); first | done | rfl | (simp only [List.length_drop, List.length_take]; rfl)) ?_; (with_reducible refine (tx_within.calls a0_0 1 4 true _ A2.1).mono ?_); rintro e w' ⟨rfl, ⟨nd, rfl⟩⟩; refine ⟨_, rfl, ?_⟩) | (go_at_call 55; (with_reducible refine (tx_within.calls a0_1 0 1073741824 true _ A4.1).mono ?_); rintro e w' ⟨rfl, ⟨nd, rfl⟩⟩))
     go_ret
     exact ⟨by first | rfl | (simp [errW_none, errW_some] <;> rfl) | (simp [*, errW_none, errW_some] <;> rfl), by repeat (first | (with_reducible first | exact HB.1 | apply below_alloc | apply pw_below_drewN | apply below_drew1 | refine below_set ?_ GE101.1) | exact HB.1)⟩
   ·rw [if_neg c6] at H
    have c6b0 : decide ((a0_2.size : Int) ≤ 64) = false := decide_eq_false c6
    have c6b1 : decide (a0_2.size ≤ 64) = false := decide_eq_false (by omega)
    clear c6
    obtain rfl := Option.some.inj H
    go_enter Tryz.func24, Tryz.ntmps24
    go_wp2_with (first | ((with_reducible refine gate_dst (N := 1) rfl ?_); (try (refine gate_guard (by rfl) ?_; dsimp only)); refine box_event ?hg (N := 1) ?hd (cs := #[.int .i64 a0_0, .int .i64 a0_1, .string a0_2]) (t := 34) ?hr ?_; (case hd => rfl); (case hg => rfl); (case hr => first | (go_simp; done) | (go_simp; rfl)); intro gb101 hg w12 hbox hb; have BK101 := Ak (hbox); have GW101 := Ak ((by rw [hg]; exact (below_size (by repeat (first | (with_reducible first | exact HB.1 | apply below_alloc | apply pw_below_drewN | apply below_drew1) | exact HB.1))) : w.heap.size ≤ gb101)); have GE101 := Ak ((by rw [hg]; exact (below_size (by repeat (first | (with_reducible first | exact HB.1 | apply below_alloc | apply pw_below_drewN | apply below_drew1) | exact HB.1))) : w.heap.size ≤ gb101)); replace HB := Ak (below_step (by repeat (first | (with_reducible first | exact HB.1 | apply below_alloc | apply pw_below_drewN | apply below_drew1) | exact HB.1)) hb); clear hb hbox hg; have hcz13_0 : w12.cell? ⟨gb101, 0, none⟩ = some (.int .i64 a0_0) := (blk_cell BK101.1 0).trans rfl; have hcz13_1 : w12.cell? ⟨gb101, 1, none⟩ = some (.int .i64 a0_1) := (blk_cell BK101.1 1).trans rfl; have hcz13_2 : w12.cell? ⟨gb101, 2, none⟩ = some (.string a0_2) := (blk_cell BK101.1 2).trans rfl; have hfz13_0 := blk_frozen BK101.1 0; have hfz13_1 := blk_frozen BK101.1 1; have hfz13_2 := blk_frozen BK101.1 2) | ((with_reducible refine gate_callee (f := 55) rfl ?_); refine goesL_ (some 9) rfl rfl Tryz.func55 (by kernel_rfl) rfl #[.int .i64 a0_0, .int .i64 1, .int .i64 4] rfl (by (try simp only [lm_, lc_, ln_]); first | done | rfl | (simp only [List.length_drop, List.length_take]; rfl)) ?_; (with_reducible refine (tx_within.calls a0_0 1 4 true _ A2.1).mono ?_); rintro e w' ⟨rfl, ⟨nd, rfl⟩⟩; refine ⟨_, rfl, ?_⟩) | (go_at_call 55; (with_reducible refine (tx_within.calls a0_1 0 1073741824 true _ A4.1).mono ?_); rintro e w' ⟨rfl, ⟨nd, rfl⟩⟩))
    go_ret
    exact ⟨by first | rfl | (simp [errW_none, errW_some] <;> rfl) | (simp [*, errW_none, errW_some] <;> rfl), by repeat (first | (with_reducible first | exact HB.1 | apply below_alloc | apply pw_below_drewN | apply below_drew1 | refine below_set ?_ GE101.1) | exact HB.1)⟩
  ·replace c5 := Bool.eq_false_iff.mpr c5
   subst c5
   have H1 : (some false) = some r := by rw [if_neg (show ¬ (false = true) by decide)] at H; exact H
   clear H
   have H := H1
   clear H1
   obtain rfl := Option.some.inj H
   go_enter Tryz.func24, Tryz.ntmps24
   go_wp2_with (first | ((with_reducible refine gate_dst (N := 1) rfl ?_); (try (refine gate_guard (by rfl) ?_; dsimp only)); refine box_event ?hg (N := 1) ?hd (cs := #[.int .i64 a0_0, .int .i64 a0_1, .string a0_2]) (t := 34) ?hr ?_; (case hd => rfl); (case hg => rfl); (case hr => first | (go_simp; done) | (go_simp; rfl)); intro gb101 hg w14 hbox hb; have BK101 := Ak (hbox); have GW101 := Ak ((by rw [hg]; exact (below_size (by repeat (first | (with_reducible first | exact HB.1 | apply below_alloc | apply pw_below_drewN | apply below_drew1) | exact HB.1))) : w.heap.size ≤ gb101)); have GE101 := Ak ((by rw [hg]; exact (below_size (by repeat (first | (with_reducible first | exact HB.1 | apply below_alloc | apply pw_below_drewN | apply below_drew1) | exact HB.1))) : w.heap.size ≤ gb101)); replace HB := Ak (below_step (by repeat (first | (with_reducible first | exact HB.1 | apply below_alloc | apply pw_below_drewN | apply below_drew1) | exact HB.1)) hb); clear hb hbox hg; have hcz15_0 : w14.cell? ⟨gb101, 0, none⟩ = some (.int .i64 a0_0) := (blk_cell BK101.1 0).trans rfl; have hcz15_1 : w14.cell? ⟨gb101, 1, none⟩ = some (.int .i64 a0_1) := (blk_cell BK101.1 1).trans rfl; have hcz15_2 : w14.cell? ⟨gb101, 2, none⟩ = some (.string a0_2) := (blk_cell BK101.1 2).trans rfl; have hfz15_0 := blk_frozen BK101.1 0; have hfz15_1 := blk_frozen BK101.1 1; have hfz15_2 := blk_frozen BK101.1 2) | ((with_reducible refine gate_callee (f := 55) rfl ?_); refine goesL_ (some 9) rfl rfl Tryz.func55 (by kernel_rfl) rfl #[.int .i64 a0_0, .int .i64 1, .int .i64 4] rfl (by (try simp only [lm_, lc_, ln_]); first | done | rfl | (simp only [List.length_drop, List.length_take]; rfl)) ?_; (with_reducible refine (tx_within.calls a0_0 1 4 true _ A2.1).mono ?_); rintro e w' ⟨rfl, ⟨nd, rfl⟩⟩; refine ⟨_, rfl, ?_⟩) | (go_at_call 55; (with_reducible refine (tx_within.calls a0_1 0 1073741824 false _ A4.1).mono ?_); rintro e w' ⟨rfl, ⟨nd, rfl⟩⟩))
   go_ret
   exact ⟨by first | rfl | (simp [errW_none, errW_some] <;> rfl) | (simp [*, errW_none, errW_some] <;> rfl), by repeat (first | (with_reducible first | exact HB.1 | apply below_alloc | apply pw_below_drewN | apply below_drew1 | refine below_set ?_ GE101.1) | exact HB.1)⟩
 ·replace c3 := Bool.eq_false_iff.mpr c3
  subst c3
  have H1 : (some false) = some r := by rw [if_neg (show ¬ (false = true) by decide)] at H; exact H
  clear H
  have H := H1
  clear H1
  obtain rfl := Option.some.inj H
  go_enter Tryz.func24, Tryz.ntmps24
  go_wp2_with (first | ((with_reducible refine gate_dst (N := 1) rfl ?_); (try (refine gate_guard (by rfl) ?_; dsimp only)); refine box_event ?hg (N := 1) ?hd (cs := #[.int .i64 a0_0, .int .i64 a0_1, .string a0_2]) (t := 34) ?hr ?_; (case hd => rfl); (case hg => rfl); (case hr => first | (go_simp; done) | (go_simp; rfl)); intro gb101 hg w16 hbox hb; have BK101 := Ak (hbox); have GW101 := Ak ((by rw [hg]; exact (below_size (by repeat (first | (with_reducible first | exact HB.1 | apply below_alloc | apply pw_below_drewN | apply below_drew1) | exact HB.1))) : w.heap.size ≤ gb101)); have GE101 := Ak ((by rw [hg]; exact (below_size (by repeat (first | (with_reducible first | exact HB.1 | apply below_alloc | apply pw_below_drewN | apply below_drew1) | exact HB.1))) : w.heap.size ≤ gb101)); replace HB := Ak (below_step (by repeat (first | (with_reducible first | exact HB.1 | apply below_alloc | apply pw_below_drewN | apply below_drew1) | exact HB.1)) hb); clear hb hbox hg; have hcz17_0 : w16.cell? ⟨gb101, 0, none⟩ = some (.int .i64 a0_0) := (blk_cell BK101.1 0).trans rfl; have hcz17_1 : w16.cell? ⟨gb101, 1, none⟩ = some (.int .i64 a0_1) := (blk_cell BK101.1 1).trans rfl; have hcz17_2 : w16.cell? ⟨gb101, 2, none⟩ = some (.string a0_2) := (blk_cell BK101.1 2).trans rfl; have hfz17_0 := blk_frozen BK101.1 0; have hfz17_1 := blk_frozen BK101.1 1; have hfz17_2 := blk_frozen BK101.1 2) | ((with_reducible refine gate_callee (f := 55) rfl ?_); refine goesL_ (some 9) rfl rfl Tryz.func55 (by kernel_rfl) rfl #[.int .i64 a0_0, .int .i64 1, .int .i64 4] rfl (by (try simp only [lm_, lc_, ln_]); first | done | rfl | (simp only [List.length_drop, List.length_take]; rfl)) ?_; (with_reducible refine (tx_within.calls a0_0 1 4 false _ A2.1).mono ?_); rintro e w' ⟨rfl, ⟨nd, rfl⟩⟩; refine ⟨_, rfl, ?_⟩))
  go_ret
  exact ⟨by first | rfl | (simp [errW_none, errW_some] <;> rfl) | (simp [*, errW_none, errW_some] <;> rfl), by repeat (first | (with_reducible first | exact HB.1 | apply below_alloc | apply pw_below_drewN | apply below_drew1 | refine below_set ?_ GE101.1) | exact HB.1)⟩
def tx_Wit.f (a0 : Int) : Option (Int) := if a0 = 1 then (some 74) else (if a0 = 2 then (some 107) else (if a0 = 3 then (some 76) else (if a0 = 4 then (some 1) else (some 0))))
set_option maxHeartbeats 8000000 in
set_option maxRecDepth 100000 in
theorem tx_Wit.calls (a0 r : Int) (w : World) (h : tx_Wit.f a0 = some r) :
 Calls Tryz.prog 66 #[.int .i64 a0] w fun e w' => e = .returned (.int .i64 r) ∧ Drawn0 w w' := by
 have H : (if a0 = 1 then (some 74) else (if a0 = 2 then (some 107) else (if a0 = 3 then (some 76) else (if a0 = 4 then (some 1) else (some 0))))) = some r := h
 clear h
 by_cases c2 : a0 = 1
 ·rw [if_pos c2] at H
  have c2b0 : (a0 == 1) = true := beq_iff_eq.mpr c2
  have c2b1 : (a0 != 1) = false := bne_eq_false_iff_eq.mpr c2
  clear c2
  obtain rfl := Option.some.inj H
  go_enter Tryz.func66, Tryz.ntmps66
  go_wp2
  go_ret
  exact ⟨by first | rfl | (simp; done) | (simp [*]; done), by repeat (first | exact Drawn0.refl _ | apply Drawn0.step)⟩
 ·rw [if_neg c2] at H
  have c2b0 : (a0 == 1) = false := beq_eq_false_iff_ne.mpr c2
  have c2b1 : (a0 != 1) = true := bne_iff_ne.mpr c2
  by_cases c3 : a0 = 2
  ·rw [if_pos c3] at H
   have c3b0 : (a0 == 2) = true := beq_iff_eq.mpr c3
   have c3b1 : (a0 != 2) = false := bne_eq_false_iff_eq.mpr c3
   clear c3
   obtain rfl := Option.some.inj H
   go_enter Tryz.func66, Tryz.ntmps66
   go_wp2
   go_ret
   exact ⟨by first | rfl | (simp; done) | (simp [*]; done), by repeat (first | exact Drawn0.refl _ | apply Drawn0.step)⟩
  ·rw [if_neg c3] at H
   have c3b0 : (a0 == 2) = false := beq_eq_false_iff_ne.mpr c3
   have c3b1 : (a0 != 2) = true := bne_iff_ne.mpr c3
   by_cases c4 : a0 = 3
   ·rw [if_pos c4] at H
    have c4b0 : (a0 == 3) = true := beq_iff_eq.mpr c4
    have c4b1 : (a0 != 3) = false := bne_eq_false_iff_eq.mpr c4
    clear c4
    obtain rfl := Option.some.inj H
    go_enter Tryz.func66, Tryz.ntmps66
    go_wp2
    go_ret
    exact ⟨by first | rfl | (simp; done) | (simp [*]; done), by repeat (first | exact Drawn0.refl _ | apply Drawn0.step)⟩
   ·rw [if_neg c4] at H
    have c4b0 : (a0 == 3) = false := beq_eq_false_iff_ne.mpr c4
    have c4b1 : (a0 != 3) = true := bne_iff_ne.mpr c4
    by_cases c5 : a0 = 4
    ·rw [if_pos c5] at H
     have c5b0 : (a0 == 4) = true := beq_iff_eq.mpr c5
     have c5b1 : (a0 != 4) = false := bne_eq_false_iff_eq.mpr c5
     clear c5
     obtain rfl := Option.some.inj H
     go_enter Tryz.func66, Tryz.ntmps66
     go_wp2
     go_ret
     exact ⟨by first | rfl | (simp; done) | (simp [*]; done), by repeat (first | exact Drawn0.refl _ | apply Drawn0.step)⟩
    ·rw [if_neg c5] at H
     have c5b0 : (a0 == 4) = false := beq_eq_false_iff_ne.mpr c5
     have c5b1 : (a0 != 4) = true := bne_iff_ne.mpr c5
     obtain rfl := Option.some.inj H
     go_enter Tryz.func66, Tryz.ntmps66
     go_wp2
     go_ret
     exact ⟨by first | rfl | (simp; done) | (simp [*]; done), by repeat (first | exact Drawn0.refl _ | apply Drawn0.step)⟩
def tx_Weight.l0 : Nat → Int → List (S79) → Int → Int → Option (Int)
 | 0, _, _, _, _ => none
 | k + 1, x3, x18, x19, x20 => if x20 < x19 then (if 0 ≤ x20 then (if x20 < (x18.length : Int) then ((tx_Wit.f ((rd_T79 x18 x20).f2.f0)).bind fun t107 => (tx_Weight.l0 k (wrap64 (x3 + t107)) x18 x19 (wrap64 (x20 + 1)))) else (none)) else (none)) else (some x3)
def tx_Weight.f (k : Nat) (l0_0 : List (S79)) (l0_1 : List (S90)) (a0_2 : Int) : Option (Int) := tx_Weight.l0 k (wrap64 (4 * (wrap64 ((wrap64 (10 + (wrap64 (41 * (l0_0.length : Int))))) + (wrap64 (34 * (l0_1.length : Int))))))) l0_0 (l0_0.length : Int) 0
theorem tx_Weight.mono_l : ∀ k, (∀ y0 y1 y2 y3, LeO (tx_Weight.l0 k y0 y1 y2 y3) (tx_Weight.l0 (k + 1) y0 y1 y2 y3))
 | 0 => fun _ _ _ _ r h => by simp [tx_Weight.l0] at h
 | k + 1 => by
  have ih0 := tx_Weight.mono_l k
  ·intro y0 y1 y2 y3
   unfold tx_Weight.l0
   repeat' first
   | (with_reducible exact ih0 _ _ _ _)
   | (with_reducible exact LeO.refl _)
   | (with_reducible exact LeO.none _)
   | (with_reducible refine LeO.ite ?_ ?_)
   | (with_reducible refine LeO.bind ?_ (fun _ => ?_))
   | exact ih0 _ _ _ _
   | exact LeO.none _
   | refine LeO.ite ?_ ?_
   | refine LeO.bind ?_ (fun _ => ?_)
theorem tx_Weight.mono : ∀ a0 a1 a2 k, LeO (tx_Weight.f k a0 a1 a2) (tx_Weight.f (k + 1) a0 a1 a2) := by
 intro a0 a1 a2 k
 have ih0 := tx_Weight.mono_l k
 unfold tx_Weight.f
 repeat' first
  | (with_reducible exact ih0 _ _ _ _)
  | (with_reducible exact LeO.refl _)
  | (with_reducible exact LeO.none _)
  | (with_reducible refine LeO.ite ?_ ?_)
  | (with_reducible refine LeO.bind ?_ (fun _ => ?_))
  | exact ih0 _ _ _ _
  | exact LeO.none _
  | refine LeO.ite ?_ ?_
  | refine LeO.bind ?_ (fun _ => ?_)
set_option maxHeartbeats 8000000 in
set_option maxRecDepth 100000 in
theorem tx_Weight.calls (k : Nat) (A0_0 : Option Addr) (c0_0 : Nat) (l0_0 : List (S79)) (A0_1 : Option Addr) (c0_1 : Nat) (l0_1 : List (S90)) (a0_2 r : Int) (w : World) (hr0_0 : Kd.C k79 w A0_0 l0_0.length l0_0) (hc0_0 : l0_0.length ≤ c0_0) (hr0_1 : Kd.C k90 w A0_1 l0_1.length l0_1) (hc0_1 : l0_1.length ≤ c0_1) (h : tx_Weight.f k l0_0 l0_1 a0_2 = some r) :
 Calls Tryz.prog 36 #[.agg #[.slice A0_0 l0_0.length c0_0, .slice A0_1 l0_1.length c0_1, .int .i64 a0_2]] w fun e w' => e = .returned (.int .i64 r) ∧ Below w.heap.size w w' := by
 have hu48 := Tryz.underlying48
 have hu79 := Tryz.underlying79
 have HR0_0 := Ak hr0_0
 have HC0_0 := Ak hc0_0
 clear hr0_0 hc0_0
 have HR0_1 := Ak hr0_1
 have HC0_1 := Ak hc0_1
 clear hr0_1 hc0_1
 have HB := Ak (Below.refl w.heap.size w)
 have H : (tx_Weight.l0 k (wrap64 (4 * (wrap64 ((wrap64 (10 + (wrap64 (41 * (l0_0.length : Int))))) + (wrap64 (34 * (l0_1.length : Int))))))) l0_0 (l0_0.length : Int) 0) = some r := h
 clear h
 have H' := Ak H
 clear H
 go_enter Tryz.func36, Tryz.ntmps36
 go_wp2_with (first | ((with_reducible refine gate_dst (N := 1) rfl ?_); refine box_event ?hg (N := 1) ?hd (cs := #[.slice A0_0 l0_0.length c0_0, .slice A0_1 l0_1.length c0_1, .int .i64 a0_2]) (t := 48) ?hr ?_; (case hd => rfl); (case hg => rfl); (case hr => first | (go_simp; done) | (go_simp; rfl)); intro gb104 hg w2 hbox hb; have BK104 := Ak (hbox); have GW104 := Ak ((by rw [hg]; exact (below_size (by repeat (first | (with_reducible first | exact HB.1 | apply below_alloc | apply pw_below_drewN | apply below_drew1) | exact HB.1))) : w.heap.size ≤ gb104)); have GE104 := Ak ((by rw [hg]; exact (below_size (by repeat (first | (with_reducible first | exact HB.1 | apply below_alloc | apply pw_below_drewN | apply below_drew1) | exact HB.1))) : w.heap.size ≤ gb104)); replace HB := Ak (below_step (by repeat (first | (with_reducible first | exact HB.1 | apply below_alloc | apply pw_below_drewN | apply below_drew1) | exact HB.1)) hb); clear hb hbox hg; have hcz3_0 : w2.cell? ⟨gb104, 0, none⟩ = some (.slice A0_0 l0_0.length c0_0) := (blk_cell BK104.1 0).trans rfl; have hcz3_1 : w2.cell? ⟨gb104, 1, none⟩ = some (.slice A0_1 l0_1.length c0_1) := (blk_cell BK104.1 1).trans rfl; have hcz3_2 : w2.cell? ⟨gb104, 2, none⟩ = some (.int .i64 a0_2) := (blk_cell BK104.1 2).trans rfl; have hfz3_0 := blk_frozen BK104.1 0; have hfz3_1 := blk_frozen BK104.1 1; have hfz3_2 := blk_frozen BK104.1 2))
 go_loopg [3, 20] k (fun kq v3 v20 w' => ∃ (x3_1 : Int) (x20_1 : Int), v3 = .int .i64 x3_1 ∧ v20 = .int .i64 x20_1 ∧ Aside0 (tx_Weight.l0 kq x3_1 l0_0 (l0_0.length : Int) x20_1 = some r) ∧ Aside0 (kq ≤ k) ∧ Aside0 (w'.heap[gb104]? = some (.cells #[(.slice A0_0 l0_0.length c0_0), (.slice A0_1 l0_1.length c0_1), .int .i64 a0_2] 48 (0, 0))) ∧ Aside0 (Below w.heap.size w w'))
 case atStart => exact ⟨(wrap64 (4 * (wrap64 ((wrap64 (10 + (wrap64 (41 * (l0_0.length : Int))))) + (wrap64 (34 * (l0_1.length : Int))))))), (0), (by first | rfl | (simp; done) | (simp [*]; done)), (by first | rfl | (simp; done) | (simp [*]; done)), H', ⟨Nat.le_refl _⟩, ⟨by (with_reducible repeat (first | refine blk_drewN ?_ _ | refine blk_drew ?_ | refine blk_alloc ?_ _)); exact BK104.1⟩, ⟨by repeat (first | (with_reducible first | exact HB.1 | apply below_alloc | apply pw_below_drewN | apply below_drew1 | refine below_set ?_ GE104.1) | exact HB.1)⟩⟩
 case round =>
  clear H'
  try clear p2
  try clear c3
  try clear hcz3_0
  try clear hcz3_1
  try clear hcz3_2
  try clear hfz3_0
  try clear hfz3_1
  try clear hfz3_2
  obtain ⟨x3_1, x20_1, rfl, rfl, HA, HK1, BK104, HB⟩ := hrel
  cases gk with
  | zero => exact absurd HA.out (by simp [tx_Weight.l0])
  | succ k1 =>
   have H := HA.out
   clear HA
   simp only [tx_Weight.l0] at H
   by_cases c4 : x20_1 < (l0_0.length : Int)
   ·rw [if_pos c4] at H
    have c4b0 : decide (x20_1 < (l0_0.length : Int)) = true := decide_eq_true c4
    clear c4
    by_cases c5 : 0 ≤ x20_1
    ·rw [if_pos c5] at H
     have c5b0 : decide (0 ≤ x20_1) = true := decide_eq_true c5
     clear c5
     by_cases c6 : x20_1 < (l0_0.length : Int)
     ·rw [if_pos c6] at H
      have c6b0 : decide (x20_1 < (l0_0.length : Int)) = true := decide_eq_true c6
      clear c6
      replace H := Option.bind_eq_some_iff.mp H
      obtain ⟨t107, A70, H⟩ := H
      replace H : (tx_Weight.l0 k1 (wrap64 (x3_1 + t107)) l0_0 (l0_0.length : Int) (wrap64 (x20_1 + 1))) = some r := H
      have A7 := Ak A70
      clear A70
      as_aux_lemma =>
       have H' := Ak H
       clear H
       have p105 : 0 ≤ (x20_1 : Int) := of_decide_eq_true (by first | (with_reducible assumption) | assumption)
       have q105 : x20_1 < (l0_0.length : Int) := of_decide_eq_true (by first | (with_reducible assumption) | assumption)
       obtain ⟨ad105, e105, hx105_0, hx105_1, hx105_2, hx105_3, hx105_4, hx105_5, hx105_6, hx105_7, hx105_8, hx105_9, hx105_10, hx105_11, hx105_12, hx105_13, hx105_14, hx105_15, hx105_16, hx105_17, hx105_18, hx105_19, hx105_20, hx105_21, hx105_22, hx105_23, hx105_24, hx105_25, hx105_26, hx105_27, hx105_28, hx105_29, hx105_30, hx105_31, hx105_32, hx105_33, hx105_34, hx105_35, hx105_36⟩ := at_T79 HR0_0.1 x20_1 p105 q105
       cases e105
       replace hx105_0 := (HB.1.cell (World.block_lt_of_cell? w _ hx105_0)).trans hx105_0
       replace hx105_1 := (HB.1.cell (World.block_lt_of_cell? w _ hx105_1)).trans hx105_1
       replace hx105_2 := (HB.1.cell (World.block_lt_of_cell? w _ hx105_2)).trans hx105_2
       replace hx105_3 := (HB.1.cell (World.block_lt_of_cell? w _ hx105_3)).trans hx105_3
       replace hx105_4 := (HB.1.cell (World.block_lt_of_cell? w _ hx105_4)).trans hx105_4
       replace hx105_5 := (HB.1.cell (World.block_lt_of_cell? w _ hx105_5)).trans hx105_5
       replace hx105_6 := (HB.1.cell (World.block_lt_of_cell? w _ hx105_6)).trans hx105_6
       replace hx105_7 := (HB.1.cell (World.block_lt_of_cell? w _ hx105_7)).trans hx105_7
       replace hx105_8 := (HB.1.cell (World.block_lt_of_cell? w _ hx105_8)).trans hx105_8
       replace hx105_9 := (HB.1.cell (World.block_lt_of_cell? w _ hx105_9)).trans hx105_9
       replace hx105_10 := (HB.1.cell (World.block_lt_of_cell? w _ hx105_10)).trans hx105_10
       replace hx105_11 := (HB.1.cell (World.block_lt_of_cell? w _ hx105_11)).trans hx105_11
       replace hx105_12 := (HB.1.cell (World.block_lt_of_cell? w _ hx105_12)).trans hx105_12
       replace hx105_13 := (HB.1.cell (World.block_lt_of_cell? w _ hx105_13)).trans hx105_13
       replace hx105_14 := (HB.1.cell (World.block_lt_of_cell? w _ hx105_14)).trans hx105_14
       replace hx105_15 := (HB.1.cell (World.block_lt_of_cell? w _ hx105_15)).trans hx105_15
       replace hx105_16 := (HB.1.cell (World.block_lt_of_cell? w _ hx105_16)).trans hx105_16
       replace hx105_17 := (HB.1.cell (World.block_lt_of_cell? w _ hx105_17)).trans hx105_17
       replace hx105_18 := (HB.1.cell (World.block_lt_of_cell? w _ hx105_18)).trans hx105_18
       replace hx105_19 := (HB.1.cell (World.block_lt_of_cell? w _ hx105_19)).trans hx105_19
       replace hx105_20 := (HB.1.cell (World.block_lt_of_cell? w _ hx105_20)).trans hx105_20
       replace hx105_21 := (HB.1.cell (World.block_lt_of_cell? w _ hx105_21)).trans hx105_21
       replace hx105_22 := (HB.1.cell (World.block_lt_of_cell? w _ hx105_22)).trans hx105_22
       replace hx105_23 := (HB.1.cell (World.block_lt_of_cell? w _ hx105_23)).trans hx105_23
       replace hx105_24 := (HB.1.cell (World.block_lt_of_cell? w _ hx105_24)).trans hx105_24
       replace hx105_25 := (HB.1.cell (World.block_lt_of_cell? w _ hx105_25)).trans hx105_25
       replace hx105_26 := (HB.1.cell (World.block_lt_of_cell? w _ hx105_26)).trans hx105_26
       replace hx105_27 := (HB.1.cell (World.block_lt_of_cell? w _ hx105_27)).trans hx105_27
       replace hx105_28 := (HB.1.cell (World.block_lt_of_cell? w _ hx105_28)).trans hx105_28
       replace hx105_29 := (HB.1.cell (World.block_lt_of_cell? w _ hx105_29)).trans hx105_29
       replace hx105_30 := (HB.1.cell (World.block_lt_of_cell? w _ hx105_30)).trans hx105_30
       replace hx105_31 := (HB.1.cell (World.block_lt_of_cell? w _ hx105_31)).trans hx105_31
       replace hx105_32 := (HB.1.cell (World.block_lt_of_cell? w _ hx105_32)).trans hx105_32
       replace hx105_33 := (HB.1.cell (World.block_lt_of_cell? w _ hx105_33)).trans hx105_33
       replace hx105_34 := (HB.1.cell (World.block_lt_of_cell? w _ hx105_34)).trans hx105_34
       replace hx105_35 := (HB.1.cell (World.block_lt_of_cell? w _ hx105_35)).trans hx105_35
       replace hx105_36 := (HB.1.cell (World.block_lt_of_cell? w _ hx105_36)).trans hx105_36
       replace p105 := eq_true p105
       replace q105 := eq_true q105
       have hw105_0_32 := Wide.mk32 hx105_0 hx105_1 hx105_2 hx105_3 hx105_4 hx105_5 hx105_6 hx105_7 hx105_8 hx105_9 hx105_10 hx105_11 hx105_12 hx105_13 hx105_14 hx105_15 hx105_16 hx105_17 hx105_18 hx105_19 hx105_20 hx105_21 hx105_22 hx105_23 hx105_24 hx105_25 hx105_26 hx105_27 hx105_28 hx105_29 hx105_30 hx105_31
       have hw105_0_33 := Wide.mk33 hx105_0 hx105_1 hx105_2 hx105_3 hx105_4 hx105_5 hx105_6 hx105_7 hx105_8 hx105_9 hx105_10 hx105_11 hx105_12 hx105_13 hx105_14 hx105_15 hx105_16 hx105_17 hx105_18 hx105_19 hx105_20 hx105_21 hx105_22 hx105_23 hx105_24 hx105_25 hx105_26 hx105_27 hx105_28 hx105_29 hx105_30 hx105_31 hx105_32
       have hw105_0_37 := Wide.mk37 hx105_0 hx105_1 hx105_2 hx105_3 hx105_4 hx105_5 hx105_6 hx105_7 hx105_8 hx105_9 hx105_10 hx105_11 hx105_12 hx105_13 hx105_14 hx105_15 hx105_16 hx105_17 hx105_18 hx105_19 hx105_20 hx105_21 hx105_22 hx105_23 hx105_24 hx105_25 hx105_26 hx105_27 hx105_28 hx105_29 hx105_30 hx105_31 hx105_32 hx105_33 hx105_34 hx105_35 hx105_36
       go_wp2_with (first | ((with_reducible refine gate_dst (N := 5) rfl ?_); refine Fill.fill_event (N := 5) (x := 23) (cs := #[.int .u8 ((rd_T79 l0_0 x20_1).f0.f0.f0), .int .u8 ((rd_T79 l0_0 x20_1).f0.f0.f1), .int .u8 ((rd_T79 l0_0 x20_1).f0.f0.f2), .int .u8 ((rd_T79 l0_0 x20_1).f0.f0.f3), .int .u8 ((rd_T79 l0_0 x20_1).f0.f0.f4), .int .u8 ((rd_T79 l0_0 x20_1).f0.f0.f5), .int .u8 ((rd_T79 l0_0 x20_1).f0.f0.f6), .int .u8 ((rd_T79 l0_0 x20_1).f0.f0.f7), .int .u8 ((rd_T79 l0_0 x20_1).f0.f0.f8), .int .u8 ((rd_T79 l0_0 x20_1).f0.f0.f9), .int .u8 ((rd_T79 l0_0 x20_1).f0.f0.f10), .int .u8 ((rd_T79 l0_0 x20_1).f0.f0.f11), .int .u8 ((rd_T79 l0_0 x20_1).f0.f0.f12), .int .u8 ((rd_T79 l0_0 x20_1).f0.f0.f13), .int .u8 ((rd_T79 l0_0 x20_1).f0.f0.f14), .int .u8 ((rd_T79 l0_0 x20_1).f0.f0.f15), .int .u8 ((rd_T79 l0_0 x20_1).f0.f0.f16), .int .u8 ((rd_T79 l0_0 x20_1).f0.f0.f17), .int .u8 ((rd_T79 l0_0 x20_1).f0.f0.f18), .int .u8 ((rd_T79 l0_0 x20_1).f0.f0.f19), .int .u8 ((rd_T79 l0_0 x20_1).f0.f0.f20), .int .u8 ((rd_T79 l0_0 x20_1).f0.f0.f21), .int .u8 ((rd_T79 l0_0 x20_1).f0.f0.f22), .int .u8 ((rd_T79 l0_0 x20_1).f0.f0.f23), .int .u8 ((rd_T79 l0_0 x20_1).f0.f0.f24), .int .u8 ((rd_T79 l0_0 x20_1).f0.f0.f25), .int .u8 ((rd_T79 l0_0 x20_1).f0.f0.f26), .int .u8 ((rd_T79 l0_0 x20_1).f0.f0.f27), .int .u8 ((rd_T79 l0_0 x20_1).f0.f0.f28), .int .u8 ((rd_T79 l0_0 x20_1).f0.f0.f29), .int .u8 ((rd_T79 l0_0 x20_1).f0.f0.f30), .int .u8 ((rd_T79 l0_0 x20_1).f0.f0.f31), .int .i64 ((rd_T79 l0_0 x20_1).f0.f1), .int .i64 ((rd_T79 l0_0 x20_1).f1), .int .i64 ((rd_T79 l0_0 x20_1).f2.f0), .int .i64 ((rd_T79 l0_0 x20_1).f2.f1), .string ((rd_T79 l0_0 x20_1).f2.f2)]) (t := 79) rfl rfl rfl rfl rfl rfl Tryz.zeroValue79 Tryz.sizeOf79 rfl rfl (fun _ => rfl) (fun _ => rfl) ?_; intro gb106 hg w8 hbox hb; have BK106 := Ak (hbox); have GW106 := Ak ((by rw [hg]; exact (below_size (by repeat (first | (with_reducible first | exact HB.1 | apply below_alloc | apply pw_below_drewN | apply below_drew1 | refine below_set ?_ GE104.1) | exact HB.1))) : w.heap.size ≤ gb106)); have GE106 := Ak ((by rw [hg]; exact (below_size (by repeat (first | (with_reducible first | exact HB.1 | apply below_alloc | apply pw_below_drewN | apply below_drew1 | refine below_set ?_ GE104.1) | exact HB.1))) : w.heap.size ≤ gb106)); have NB104_106 := Ak ((by rw [hg]; exact Nat.ne_of_lt (blk_lt (g := gb104) (o := .cells #[.slice (some ad105) l0_0.length c0_0, .slice A0_1 l0_1.length c0_1, .int .i64 a0_2] 48 (0, 0)) (by (with_reducible repeat (first | refine blk_drewN ?_ _ | refine blk_drew ?_ | refine blk_alloc ?_ _)); exact BK104.1)) : gb104 ≠ gb106)); have NB106_104 := Ak ((by rw [hg]; exact Nat.ne_of_gt (blk_lt (g := gb104) (o := .cells #[.slice (some ad105) l0_0.length c0_0, .slice A0_1 l0_1.length c0_1, .int .i64 a0_2] 48 (0, 0)) (by (with_reducible repeat (first | refine blk_drewN ?_ _ | refine blk_drew ?_ | refine blk_alloc ?_ _)); exact BK104.1)) : gb106 ≠ gb104)); replace BK104 := Ak (blk_below (g := gb104) (o := .cells #[.slice (some ad105) l0_0.length c0_0, .slice A0_1 l0_1.length c0_1, .int .i64 a0_2] 48 (0, 0)) (by (with_reducible repeat (first | refine blk_drewN ?_ _ | refine blk_drew ?_ | refine blk_alloc ?_ _)); exact BK104.1) hb); replace HB := Ak (below_step (by repeat (first | (with_reducible first | exact HB.1 | apply below_alloc | apply pw_below_drewN | apply below_drew1 | refine below_set ?_ GE104.1) | exact HB.1)) hb); clear hb hbox hg; have hnb9 := NB106_104.1; have hnc9 := NB104_106.1; have hcz10_0 : w8.cell? ⟨gb106, 0, none⟩ = some (.int .u8 ((rd_T79 l0_0 x20_1).f0.f0.f0)) := (blk_cell BK106.1 0).trans rfl; have hcz10_1 : w8.cell? ⟨gb106, 1, none⟩ = some (.int .u8 ((rd_T79 l0_0 x20_1).f0.f0.f1)) := (blk_cell BK106.1 1).trans rfl; have hcz10_2 : w8.cell? ⟨gb106, 2, none⟩ = some (.int .u8 ((rd_T79 l0_0 x20_1).f0.f0.f2)) := (blk_cell BK106.1 2).trans rfl; have hcz10_3 : w8.cell? ⟨gb106, 3, none⟩ = some (.int .u8 ((rd_T79 l0_0 x20_1).f0.f0.f3)) := (blk_cell BK106.1 3).trans rfl; have hcz10_4 : w8.cell? ⟨gb106, 4, none⟩ = some (.int .u8 ((rd_T79 l0_0 x20_1).f0.f0.f4)) := (blk_cell BK106.1 4).trans rfl; have hcz10_5 : w8.cell? ⟨gb106, 5, none⟩ = some (.int .u8 ((rd_T79 l0_0 x20_1).f0.f0.f5)) := (blk_cell BK106.1 5).trans rfl; have hcz10_6 : w8.cell? ⟨gb106, 6, none⟩ = some (.int .u8 ((rd_T79 l0_0 x20_1).f0.f0.f6)) := (blk_cell BK106.1 6).trans rfl; have hcz10_7 : w8.cell? ⟨gb106, 7, none⟩ = some (.int .u8 ((rd_T79 l0_0 x20_1).f0.f0.f7)) := (blk_cell BK106.1 7).trans rfl; have hcz10_8 : w8.cell? ⟨gb106, 8, none⟩ = some (.int .u8 ((rd_T79 l0_0 x20_1).f0.f0.f8)) := (blk_cell BK106.1 8).trans rfl; have hcz10_9 : w8.cell? ⟨gb106, 9, none⟩ = some (.int .u8 ((rd_T79 l0_0 x20_1).f0.f0.f9)) := (blk_cell BK106.1 9).trans rfl; have hcz10_10 : w8.cell? ⟨gb106, 10, none⟩ = some (.int .u8 ((rd_T79 l0_0 x20_1).f0.f0.f10)) := (blk_cell BK106.1 10).trans rfl; have hcz10_11 : w8.cell? ⟨gb106, 11, none⟩ = some (.int .u8 ((rd_T79 l0_0 x20_1).f0.f0.f11)) := (blk_cell BK106.1 11).trans rfl; have hcz10_12 : w8.cell? ⟨gb106, 12, none⟩ = some (.int .u8 ((rd_T79 l0_0 x20_1).f0.f0.f12)) := (blk_cell BK106.1 12).trans rfl; have hcz10_13 : w8.cell? ⟨gb106, 13, none⟩ = some (.int .u8 ((rd_T79 l0_0 x20_1).f0.f0.f13)) := (blk_cell BK106.1 13).trans rfl; have hcz10_14 : w8.cell? ⟨gb106, 14, none⟩ = some (.int .u8 ((rd_T79 l0_0 x20_1).f0.f0.f14)) := (blk_cell BK106.1 14).trans rfl; have hcz10_15 : w8.cell? ⟨gb106, 15, none⟩ = some (.int .u8 ((rd_T79 l0_0 x20_1).f0.f0.f15)) := (blk_cell BK106.1 15).trans rfl; have hcz10_16 : w8.cell? ⟨gb106, 16, none⟩ = some (.int .u8 ((rd_T79 l0_0 x20_1).f0.f0.f16)) := (blk_cell BK106.1 16).trans rfl; have hcz10_17 : w8.cell? ⟨gb106, 17, none⟩ = some (.int .u8 ((rd_T79 l0_0 x20_1).f0.f0.f17)) := (blk_cell BK106.1 17).trans rfl; have hcz10_18 : w8.cell? ⟨gb106, 18, none⟩ = some (.int .u8 ((rd_T79 l0_0 x20_1).f0.f0.f18)) := (blk_cell BK106.1 18).trans rfl; have hcz10_19 : w8.cell? ⟨gb106, 19, none⟩ = some (.int .u8 ((rd_T79 l0_0 x20_1).f0.f0.f19)) := (blk_cell BK106.1 19).trans rfl; have hcz10_20 : w8.cell? ⟨gb106, 20, none⟩ = some (.int .u8 ((rd_T79 l0_0 x20_1).f0.f0.f20)) := (blk_cell BK106.1 20).trans rfl; have hcz10_21 : w8.cell? ⟨gb106, 21, none⟩ = some (.int .u8 ((rd_T79 l0_0 x20_1).f0.f0.f21)) := (blk_cell BK106.1 21).trans rfl; have hcz10_22 : w8.cell? ⟨gb106, 22, none⟩ = some (.int .u8 ((rd_T79 l0_0 x20_1).f0.f0.f22)) := (blk_cell BK106.1 22).trans rfl; have hcz10_23 : w8.cell? ⟨gb106, 23, none⟩ = some (.int .u8 ((rd_T79 l0_0 x20_1).f0.f0.f23)) := (blk_cell BK106.1 23).trans rfl; have hcz10_24 : w8.cell? ⟨gb106, 24, none⟩ = some (.int .u8 ((rd_T79 l0_0 x20_1).f0.f0.f24)) := (blk_cell BK106.1 24).trans rfl; have hcz10_25 : w8.cell? ⟨gb106, 25, none⟩ = some (.int .u8 ((rd_T79 l0_0 x20_1).f0.f0.f25)) := (blk_cell BK106.1 25).trans rfl; have hcz10_26 : w8.cell? ⟨gb106, 26, none⟩ = some (.int .u8 ((rd_T79 l0_0 x20_1).f0.f0.f26)) := (blk_cell BK106.1 26).trans rfl; have hcz10_27 : w8.cell? ⟨gb106, 27, none⟩ = some (.int .u8 ((rd_T79 l0_0 x20_1).f0.f0.f27)) := (blk_cell BK106.1 27).trans rfl; have hcz10_28 : w8.cell? ⟨gb106, 28, none⟩ = some (.int .u8 ((rd_T79 l0_0 x20_1).f0.f0.f28)) := (blk_cell BK106.1 28).trans rfl; have hcz10_29 : w8.cell? ⟨gb106, 29, none⟩ = some (.int .u8 ((rd_T79 l0_0 x20_1).f0.f0.f29)) := (blk_cell BK106.1 29).trans rfl; have hcz10_30 : w8.cell? ⟨gb106, 30, none⟩ = some (.int .u8 ((rd_T79 l0_0 x20_1).f0.f0.f30)) := (blk_cell BK106.1 30).trans rfl; have hcz10_31 : w8.cell? ⟨gb106, 31, none⟩ = some (.int .u8 ((rd_T79 l0_0 x20_1).f0.f0.f31)) := (blk_cell BK106.1 31).trans rfl; have hcz10_32 : w8.cell? ⟨gb106, 32, none⟩ = some (.int .i64 ((rd_T79 l0_0 x20_1).f0.f1)) := (blk_cell BK106.1 32).trans rfl; have hcz10_33 : w8.cell? ⟨gb106, 33, none⟩ = some (.int .i64 ((rd_T79 l0_0 x20_1).f1)) := (blk_cell BK106.1 33).trans rfl; have hcz10_34 : w8.cell? ⟨gb106, 34, none⟩ = some (.int .i64 ((rd_T79 l0_0 x20_1).f2.f0)) := (blk_cell BK106.1 34).trans rfl; have hcz10_35 : w8.cell? ⟨gb106, 35, none⟩ = some (.int .i64 ((rd_T79 l0_0 x20_1).f2.f1)) := (blk_cell BK106.1 35).trans rfl; have hcz10_36 : w8.cell? ⟨gb106, 36, none⟩ = some (.string ((rd_T79 l0_0 x20_1).f2.f2)) := (blk_cell BK106.1 36).trans rfl; have hwz10_0_32 := Wide.mk32 (a := ⟨gb106, 0, none⟩) hcz10_0 hcz10_1 hcz10_2 hcz10_3 hcz10_4 hcz10_5 hcz10_6 hcz10_7 hcz10_8 hcz10_9 hcz10_10 hcz10_11 hcz10_12 hcz10_13 hcz10_14 hcz10_15 hcz10_16 hcz10_17 hcz10_18 hcz10_19 hcz10_20 hcz10_21 hcz10_22 hcz10_23 hcz10_24 hcz10_25 hcz10_26 hcz10_27 hcz10_28 hcz10_29 hcz10_30 hcz10_31; have hwz10_0_33 := Wide.mk33 (a := ⟨gb106, 0, none⟩) hcz10_0 hcz10_1 hcz10_2 hcz10_3 hcz10_4 hcz10_5 hcz10_6 hcz10_7 hcz10_8 hcz10_9 hcz10_10 hcz10_11 hcz10_12 hcz10_13 hcz10_14 hcz10_15 hcz10_16 hcz10_17 hcz10_18 hcz10_19 hcz10_20 hcz10_21 hcz10_22 hcz10_23 hcz10_24 hcz10_25 hcz10_26 hcz10_27 hcz10_28 hcz10_29 hcz10_30 hcz10_31 hcz10_32; have hwz10_0_37 := Wide.mk37 (a := ⟨gb106, 0, none⟩) hcz10_0 hcz10_1 hcz10_2 hcz10_3 hcz10_4 hcz10_5 hcz10_6 hcz10_7 hcz10_8 hcz10_9 hcz10_10 hcz10_11 hcz10_12 hcz10_13 hcz10_14 hcz10_15 hcz10_16 hcz10_17 hcz10_18 hcz10_19 hcz10_20 hcz10_21 hcz10_22 hcz10_23 hcz10_24 hcz10_25 hcz10_26 hcz10_27 hcz10_28 hcz10_29 hcz10_30 hcz10_31 hcz10_32 hcz10_33 hcz10_34 hcz10_35 hcz10_36; have hfz10_0 := blk_frozen BK106.1 0; have hfz10_1 := blk_frozen BK106.1 1; have hfz10_2 := blk_frozen BK106.1 2; have hfz10_3 := blk_frozen BK106.1 3; have hfz10_4 := blk_frozen BK106.1 4; have hfz10_5 := blk_frozen BK106.1 5; have hfz10_6 := blk_frozen BK106.1 6; have hfz10_7 := blk_frozen BK106.1 7; have hfz10_8 := blk_frozen BK106.1 8; have hfz10_9 := blk_frozen BK106.1 9; have hfz10_10 := blk_frozen BK106.1 10; have hfz10_11 := blk_frozen BK106.1 11; have hfz10_12 := blk_frozen BK106.1 12; have hfz10_13 := blk_frozen BK106.1 13; have hfz10_14 := blk_frozen BK106.1 14; have hfz10_15 := blk_frozen BK106.1 15; have hfz10_16 := blk_frozen BK106.1 16; have hfz10_17 := blk_frozen BK106.1 17; have hfz10_18 := blk_frozen BK106.1 18; have hfz10_19 := blk_frozen BK106.1 19; have hfz10_20 := blk_frozen BK106.1 20; have hfz10_21 := blk_frozen BK106.1 21; have hfz10_22 := blk_frozen BK106.1 22; have hfz10_23 := blk_frozen BK106.1 23; have hfz10_24 := blk_frozen BK106.1 24; have hfz10_25 := blk_frozen BK106.1 25; have hfz10_26 := blk_frozen BK106.1 26; have hfz10_27 := blk_frozen BK106.1 27; have hfz10_28 := blk_frozen BK106.1 28; have hfz10_29 := blk_frozen BK106.1 29; have hfz10_30 := blk_frozen BK106.1 30; have hfz10_31 := blk_frozen BK106.1 31; have hfz10_32 := blk_frozen BK106.1 32; have hfz10_33 := blk_frozen BK106.1 33; have hfz10_34 := blk_frozen BK106.1 34; have hfz10_35 := blk_frozen BK106.1 35; have hfz10_36 := blk_frozen BK106.1 36) | ((with_reducible refine gate_callee (f := 66) rfl ?_); refine goesL_ (some 28) rfl rfl Tryz.func66 (by kernel_rfl) rfl #[.int .i64 ((rd_T79 l0_0 x20_1).f2.f0)] rfl (by (try simp only [lm_, lc_, ln_]); first | done | rfl | (simp only [List.length_drop, List.length_take]; rfl)) ?_; (with_reducible refine (tx_Wit.calls ((rd_T79 l0_0 x20_1).f2.f0) t107 _ A7.1).mono ?_); rintro e w' ⟨rfl, ⟨nd, rfl⟩⟩; refine ⟨_, rfl, ?_⟩))
       go_roundg k1
       case measure => have := HK1.out; omega
       case rel => exact ⟨(wrap64 (x3_1 + t107)), (wrap64 (x20_1 + 1)), (by first | rfl | (simp; done) | (simp [*]; done)), (by first | rfl | (simp; done) | (simp [*]; done)), H', ⟨by have := HK1.out; omega⟩, ⟨by (with_reducible repeat (first | refine blk_drewN ?_ _ | refine blk_drew ?_ | refine blk_alloc ?_ _)); exact BK104.1⟩, ⟨by repeat (first | (with_reducible first | exact HB.1 | apply below_alloc | apply pw_below_drewN | apply below_drew1 | refine below_set ?_ GE104.1 | refine below_set ?_ GE106.1) | exact HB.1)⟩⟩
     ·rw [if_neg c6] at H
      exact absurd H (by simp)
    ·rw [if_neg c5] at H
     exact absurd H (by simp)
   ·rw [if_neg c4] at H
    have c4b0 : decide (x20_1 < (l0_0.length : Int)) = false := decide_eq_false c4
    clear c4
    as_aux_lemma =>
     obtain rfl := Option.some.inj H
     go_wp2
     go_ret
     exact ⟨by first | rfl | (simp [errW_none, errW_some] <;> rfl) | (simp [*, errW_none, errW_some] <;> rfl), by repeat (first | (with_reducible first | exact HB.1 | apply below_alloc | apply pw_below_drewN | apply below_drew1 | refine below_set ?_ GE104.1) | exact HB.1)⟩
def curve_whole.f (a0 a1 a2 : Nat) : Option (Bool) := if (fge a0 a1) = true then (if (fle a0 a2) = true then ((math_Trunc.f a0).bind fun t108 => (some (feq a0 t108))) else (some false)) else (some false)
set_option maxHeartbeats 8000000 in
set_option maxRecDepth 100000 in
theorem curve_whole.calls (a0 a1 a2 : Nat) (r : Bool) (w : World) (h : curve_whole.f a0 a1 a2 = some r) :
 Calls Tryz.prog 94 #[.float .f64 a0, .float .f64 a1, .float .f64 a2] w fun e w' => e = .returned (.bool r) ∧ Drawn0 w w' := by
 have H : (if (fge a0 a1) = true then (if (fle a0 a2) = true then ((math_Trunc.f a0).bind fun t108 => (some (feq a0 t108))) else (some false)) else (some false)) = some r := h
 clear h
 by_cases c4 : (fge a0 a1) = true
 ·rw [if_pos c4] at H
  have c4b0 : (fge a0 a1) = true := c4
  clear c4
  by_cases c5 : (fle a0 a2) = true
  ·rw [if_pos c5] at H
   have c5b0 : (fle a0 a2) = true := c5
   clear c5
   replace H := Option.bind_eq_some_iff.mp H
   obtain ⟨t108, A60, H⟩ := H
   replace H : (some (feq a0 t108)) = some r := H
   have A6 := Ak A60
   clear A60
   obtain rfl := Option.some.inj H
   go_enter Tryz.func94, Tryz.ntmps94
   go_wp2_with (first | (go_at_call 98; (with_reducible refine (math_Trunc.calls a0 t108 _ A6.1).mono ?_); rintro e w' ⟨rfl, ⟨nd, rfl⟩⟩))
   go_ret
   exact ⟨by first | rfl | (simp; done) | (simp [*]; done), by repeat (first | exact Drawn0.refl _ | apply Drawn0.step)⟩
  ·rw [if_neg c5] at H
   have c5b0 : (fle a0 a2) = false := by simpa using c5
   clear c5
   obtain rfl := Option.some.inj H
   go_enter Tryz.func94, Tryz.ntmps94
   go_wp2
   go_ret
   exact ⟨by first | rfl | (simp; done) | (simp [*]; done), by repeat (first | exact Drawn0.refl _ | apply Drawn0.step)⟩
 ·rw [if_neg c4] at H
  have c4b0 : (fge a0 a1) = false := by simpa using c4
  clear c4
  obtain rfl := Option.some.inj H
  go_enter Tryz.func94, Tryz.ntmps94
  go_wp2
  go_ret
  exact ⟨by first | rfl | (simp; done) | (simp [*]; done), by repeat (first | exact Drawn0.refl _ | apply Drawn0.step)⟩
def curve_point.f (a0 : C128) : Option (Bool) := (curve_whole.f a0.re 0 4696837146684686336).bind fun t109 => (if t109 = true then ((curve_whole.f a0.im 4643105662702714880 4741671816366391296).bind fun t110 => (some t110)) else (some false))
set_option maxHeartbeats 8000000 in
set_option maxRecDepth 100000 in
theorem curve_point.calls (a0 : C128) (r : Bool) (w : World) (h : curve_point.f a0 = some r) :
 Calls Tryz.prog 83 #[.complex .f64 a0.re a0.im] w fun e w' => e = .returned (.bool r) ∧ Below w.heap.size w w' := by
 have HB := Ak (Below.refl w.heap.size w)
 have H : ((curve_whole.f a0.re 0 4696837146684686336).bind fun t109 => (if t109 = true then ((curve_whole.f a0.im 4643105662702714880 4741671816366391296).bind fun t110 => (some t110)) else (some false))) = some r := h
 clear h
 replace H := Option.bind_eq_some_iff.mp H
 obtain ⟨t109, A20, H⟩ := H
 replace H : (if t109 = true then ((curve_whole.f a0.im 4643105662702714880 4741671816366391296).bind fun t110 => (some t110)) else (some false)) = some r := H
 have A2 := Ak A20
 clear A20
 by_cases c3 : t109 = true
 ·subst c3
  have H1 : ((curve_whole.f a0.im 4643105662702714880 4741671816366391296).bind fun t110 => (some t110)) = some r := by rw [if_pos rfl] at H; exact H
  clear H
  have H := H1
  clear H1
  replace H := Option.bind_eq_some_iff.mp H
  obtain ⟨t110, A40, H⟩ := H
  replace H : (some t110) = some r := H
  have A4 := Ak A40
  clear A40
  obtain rfl := Option.some.inj H
  go_enter Tryz.func83, Tryz.ntmps83
  go_wp2_with (first | ((with_reducible refine gate_callee (f := 94) rfl ?_); refine goesL_ (some 5) rfl rfl Tryz.func94 (by kernel_rfl) rfl #[.float .f64 a0.re, .float .f64 0, .float .f64 4696837146684686336] rfl (by (try simp only [lm_, lc_, ln_]); first | done | rfl | (simp only [List.length_drop, List.length_take]; rfl)) ?_; (with_reducible refine (curve_whole.calls a0.re 0 4696837146684686336 true _ A2.1).mono ?_); rintro e w' ⟨rfl, ⟨nd, rfl⟩⟩; refine ⟨_, rfl, ?_⟩) | (go_at_call 94; (with_reducible refine (curve_whole.calls a0.im 4643105662702714880 4741671816366391296 t110 _ A4.1).mono ?_); rintro e w' ⟨rfl, ⟨nd, rfl⟩⟩))
  go_ret
  exact ⟨by first | rfl | (simp [errW_none, errW_some] <;> rfl) | (simp [*, errW_none, errW_some] <;> rfl), by repeat (first | (with_reducible first | exact HB.1 | apply below_alloc | apply pw_below_drewN | apply below_drew1) | exact HB.1)⟩
 ·replace c3 := Bool.eq_false_iff.mpr c3
  subst c3
  have H1 : (some false) = some r := by rw [if_neg (show ¬ (false = true) by decide)] at H; exact H
  clear H
  have H := H1
  clear H1
  obtain rfl := Option.some.inj H
  go_enter Tryz.func83, Tryz.ntmps83
  go_wp2_with (first | ((with_reducible refine gate_callee (f := 94) rfl ?_); refine goesL_ (some 5) rfl rfl Tryz.func94 (by kernel_rfl) rfl #[.float .f64 a0.re, .float .f64 0, .float .f64 4696837146684686336] rfl (by (try simp only [lm_, lc_, ln_]); first | done | rfl | (simp only [List.length_drop, List.length_take]; rfl)) ?_; (with_reducible refine (curve_whole.calls a0.re 0 4696837146684686336 false _ A2.1).mono ?_); rintro e w' ⟨rfl, ⟨nd, rfl⟩⟩; refine ⟨_, rfl, ?_⟩))
  go_ret
  exact ⟨by first | rfl | (simp [errW_none, errW_some] <;> rfl) | (simp [*, errW_none, errW_some] <;> rfl), by repeat (first | (with_reducible first | exact HB.1 | apply below_alloc | apply pw_below_drewN | apply below_drew1) | exact HB.1)⟩
def curve_Line.f (a0 : C128) (a1 : C128) : Option (C128 × C128 × Int) := if cok .sub a1.re a1.im a0.re a0.im = true then ((curve_point.f a0).bind fun t112 => (if t112 = true then ((curve_point.f a1).bind fun t113 => (if t113 = true then (if (flt (cre .sub a1.re a1.im a0.re a0.im) 0) = true then (some ((⟨0, 0⟩ : C128), (⟨0, 0⟩ : C128), 1)) else (if (flt (cim .sub a1.re a1.im a0.re a0.im) 0) = true then (some ((⟨0, 0⟩ : C128), (⟨0, 0⟩ : C128), 1)) else (some (a0, a1, 0)))) else (some ((⟨0, 0⟩ : C128), (⟨0, 0⟩ : C128), 1)))) else (some ((⟨0, 0⟩ : C128), (⟨0, 0⟩ : C128), 1)))) else (none)
set_option maxHeartbeats 8000000 in
set_option maxRecDepth 100000 in
theorem curve_Line.calls (a0 : C128) (a1 : C128) (r1 : C128) (r2 : C128) (r3 : Int) (w : World) (h : curve_Line.f a0 a1 = some (r1, r2, r3)) :
 Calls Tryz.prog 60 #[.complex .f64 a0.re a0.im, .complex .f64 a1.re a1.im] w fun e w' => e = .returned (.tuple #[.agg #[.complex .f64 r1.re r1.im, .complex .f64 r2.re r2.im], .int .i64 r3]) ∧ Below w.heap.size w w' := by
 have hu74 := Tryz.underlying74
 have HB := Ak (Below.refl w.heap.size w)
 have H : (if cok .sub a1.re a1.im a0.re a0.im = true then ((curve_point.f a0).bind fun t112 => (if t112 = true then ((curve_point.f a1).bind fun t113 => (if t113 = true then (if (flt (cre .sub a1.re a1.im a0.re a0.im) 0) = true then (some ((⟨0, 0⟩ : C128), (⟨0, 0⟩ : C128), 1)) else (if (flt (cim .sub a1.re a1.im a0.re a0.im) 0) = true then (some ((⟨0, 0⟩ : C128), (⟨0, 0⟩ : C128), 1)) else (some (a0, a1, 0)))) else (some ((⟨0, 0⟩ : C128), (⟨0, 0⟩ : C128), 1)))) else (some ((⟨0, 0⟩ : C128), (⟨0, 0⟩ : C128), 1)))) else (none)) = some (r1, r2, r3) := h
 clear h
 by_cases c3 : cok .sub a1.re a1.im a0.re a0.im = true
 ·rw [if_pos c3] at H
  have c3b0 : cok .sub a1.re a1.im a0.re a0.im = true := c3
  clear c3
  replace H := Option.bind_eq_some_iff.mp H
  obtain ⟨t112, A40, H⟩ := H
  replace H : (if t112 = true then ((curve_point.f a1).bind fun t113 => (if t113 = true then (if (flt (cre .sub a1.re a1.im a0.re a0.im) 0) = true then (some ((⟨0, 0⟩ : C128), (⟨0, 0⟩ : C128), 1)) else (if (flt (cim .sub a1.re a1.im a0.re a0.im) 0) = true then (some ((⟨0, 0⟩ : C128), (⟨0, 0⟩ : C128), 1)) else (some (a0, a1, 0)))) else (some ((⟨0, 0⟩ : C128), (⟨0, 0⟩ : C128), 1)))) else (some ((⟨0, 0⟩ : C128), (⟨0, 0⟩ : C128), 1))) = some (r1, r2, r3) := H
  have A4 := Ak A40
  clear A40
  by_cases c5 : t112 = true
  ·subst c5
   have H1 : ((curve_point.f a1).bind fun t113 => (if t113 = true then (if (flt (cre .sub a1.re a1.im a0.re a0.im) 0) = true then (some ((⟨0, 0⟩ : C128), (⟨0, 0⟩ : C128), 1)) else (if (flt (cim .sub a1.re a1.im a0.re a0.im) 0) = true then (some ((⟨0, 0⟩ : C128), (⟨0, 0⟩ : C128), 1)) else (some (a0, a1, 0)))) else (some ((⟨0, 0⟩ : C128), (⟨0, 0⟩ : C128), 1)))) = some (r1, r2, r3) := by rw [if_pos rfl] at H; exact H
   clear H
   have H := H1
   clear H1
   replace H := Option.bind_eq_some_iff.mp H
   obtain ⟨t113, A60, H⟩ := H
   replace H : (if t113 = true then (if (flt (cre .sub a1.re a1.im a0.re a0.im) 0) = true then (some ((⟨0, 0⟩ : C128), (⟨0, 0⟩ : C128), 1)) else (if (flt (cim .sub a1.re a1.im a0.re a0.im) 0) = true then (some ((⟨0, 0⟩ : C128), (⟨0, 0⟩ : C128), 1)) else (some (a0, a1, 0)))) else (some ((⟨0, 0⟩ : C128), (⟨0, 0⟩ : C128), 1))) = some (r1, r2, r3) := H
   have A6 := Ak A60
   clear A60
   by_cases c7 : t113 = true
   ·subst c7
    have H1 : (if (flt (cre .sub a1.re a1.im a0.re a0.im) 0) = true then (some ((⟨0, 0⟩ : C128), (⟨0, 0⟩ : C128), 1)) else (if (flt (cim .sub a1.re a1.im a0.re a0.im) 0) = true then (some ((⟨0, 0⟩ : C128), (⟨0, 0⟩ : C128), 1)) else (some (a0, a1, 0)))) = some (r1, r2, r3) := by rw [if_pos rfl] at H; exact H
    clear H
    have H := H1
    clear H1
    by_cases c8 : (flt (cre .sub a1.re a1.im a0.re a0.im) 0) = true
    ·rw [if_pos c8] at H
     have c8b0 : (flt (cre .sub a1.re a1.im a0.re a0.im) 0) = true := c8
     clear c8
     simp only [Option.some.injEq, Prod.mk.injEq] at H
     obtain ⟨rfl, rfl, rfl⟩ := H
     go_enter Tryz.func60, Tryz.ntmps60
     go_wp2_with (first | ((with_reducible refine gate_dst (N := 4) rfl ?_); (try (refine gate_guard (by rfl) ?_; dsimp only)); refine box_event ?hg (N := 4) ?hd (cs := #[.complex .f64 0 0, .complex .f64 0 0]) (t := 74) ?hr ?_; (case hd => rfl); (case hg => rfl); (case hr => first | (go_simp; done) | (go_simp; rfl)); intro gb111 hg w9 hbox hb; have BK111 := Ak (hbox); have GW111 := Ak ((by rw [hg]; exact (below_size (by repeat (first | (with_reducible first | exact HB.1 | apply below_alloc | apply pw_below_drewN | apply below_drew1) | exact HB.1))) : w.heap.size ≤ gb111)); have GE111 := Ak ((by rw [hg]; exact (below_size (by repeat (first | (with_reducible first | exact HB.1 | apply below_alloc | apply pw_below_drewN | apply below_drew1) | exact HB.1))) : w.heap.size ≤ gb111)); replace HB := Ak (below_step (by repeat (first | (with_reducible first | exact HB.1 | apply below_alloc | apply pw_below_drewN | apply below_drew1) | exact HB.1)) hb); clear hb hbox hg) | ((with_reducible refine gate_callee (f := 83) rfl ?_); refine goesL_ (some 11) rfl rfl Tryz.func83 (by kernel_rfl) rfl #[.complex .f64 a0.re a0.im] rfl (by (try simp only [lm_, lc_, ln_]); first | done | rfl | (simp only [List.length_drop, List.length_take]; rfl)) ?_; (with_reducible refine (curve_point.calls a0 true _ A4.1).mono ?_); rintro e w10 ⟨rfl, hb⟩; refine ⟨_, rfl, ?_⟩; replace BK111 := Ak (blk_below (g := gb111) (o := .cells #[.complex .f64 0 0, .complex .f64 0 0] 74 (0, 0)) (by (with_reducible repeat (first | refine blk_drewN ?_ _ | refine blk_drew ?_ | refine blk_alloc ?_ _)); exact BK111.1) hb); replace HB := Ak (below_step (by repeat (first | (with_reducible first | exact HB.1 | apply below_alloc | apply pw_below_drewN | apply below_drew1 | refine below_set ?_ GE111.1) | exact HB.1)) hb); (try clear hb); (try clear hb2); (try clear hk); (try clear hi)) | (go_at_call 83; (with_reducible refine (curve_point.calls a1 true _ A6.1).mono ?_); rintro e w11 ⟨rfl, hb⟩; replace BK111 := Ak (blk_below (g := gb111) (o := .cells #[.complex .f64 0 0, .complex .f64 0 0] 74 (0, 0)) (by (with_reducible repeat (first | refine blk_drewN ?_ _ | refine blk_drew ?_ | refine blk_alloc ?_ _)); exact BK111.1) hb); replace HB := Ak (below_step (by repeat (first | (with_reducible first | exact HB.1 | apply below_alloc | apply pw_below_drewN | apply below_drew1 | refine below_set ?_ GE111.1) | exact HB.1)) hb); (try clear hb); (try clear hb2); (try clear hk); (try clear hi); have hcz12_0 : w11.cell? ⟨gb111, 0, none⟩ = some (.complex .f64 0 0) := (blk_cell BK111.1 0).trans rfl; have hcz12_1 : w11.cell? ⟨gb111, 1, none⟩ = some (.complex .f64 0 0) := (blk_cell BK111.1 1).trans rfl; have hfz12_0 := blk_frozen BK111.1 0; have hfz12_1 := blk_frozen BK111.1 1))
     refine bodyPost_ret (results_ct rfl _ _ gb111 74 #[.complex .f64 0 0, .complex .f64 0 0] (0, 0) _ rfl (by (with_reducible repeat (first | refine blk_drewN ?_ _ | refine blk_drew ?_ | refine blk_alloc ?_ _)); refine blk_put (cs := #[.complex .f64 0 0, .complex .f64 0 0]) ?_ 1 _ rfl; (with_reducible repeat (first | refine blk_drewN ?_ _ | refine blk_drew ?_ | refine blk_alloc ?_ _)); refine blk_put (cs := #[.complex .f64 0 0, .complex .f64 0 0]) ?_ 0 _ rfl; (with_reducible repeat (first | refine blk_drewN ?_ _ | refine blk_drew ?_ | refine blk_alloc ?_ _)); exact BK111.1) Tryz.underlying74 rfl (by kernel_rfl)) rfl ?_
     exact ⟨by first | rfl | (simp [errW_none, errW_some] <;> rfl) | (simp [*, errW_none, errW_some] <;> rfl), by repeat (first | (with_reducible first | exact HB.1 | apply below_alloc | apply pw_below_drewN | apply below_drew1 | refine below_set ?_ GE111.1) | exact HB.1)⟩
    ·rw [if_neg c8] at H
     have c8b0 : (flt (cre .sub a1.re a1.im a0.re a0.im) 0) = false := by simpa using c8
     clear c8
     by_cases c13 : (flt (cim .sub a1.re a1.im a0.re a0.im) 0) = true
     ·rw [if_pos c13] at H
      have c13b0 : (flt (cim .sub a1.re a1.im a0.re a0.im) 0) = true := c13
      clear c13
      simp only [Option.some.injEq, Prod.mk.injEq] at H
      obtain ⟨rfl, rfl, rfl⟩ := H
      go_enter Tryz.func60, Tryz.ntmps60
      go_wp2_with (first | ((with_reducible refine gate_dst (N := 4) rfl ?_); (try (refine gate_guard (by rfl) ?_; dsimp only)); refine box_event ?hg (N := 4) ?hd (cs := #[.complex .f64 0 0, .complex .f64 0 0]) (t := 74) ?hr ?_; (case hd => rfl); (case hg => rfl); (case hr => first | (go_simp; done) | (go_simp; rfl)); intro gb111 hg w14 hbox hb; have BK111 := Ak (hbox); have GW111 := Ak ((by rw [hg]; exact (below_size (by repeat (first | (with_reducible first | exact HB.1 | apply below_alloc | apply pw_below_drewN | apply below_drew1) | exact HB.1))) : w.heap.size ≤ gb111)); have GE111 := Ak ((by rw [hg]; exact (below_size (by repeat (first | (with_reducible first | exact HB.1 | apply below_alloc | apply pw_below_drewN | apply below_drew1) | exact HB.1))) : w.heap.size ≤ gb111)); replace HB := Ak (below_step (by repeat (first | (with_reducible first | exact HB.1 | apply below_alloc | apply pw_below_drewN | apply below_drew1) | exact HB.1)) hb); clear hb hbox hg) | ((with_reducible refine gate_callee (f := 83) rfl ?_); refine goesL_ (some 11) rfl rfl Tryz.func83 (by kernel_rfl) rfl #[.complex .f64 a0.re a0.im] rfl (by (try simp only [lm_, lc_, ln_]); first | done | rfl | (simp only [List.length_drop, List.length_take]; rfl)) ?_; (with_reducible refine (curve_point.calls a0 true _ A4.1).mono ?_); rintro e w15 ⟨rfl, hb⟩; refine ⟨_, rfl, ?_⟩; replace BK111 := Ak (blk_below (g := gb111) (o := .cells #[.complex .f64 0 0, .complex .f64 0 0] 74 (0, 0)) (by (with_reducible repeat (first | refine blk_drewN ?_ _ | refine blk_drew ?_ | refine blk_alloc ?_ _)); exact BK111.1) hb); replace HB := Ak (below_step (by repeat (first | (with_reducible first | exact HB.1 | apply below_alloc | apply pw_below_drewN | apply below_drew1 | refine below_set ?_ GE111.1) | exact HB.1)) hb); (try clear hb); (try clear hb2); (try clear hk); (try clear hi)) | (go_at_call 83; (with_reducible refine (curve_point.calls a1 true _ A6.1).mono ?_); rintro e w16 ⟨rfl, hb⟩; replace BK111 := Ak (blk_below (g := gb111) (o := .cells #[.complex .f64 0 0, .complex .f64 0 0] 74 (0, 0)) (by (with_reducible repeat (first | refine blk_drewN ?_ _ | refine blk_drew ?_ | refine blk_alloc ?_ _)); exact BK111.1) hb); replace HB := Ak (below_step (by repeat (first | (with_reducible first | exact HB.1 | apply below_alloc | apply pw_below_drewN | apply below_drew1 | refine below_set ?_ GE111.1) | exact HB.1)) hb); (try clear hb); (try clear hb2); (try clear hk); (try clear hi); have hcz17_0 : w16.cell? ⟨gb111, 0, none⟩ = some (.complex .f64 0 0) := (blk_cell BK111.1 0).trans rfl; have hcz17_1 : w16.cell? ⟨gb111, 1, none⟩ = some (.complex .f64 0 0) := (blk_cell BK111.1 1).trans rfl; have hfz17_0 := blk_frozen BK111.1 0; have hfz17_1 := blk_frozen BK111.1 1))
      refine bodyPost_ret (results_ct rfl _ _ gb111 74 #[.complex .f64 0 0, .complex .f64 0 0] (0, 0) _ rfl (by (with_reducible repeat (first | refine blk_drewN ?_ _ | refine blk_drew ?_ | refine blk_alloc ?_ _)); refine blk_put (cs := #[.complex .f64 0 0, .complex .f64 0 0]) ?_ 1 _ rfl; (with_reducible repeat (first | refine blk_drewN ?_ _ | refine blk_drew ?_ | refine blk_alloc ?_ _)); refine blk_put (cs := #[.complex .f64 0 0, .complex .f64 0 0]) ?_ 0 _ rfl; (with_reducible repeat (first | refine blk_drewN ?_ _ | refine blk_drew ?_ | refine blk_alloc ?_ _)); exact BK111.1) Tryz.underlying74 rfl (by kernel_rfl)) rfl ?_
      exact ⟨by first | rfl | (simp [errW_none, errW_some] <;> rfl) | (simp [*, errW_none, errW_some] <;> rfl), by repeat (first | (with_reducible first | exact HB.1 | apply below_alloc | apply pw_below_drewN | apply below_drew1 | refine below_set ?_ GE111.1) | exact HB.1)⟩
     ·rw [if_neg c13] at H
      have c13b0 : (flt (cim .sub a1.re a1.im a0.re a0.im) 0) = false := by simpa using c13
      clear c13
      simp only [Option.some.injEq, Prod.mk.injEq] at H
      obtain ⟨rfl, rfl, rfl⟩ := H
      go_enter Tryz.func60, Tryz.ntmps60
      go_wp2_with (first | ((with_reducible refine gate_dst (N := 4) rfl ?_); (try (refine gate_guard (by rfl) ?_; dsimp only)); refine box_event ?hg (N := 4) ?hd (cs := #[.complex .f64 0 0, .complex .f64 0 0]) (t := 74) ?hr ?_; (case hd => rfl); (case hg => rfl); (case hr => first | (go_simp; done) | (go_simp; rfl)); intro gb111 hg w18 hbox hb; have BK111 := Ak (hbox); have GW111 := Ak ((by rw [hg]; exact (below_size (by repeat (first | (with_reducible first | exact HB.1 | apply below_alloc | apply pw_below_drewN | apply below_drew1) | exact HB.1))) : w.heap.size ≤ gb111)); have GE111 := Ak ((by rw [hg]; exact (below_size (by repeat (first | (with_reducible first | exact HB.1 | apply below_alloc | apply pw_below_drewN | apply below_drew1) | exact HB.1))) : w.heap.size ≤ gb111)); replace HB := Ak (below_step (by repeat (first | (with_reducible first | exact HB.1 | apply below_alloc | apply pw_below_drewN | apply below_drew1) | exact HB.1)) hb); clear hb hbox hg) | ((with_reducible refine gate_callee (f := 83) rfl ?_); refine goesL_ (some 11) rfl rfl Tryz.func83 (by kernel_rfl) rfl #[.complex .f64 a0.re a0.im] rfl (by (try simp only [lm_, lc_, ln_]); first | done | rfl | (simp only [List.length_drop, List.length_take]; rfl)) ?_; (with_reducible refine (curve_point.calls a0 true _ A4.1).mono ?_); rintro e w19 ⟨rfl, hb⟩; refine ⟨_, rfl, ?_⟩; replace BK111 := Ak (blk_below (g := gb111) (o := .cells #[.complex .f64 0 0, .complex .f64 0 0] 74 (0, 0)) (by (with_reducible repeat (first | refine blk_drewN ?_ _ | refine blk_drew ?_ | refine blk_alloc ?_ _)); exact BK111.1) hb); replace HB := Ak (below_step (by repeat (first | (with_reducible first | exact HB.1 | apply below_alloc | apply pw_below_drewN | apply below_drew1 | refine below_set ?_ GE111.1) | exact HB.1)) hb); (try clear hb); (try clear hb2); (try clear hk); (try clear hi)) | (go_at_call 83; (with_reducible refine (curve_point.calls a1 true _ A6.1).mono ?_); rintro e w20 ⟨rfl, hb⟩; replace BK111 := Ak (blk_below (g := gb111) (o := .cells #[.complex .f64 0 0, .complex .f64 0 0] 74 (0, 0)) (by (with_reducible repeat (first | refine blk_drewN ?_ _ | refine blk_drew ?_ | refine blk_alloc ?_ _)); exact BK111.1) hb); replace HB := Ak (below_step (by repeat (first | (with_reducible first | exact HB.1 | apply below_alloc | apply pw_below_drewN | apply below_drew1 | refine below_set ?_ GE111.1) | exact HB.1)) hb); (try clear hb); (try clear hb2); (try clear hk); (try clear hi); have hcz21_0 : w20.cell? ⟨gb111, 0, none⟩ = some (.complex .f64 0 0) := (blk_cell BK111.1 0).trans rfl; have hcz21_1 : w20.cell? ⟨gb111, 1, none⟩ = some (.complex .f64 0 0) := (blk_cell BK111.1 1).trans rfl; have hfz21_0 := blk_frozen BK111.1 0; have hfz21_1 := blk_frozen BK111.1 1))
      refine bodyPost_ret (results_ct rfl _ _ gb111 74 #[.complex .f64 a0.re a0.im, .complex .f64 a1.re a1.im] (0, 0) _ rfl (by (with_reducible repeat (first | refine blk_drewN ?_ _ | refine blk_drew ?_ | refine blk_alloc ?_ _)); refine blk_put (cs := #[.complex .f64 a0.re a0.im, .complex .f64 0 0]) ?_ 1 _ rfl; (with_reducible repeat (first | refine blk_drewN ?_ _ | refine blk_drew ?_ | refine blk_alloc ?_ _)); refine blk_put (cs := #[.complex .f64 0 0, .complex .f64 0 0]) ?_ 0 _ rfl; (with_reducible repeat (first | refine blk_drewN ?_ _ | refine blk_drew ?_ | refine blk_alloc ?_ _)); exact BK111.1) Tryz.underlying74 rfl (by kernel_rfl)) rfl ?_
      exact ⟨by first | rfl | (simp [errW_none, errW_some] <;> rfl) | (simp [*, errW_none, errW_some] <;> rfl), by repeat (first | (with_reducible first | exact HB.1 | apply below_alloc | apply pw_below_drewN | apply below_drew1 | refine below_set ?_ GE111.1) | exact HB.1)⟩
   ·replace c7 := Bool.eq_false_iff.mpr c7
    subst c7
    have H1 : (some ((⟨0, 0⟩ : C128), (⟨0, 0⟩ : C128), 1)) = some (r1, r2, r3) := by rw [if_neg (show ¬ (false = true) by decide)] at H; exact H
    clear H
    have H := H1
    clear H1
    simp only [Option.some.injEq, Prod.mk.injEq] at H
    obtain ⟨rfl, rfl, rfl⟩ := H
    go_enter Tryz.func60, Tryz.ntmps60
    go_wp2_with (first | ((with_reducible refine gate_dst (N := 4) rfl ?_); (try (refine gate_guard (by rfl) ?_; dsimp only)); refine box_event ?hg (N := 4) ?hd (cs := #[.complex .f64 0 0, .complex .f64 0 0]) (t := 74) ?hr ?_; (case hd => rfl); (case hg => rfl); (case hr => first | (go_simp; done) | (go_simp; rfl)); intro gb111 hg w22 hbox hb; have BK111 := Ak (hbox); have GW111 := Ak ((by rw [hg]; exact (below_size (by repeat (first | (with_reducible first | exact HB.1 | apply below_alloc | apply pw_below_drewN | apply below_drew1) | exact HB.1))) : w.heap.size ≤ gb111)); have GE111 := Ak ((by rw [hg]; exact (below_size (by repeat (first | (with_reducible first | exact HB.1 | apply below_alloc | apply pw_below_drewN | apply below_drew1) | exact HB.1))) : w.heap.size ≤ gb111)); replace HB := Ak (below_step (by repeat (first | (with_reducible first | exact HB.1 | apply below_alloc | apply pw_below_drewN | apply below_drew1) | exact HB.1)) hb); clear hb hbox hg) | ((with_reducible refine gate_callee (f := 83) rfl ?_); refine goesL_ (some 11) rfl rfl Tryz.func83 (by kernel_rfl) rfl #[.complex .f64 a0.re a0.im] rfl (by (try simp only [lm_, lc_, ln_]); first | done | rfl | (simp only [List.length_drop, List.length_take]; rfl)) ?_; (with_reducible refine (curve_point.calls a0 true _ A4.1).mono ?_); rintro e w23 ⟨rfl, hb⟩; refine ⟨_, rfl, ?_⟩; replace BK111 := Ak (blk_below (g := gb111) (o := .cells #[.complex .f64 0 0, .complex .f64 0 0] 74 (0, 0)) (by (with_reducible repeat (first | refine blk_drewN ?_ _ | refine blk_drew ?_ | refine blk_alloc ?_ _)); exact BK111.1) hb); replace HB := Ak (below_step (by repeat (first | (with_reducible first | exact HB.1 | apply below_alloc | apply pw_below_drewN | apply below_drew1 | refine below_set ?_ GE111.1) | exact HB.1)) hb); (try clear hb); (try clear hb2); (try clear hk); (try clear hi)) | (go_at_call 83; (with_reducible refine (curve_point.calls a1 false _ A6.1).mono ?_); rintro e w24 ⟨rfl, hb⟩; replace BK111 := Ak (blk_below (g := gb111) (o := .cells #[.complex .f64 0 0, .complex .f64 0 0] 74 (0, 0)) (by (with_reducible repeat (first | refine blk_drewN ?_ _ | refine blk_drew ?_ | refine blk_alloc ?_ _)); exact BK111.1) hb); replace HB := Ak (below_step (by repeat (first | (with_reducible first | exact HB.1 | apply below_alloc | apply pw_below_drewN | apply below_drew1 | refine below_set ?_ GE111.1) | exact HB.1)) hb); (try clear hb); (try clear hb2); (try clear hk); (try clear hi); have hcz25_0 : w24.cell? ⟨gb111, 0, none⟩ = some (.complex .f64 0 0) := (blk_cell BK111.1 0).trans rfl; have hcz25_1 : w24.cell? ⟨gb111, 1, none⟩ = some (.complex .f64 0 0) := (blk_cell BK111.1 1).trans rfl; have hfz25_0 := blk_frozen BK111.1 0; have hfz25_1 := blk_frozen BK111.1 1))
    refine bodyPost_ret (results_ct rfl _ _ gb111 74 #[.complex .f64 0 0, .complex .f64 0 0] (0, 0) _ rfl (by (with_reducible repeat (first | refine blk_drewN ?_ _ | refine blk_drew ?_ | refine blk_alloc ?_ _)); refine blk_put (cs := #[.complex .f64 0 0, .complex .f64 0 0]) ?_ 1 _ rfl; (with_reducible repeat (first | refine blk_drewN ?_ _ | refine blk_drew ?_ | refine blk_alloc ?_ _)); refine blk_put (cs := #[.complex .f64 0 0, .complex .f64 0 0]) ?_ 0 _ rfl; (with_reducible repeat (first | refine blk_drewN ?_ _ | refine blk_drew ?_ | refine blk_alloc ?_ _)); exact BK111.1) Tryz.underlying74 rfl (by kernel_rfl)) rfl ?_
    exact ⟨by first | rfl | (simp [errW_none, errW_some] <;> rfl) | (simp [*, errW_none, errW_some] <;> rfl), by repeat (first | (with_reducible first | exact HB.1 | apply below_alloc | apply pw_below_drewN | apply below_drew1 | refine below_set ?_ GE111.1) | exact HB.1)⟩
  ·replace c5 := Bool.eq_false_iff.mpr c5
   subst c5
   have H1 : (some ((⟨0, 0⟩ : C128), (⟨0, 0⟩ : C128), 1)) = some (r1, r2, r3) := by rw [if_neg (show ¬ (false = true) by decide)] at H; exact H
   clear H
   have H := H1
   clear H1
   simp only [Option.some.injEq, Prod.mk.injEq] at H
   obtain ⟨rfl, rfl, rfl⟩ := H
   go_enter Tryz.func60, Tryz.ntmps60
   go_wp2_with (first | ((with_reducible refine gate_dst (N := 4) rfl ?_); (try (refine gate_guard (by rfl) ?_; dsimp only)); refine box_event ?hg (N := 4) ?hd (cs := #[.complex .f64 0 0, .complex .f64 0 0]) (t := 74) ?hr ?_; (case hd => rfl); (case hg => rfl); (case hr => first | (go_simp; done) | (go_simp; rfl)); intro gb111 hg w26 hbox hb; have BK111 := Ak (hbox); have GW111 := Ak ((by rw [hg]; exact (below_size (by repeat (first | (with_reducible first | exact HB.1 | apply below_alloc | apply pw_below_drewN | apply below_drew1) | exact HB.1))) : w.heap.size ≤ gb111)); have GE111 := Ak ((by rw [hg]; exact (below_size (by repeat (first | (with_reducible first | exact HB.1 | apply below_alloc | apply pw_below_drewN | apply below_drew1) | exact HB.1))) : w.heap.size ≤ gb111)); replace HB := Ak (below_step (by repeat (first | (with_reducible first | exact HB.1 | apply below_alloc | apply pw_below_drewN | apply below_drew1) | exact HB.1)) hb); clear hb hbox hg) | ((with_reducible refine gate_callee (f := 83) rfl ?_); refine goesL_ (some 11) rfl rfl Tryz.func83 (by kernel_rfl) rfl #[.complex .f64 a0.re a0.im] rfl (by (try simp only [lm_, lc_, ln_]); first | done | rfl | (simp only [List.length_drop, List.length_take]; rfl)) ?_; (with_reducible refine (curve_point.calls a0 false _ A4.1).mono ?_); rintro e w27 ⟨rfl, hb⟩; refine ⟨_, rfl, ?_⟩; replace BK111 := Ak (blk_below (g := gb111) (o := .cells #[.complex .f64 0 0, .complex .f64 0 0] 74 (0, 0)) (by (with_reducible repeat (first | refine blk_drewN ?_ _ | refine blk_drew ?_ | refine blk_alloc ?_ _)); exact BK111.1) hb); replace HB := Ak (below_step (by repeat (first | (with_reducible first | exact HB.1 | apply below_alloc | apply pw_below_drewN | apply below_drew1 | refine below_set ?_ GE111.1) | exact HB.1)) hb); (try clear hb); (try clear hb2); (try clear hk); (try clear hi); have hcz28_0 : w27.cell? ⟨gb111, 0, none⟩ = some (.complex .f64 0 0) := (blk_cell BK111.1 0).trans rfl; have hcz28_1 : w27.cell? ⟨gb111, 1, none⟩ = some (.complex .f64 0 0) := (blk_cell BK111.1 1).trans rfl; have hfz28_0 := blk_frozen BK111.1 0; have hfz28_1 := blk_frozen BK111.1 1))
   refine bodyPost_ret (results_ct rfl _ _ gb111 74 #[.complex .f64 0 0, .complex .f64 0 0] (0, 0) _ rfl (by (with_reducible repeat (first | refine blk_drewN ?_ _ | refine blk_drew ?_ | refine blk_alloc ?_ _)); refine blk_put (cs := #[.complex .f64 0 0, .complex .f64 0 0]) ?_ 1 _ rfl; (with_reducible repeat (first | refine blk_drewN ?_ _ | refine blk_drew ?_ | refine blk_alloc ?_ _)); refine blk_put (cs := #[.complex .f64 0 0, .complex .f64 0 0]) ?_ 0 _ rfl; (with_reducible repeat (first | refine blk_drewN ?_ _ | refine blk_drew ?_ | refine blk_alloc ?_ _)); exact BK111.1) Tryz.underlying74 rfl (by kernel_rfl)) rfl ?_
   exact ⟨by first | rfl | (simp [errW_none, errW_some] <;> rfl) | (simp [*, errW_none, errW_some] <;> rfl), by repeat (first | (with_reducible first | exact HB.1 | apply below_alloc | apply pw_below_drewN | apply below_drew1 | refine below_set ?_ GE111.1) | exact HB.1)⟩
 ·rw [if_neg c3] at H
  exact absurd H (by simp)
def amount_within.f (a0 a1 a2 : Int) : Option (Bool) := if a0 ≥ a1 then (some (decide (a0 ≤ a2))) else (some false)
set_option maxHeartbeats 8000000 in
set_option maxRecDepth 100000 in
theorem amount_within.calls (a0 a1 a2 : Int) (r : Bool) (w : World) (h : amount_within.f a0 a1 a2 = some r) :
 Calls Tryz.prog 64 #[.int .i64 a0, .int .i64 a1, .int .i64 a2] w fun e w' => e = .returned (.bool r) ∧ Drawn0 w w' := by
 have H : (if a0 ≥ a1 then (some (decide (a0 ≤ a2))) else (some false)) = some r := h
 clear h
 by_cases c4 : a0 ≥ a1
 ·rw [if_pos c4] at H
  have c4b0 : decide (a1 ≤ a0) = true := decide_eq_true c4
  clear c4
  obtain rfl := Option.some.inj H
  go_enter Tryz.func64, Tryz.ntmps64
  go_wp2
  go_ret
  exact ⟨by first | rfl | (simp; done) | (simp [*]; done), by repeat (first | exact Drawn0.refl _ | apply Drawn0.step)⟩
 ·rw [if_neg c4] at H
  have c4b0 : decide (a1 ≤ a0) = false := decide_eq_false c4
  clear c4
  obtain rfl := Option.some.inj H
  go_enter Tryz.func64, Tryz.ntmps64
  go_wp2
  go_ret
  exact ⟨by first | rfl | (simp; done) | (simp [*]; done), by repeat (first | exact Drawn0.refl _ | apply Drawn0.step)⟩
def amount_Valid.f (a0 : Int) : Option (Bool) := if a0 ≥ 0 then (some (decide (a0 ≤ 2100000000000000))) else (some false)
set_option maxHeartbeats 8000000 in
set_option maxRecDepth 100000 in
theorem amount_Valid.calls (a0 : Int) (r : Bool) (w : World) (h : amount_Valid.f a0 = some r) :
 Calls Tryz.prog 85 #[.int .i64 a0] w fun e w' => e = .returned (.bool r) ∧ Drawn0 w w' := by
 have H : (if a0 ≥ 0 then (some (decide (a0 ≤ 2100000000000000))) else (some false)) = some r := h
 clear h
 by_cases c2 : a0 ≥ 0
 ·rw [if_pos c2] at H
  have c2b0 : decide (0 ≤ a0) = true := decide_eq_true c2
  clear c2
  obtain rfl := Option.some.inj H
  go_enter Tryz.func85, Tryz.ntmps85
  go_wp2
  go_ret
  exact ⟨by first | rfl | (simp; done) | (simp [*]; done), by repeat (first | exact Drawn0.refl _ | apply Drawn0.step)⟩
 ·rw [if_neg c2] at H
  have c2b0 : decide (0 ≤ a0) = false := decide_eq_false c2
  clear c2
  obtain rfl := Option.some.inj H
  go_enter Tryz.func85, Tryz.ntmps85
  go_wp2
  go_ret
  exact ⟨by first | rfl | (simp; done) | (simp [*]; done), by repeat (first | exact Drawn0.refl _ | apply Drawn0.step)⟩
def amount_Rate.f (a0 a1 : Int) : Option (Int × Int) := (amount_Valid.f a0).bind fun t114 => (if t114 = true then ((amount_within.f a1 1 4000000).bind fun t115 => (if t115 = true then (if a1 = 0 then (none) else (some (mn (wrap64 (Int.tdiv (wrap64 (a0 * 1000)) a1)) 1000000000, 0))) else (some (0, 11)))) else (some (0, 11)))
set_option maxHeartbeats 8000000 in
set_option maxRecDepth 100000 in
theorem amount_Rate.calls (a0 a1 r1 r2 : Int) (w : World) (h : amount_Rate.f a0 a1 = some (r1, r2)) :
 Calls Tryz.prog 82 #[.int .i64 a0, .int .i64 a1] w fun e w' => e = .returned (.tuple #[.int .i64 r1, .int .i64 r2]) ∧ Below w.heap.size w w' := by
 have HB := Ak (Below.refl w.heap.size w)
 have H : ((amount_Valid.f a0).bind fun t114 => (if t114 = true then ((amount_within.f a1 1 4000000).bind fun t115 => (if t115 = true then (if a1 = 0 then (none) else (some (mn (wrap64 (Int.tdiv (wrap64 (a0 * 1000)) a1)) 1000000000, 0))) else (some (0, 11)))) else (some (0, 11)))) = some (r1, r2) := h
 clear h
 replace H := Option.bind_eq_some_iff.mp H
 obtain ⟨t114, A30, H⟩ := H
 replace H : (if t114 = true then ((amount_within.f a1 1 4000000).bind fun t115 => (if t115 = true then (if a1 = 0 then (none) else (some (mn (wrap64 (Int.tdiv (wrap64 (a0 * 1000)) a1)) 1000000000, 0))) else (some (0, 11)))) else (some (0, 11))) = some (r1, r2) := H
 have A3 := Ak A30
 clear A30
 by_cases c4 : t114 = true
 ·subst c4
  have H1 : ((amount_within.f a1 1 4000000).bind fun t115 => (if t115 = true then (if a1 = 0 then (none) else (some (mn (wrap64 (Int.tdiv (wrap64 (a0 * 1000)) a1)) 1000000000, 0))) else (some (0, 11)))) = some (r1, r2) := by rw [if_pos rfl] at H; exact H
  clear H
  have H := H1
  clear H1
  replace H := Option.bind_eq_some_iff.mp H
  obtain ⟨t115, A50, H⟩ := H
  replace H : (if t115 = true then (if a1 = 0 then (none) else (some (mn (wrap64 (Int.tdiv (wrap64 (a0 * 1000)) a1)) 1000000000, 0))) else (some (0, 11))) = some (r1, r2) := H
  have A5 := Ak A50
  clear A50
  by_cases c6 : t115 = true
  ·subst c6
   have H1 : (if a1 = 0 then (none) else (some (mn (wrap64 (Int.tdiv (wrap64 (a0 * 1000)) a1)) 1000000000, 0))) = some (r1, r2) := by rw [if_pos rfl] at H; exact H
   clear H
   have H := H1
   clear H1
   by_cases c7 : a1 = 0
   ·rw [if_pos c7] at H
    exact absurd H (by simp)
   ·rw [if_neg c7] at H
    have c7b0 : (a1 == 0) = false := beq_eq_false_iff_ne.mpr c7
    have c7b1 : (a1 != 0) = true := bne_iff_ne.mpr c7
    obtain ⟨ji8, hji8⟩ : ∃ j_ : Int, (mn (wrap64 (Int.tdiv (wrap64 (a0 * 1000)) a1)) 1000000000) = j_ := ⟨_, rfl⟩
    replace H : (some (ji8, 0)) = some (r1, r2) := by first | (rw [hji8] at H; exact H) | (simp only [hji8] at H ⊢; exact H)
    (try rw [hji8] at A3)
    (try rw [hji8] at A5)
    (try (have hji8h : ji8 ≤ 1000000000 := by (rw [← hji8]; unfold mn; (repeat' split) <;> omega)))
    (try (have hji8g : ji8 ≤ 64 := by omega))
    have hji8_ : (if 1000000000 < (wrap64 (Int.tdiv (wrap64 (a0 * 1000)) a1)) then 1000000000 else (wrap64 (Int.tdiv (wrap64 (a0 * 1000)) a1))) = ji8 := hji8
    simp only [Option.some.injEq, Prod.mk.injEq] at H
    obtain ⟨rfl, rfl⟩ := H
    go_enter Tryz.func82, Tryz.ntmps82
    go_wp2_with (first | ((with_reducible refine gate_callee (f := 85) rfl ?_); refine goesL_ (some 7) rfl rfl Tryz.func85 (by kernel_rfl) rfl #[.int .i64 a0] rfl (by (try simp only [lm_, lc_, ln_]); first | done | rfl | (simp only [List.length_drop, List.length_take]; rfl)) ?_; (with_reducible refine (amount_Valid.calls a0 true _ A3.1).mono ?_); rintro e w' ⟨rfl, ⟨nd, rfl⟩⟩; refine ⟨_, rfl, ?_⟩) | (go_at_call 64; (with_reducible refine (amount_within.calls a1 1 4000000 true _ A5.1).mono ?_); rintro e w' ⟨rfl, ⟨nd, rfl⟩⟩))
    go_ret2
    exact ⟨by first | rfl | (simp [errW_none, errW_some] <;> rfl) | (simp only [← hji8]; first | rfl | (simp [errW_none, errW_some] <;> rfl)) | (simp [*, errW_none, errW_some] <;> rfl), by repeat (first | (with_reducible first | exact HB.1 | apply below_alloc | apply pw_below_drewN | apply below_drew1) | exact HB.1)⟩
  ·replace c6 := Bool.eq_false_iff.mpr c6
   subst c6
   have H1 : (some (0, 11)) = some (r1, r2) := by rw [if_neg (show ¬ (false = true) by decide)] at H; exact H
   clear H
   have H := H1
   clear H1
   simp only [Option.some.injEq, Prod.mk.injEq] at H
   obtain ⟨rfl, rfl⟩ := H
   go_enter Tryz.func82, Tryz.ntmps82
   go_wp2_with (first | ((with_reducible refine gate_callee (f := 85) rfl ?_); refine goesL_ (some 7) rfl rfl Tryz.func85 (by kernel_rfl) rfl #[.int .i64 a0] rfl (by (try simp only [lm_, lc_, ln_]); first | done | rfl | (simp only [List.length_drop, List.length_take]; rfl)) ?_; (with_reducible refine (amount_Valid.calls a0 true _ A3.1).mono ?_); rintro e w' ⟨rfl, ⟨nd, rfl⟩⟩; refine ⟨_, rfl, ?_⟩) | (go_at_call 64; (with_reducible refine (amount_within.calls a1 1 4000000 false _ A5.1).mono ?_); rintro e w' ⟨rfl, ⟨nd, rfl⟩⟩))
   go_ret2
   exact ⟨by first | rfl | (simp [errW_none, errW_some] <;> rfl) | (simp [*, errW_none, errW_some] <;> rfl), by repeat (first | (with_reducible first | exact HB.1 | apply below_alloc | apply pw_below_drewN | apply below_drew1) | exact HB.1)⟩
 ·replace c4 := Bool.eq_false_iff.mpr c4
  subst c4
  have H1 : (some (0, 11)) = some (r1, r2) := by rw [if_neg (show ¬ (false = true) by decide)] at H; exact H
  clear H
  have H := H1
  clear H1
  simp only [Option.some.injEq, Prod.mk.injEq] at H
  obtain ⟨rfl, rfl⟩ := H
  go_enter Tryz.func82, Tryz.ntmps82
  go_wp2_with (first | ((with_reducible refine gate_callee (f := 85) rfl ?_); refine goesL_ (some 7) rfl rfl Tryz.func85 (by kernel_rfl) rfl #[.int .i64 a0] rfl (by (try simp only [lm_, lc_, ln_]); first | done | rfl | (simp only [List.length_drop, List.length_take]; rfl)) ?_; (with_reducible refine (amount_Valid.calls a0 false _ A3.1).mono ?_); rintro e w' ⟨rfl, ⟨nd, rfl⟩⟩; refine ⟨_, rfl, ?_⟩))
  go_ret2
  exact ⟨by first | rfl | (simp [errW_none, errW_some] <;> rfl) | (simp [*, errW_none, errW_some] <;> rfl), by repeat (first | (with_reducible first | exact HB.1 | apply below_alloc | apply pw_below_drewN | apply below_drew1) | exact HB.1)⟩
def curve_Of.f (a0 a1 a2 a3 : Int) : Option (C128 × C128 × Int) := (amount_Rate.f a2 a3).bind fun bt117 => (if a0 ≥ 0 then (if a0 ≤ 1000000 then (if a1 ≥ 0 then (if a1 ≤ 1000000 then (if a3 > 4000000 then (some ((⟨0, 0⟩ : C128), (⟨0, 0⟩ : C128), 1)) else (if bt117.2 = 0 then (if bt117.1 < 253 then (some ((⟨0, 0⟩ : C128), (⟨0, 0⟩ : C128), 1)) else ((curve_Line.f (⟨(fint a0), 4643105662702714880⟩ : C128) (⟨(fint (mx a0 a1)), (fint bt117.1)⟩ : C128)).bind fun bt119 => (some (bt119.1, bt119.2.1, bt119.2.2)))) else (some ((⟨0, 0⟩ : C128), (⟨0, 0⟩ : C128), 1)))) else (some ((⟨0, 0⟩ : C128), (⟨0, 0⟩ : C128), 1))) else (some ((⟨0, 0⟩ : C128), (⟨0, 0⟩ : C128), 1))) else (some ((⟨0, 0⟩ : C128), (⟨0, 0⟩ : C128), 1))) else (some ((⟨0, 0⟩ : C128), (⟨0, 0⟩ : C128), 1)))
set_option maxHeartbeats 8000000 in
set_option maxRecDepth 100000 in
theorem curve_Of.calls (a0 a1 a2 a3 : Int) (r1 : C128) (r2 : C128) (r3 : Int) (w : World) (h : curve_Of.f a0 a1 a2 a3 = some (r1, r2, r3)) :
 Calls Tryz.prog 56 #[.int .i64 a0, .int .i64 a1, .int .i64 a2, .int .i64 a3] w fun e w' => e = .returned (.tuple #[.agg #[.complex .f64 r1.re r1.im, .complex .f64 r2.re r2.im], .int .i64 r3]) ∧ Below w.heap.size w w' := by
 have hu74 := Tryz.underlying74
 have HB := Ak (Below.refl w.heap.size w)
 have H : ((amount_Rate.f a2 a3).bind fun bt117 => (if a0 ≥ 0 then (if a0 ≤ 1000000 then (if a1 ≥ 0 then (if a1 ≤ 1000000 then (if a3 > 4000000 then (some ((⟨0, 0⟩ : C128), (⟨0, 0⟩ : C128), 1)) else (if bt117.2 = 0 then (if bt117.1 < 253 then (some ((⟨0, 0⟩ : C128), (⟨0, 0⟩ : C128), 1)) else ((curve_Line.f (⟨(fint a0), 4643105662702714880⟩ : C128) (⟨(fint (mx a0 a1)), (fint bt117.1)⟩ : C128)).bind fun bt119 => (some (bt119.1, bt119.2.1, bt119.2.2)))) else (some ((⟨0, 0⟩ : C128), (⟨0, 0⟩ : C128), 1)))) else (some ((⟨0, 0⟩ : C128), (⟨0, 0⟩ : C128), 1))) else (some ((⟨0, 0⟩ : C128), (⟨0, 0⟩ : C128), 1))) else (some ((⟨0, 0⟩ : C128), (⟨0, 0⟩ : C128), 1))) else (some ((⟨0, 0⟩ : C128), (⟨0, 0⟩ : C128), 1)))) = some (r1, r2, r3) := h
 clear h
 replace H := Option.bind_eq_some_iff.mp H
 obtain ⟨⟨t117, t118⟩, A50, H⟩ := H
 replace H : (if a0 ≥ 0 then (if a0 ≤ 1000000 then (if a1 ≥ 0 then (if a1 ≤ 1000000 then (if a3 > 4000000 then (some ((⟨0, 0⟩ : C128), (⟨0, 0⟩ : C128), 1)) else (if t118 = 0 then (if t117 < 253 then (some ((⟨0, 0⟩ : C128), (⟨0, 0⟩ : C128), 1)) else ((curve_Line.f (⟨(fint a0), 4643105662702714880⟩ : C128) (⟨(fint (mx a0 a1)), (fint t117)⟩ : C128)).bind fun bt119 => (some (bt119.1, bt119.2.1, bt119.2.2)))) else (some ((⟨0, 0⟩ : C128), (⟨0, 0⟩ : C128), 1)))) else (some ((⟨0, 0⟩ : C128), (⟨0, 0⟩ : C128), 1))) else (some ((⟨0, 0⟩ : C128), (⟨0, 0⟩ : C128), 1))) else (some ((⟨0, 0⟩ : C128), (⟨0, 0⟩ : C128), 1))) else (some ((⟨0, 0⟩ : C128), (⟨0, 0⟩ : C128), 1))) = some (r1, r2, r3) := H
 have A5 := Ak A50
 clear A50
 by_cases c6 : a0 ≥ 0
 ·rw [if_pos c6] at H
  have c6b0 : decide (0 ≤ a0) = true := decide_eq_true c6
  clear c6
  by_cases c7 : a0 ≤ 1000000
  ·rw [if_pos c7] at H
   have c7b0 : decide (a0 ≤ 1000000) = true := decide_eq_true c7
   clear c7
   by_cases c8 : a1 ≥ 0
   ·rw [if_pos c8] at H
    have c8b0 : decide (0 ≤ a1) = true := decide_eq_true c8
    clear c8
    by_cases c9 : a1 ≤ 1000000
    ·rw [if_pos c9] at H
     have c9b0 : decide (a1 ≤ 1000000) = true := decide_eq_true c9
     clear c9
     by_cases c10 : a3 > 4000000
     ·rw [if_pos c10] at H
      have c10b0 : decide (4000000 < a3) = true := decide_eq_true c10
      clear c10
      simp only [Option.some.injEq, Prod.mk.injEq] at H
      obtain ⟨rfl, rfl, rfl⟩ := H
      go_enter Tryz.func56, Tryz.ntmps56
      go_wp2_with (first | ((with_reducible refine gate_dst (N := 8) rfl ?_); refine box_event ?hg (N := 8) ?hd (cs := #[.complex .f64 0 0, .complex .f64 0 0]) (t := 74) ?hr ?_; (case hd => rfl); (case hg => rfl); (case hr => first | (go_simp; done) | (go_simp; rfl)); intro gb116 hg w11 hbox hb; have BK116 := Ak (hbox); have GW116 := Ak ((by rw [hg]; exact (below_size (by repeat (first | (with_reducible first | exact HB.1 | apply below_alloc | apply pw_below_drewN | apply below_drew1) | exact HB.1))) : w.heap.size ≤ gb116)); have GE116 := Ak ((by rw [hg]; exact (below_size (by repeat (first | (with_reducible first | exact HB.1 | apply below_alloc | apply pw_below_drewN | apply below_drew1) | exact HB.1))) : w.heap.size ≤ gb116)); replace HB := Ak (below_step (by repeat (first | (with_reducible first | exact HB.1 | apply below_alloc | apply pw_below_drewN | apply below_drew1) | exact HB.1)) hb); clear hb hbox hg) | ((with_reducible refine gate_callee (f := 82) rfl ?_); refine goesL_ (some 16) rfl rfl Tryz.func82 (by kernel_rfl) rfl #[.int .i64 a2, .int .i64 a3] rfl (by (try simp only [lm_, lc_, ln_]); first | done | rfl | (simp only [List.length_drop, List.length_take]; rfl)) ?_; (with_reducible refine (amount_Rate.calls a2 a3 t117 t118 _ A5.1).mono ?_); rintro e w12 ⟨rfl, hb⟩; refine ⟨_, rfl, ?_⟩; replace BK116 := Ak (blk_below (g := gb116) (o := .cells #[.complex .f64 0 0, .complex .f64 0 0] 74 (0, 0)) (by (with_reducible repeat (first | refine blk_drewN ?_ _ | refine blk_drew ?_ | refine blk_alloc ?_ _)); exact BK116.1) hb); replace HB := Ak (below_step (by repeat (first | (with_reducible first | exact HB.1 | apply below_alloc | apply pw_below_drewN | apply below_drew1 | refine below_set ?_ GE116.1) | exact HB.1)) hb); (try clear hb); (try clear hb2); (try clear hk); (try clear hi); have hcz13_0 : w12.cell? ⟨gb116, 0, none⟩ = some (.complex .f64 0 0) := (blk_cell BK116.1 0).trans rfl; have hcz13_1 : w12.cell? ⟨gb116, 1, none⟩ = some (.complex .f64 0 0) := (blk_cell BK116.1 1).trans rfl; have hfz13_0 := blk_frozen BK116.1 0; have hfz13_1 := blk_frozen BK116.1 1))
      refine bodyPost_ret (results_ct rfl _ _ gb116 74 #[.complex .f64 0 0, .complex .f64 0 0] (0, 0) _ rfl (by (with_reducible repeat (first | refine blk_drewN ?_ _ | refine blk_drew ?_ | refine blk_alloc ?_ _)); refine blk_put (cs := #[.complex .f64 0 0, .complex .f64 0 0]) ?_ 1 _ rfl; (with_reducible repeat (first | refine blk_drewN ?_ _ | refine blk_drew ?_ | refine blk_alloc ?_ _)); refine blk_put (cs := #[.complex .f64 0 0, .complex .f64 0 0]) ?_ 0 _ rfl; (with_reducible repeat (first | refine blk_drewN ?_ _ | refine blk_drew ?_ | refine blk_alloc ?_ _)); exact BK116.1) Tryz.underlying74 rfl (by kernel_rfl)) rfl ?_
      exact ⟨by first | rfl | (simp [errW_none, errW_some] <;> rfl) | (simp [*, errW_none, errW_some] <;> rfl), by repeat (first | (with_reducible first | exact HB.1 | apply below_alloc | apply pw_below_drewN | apply below_drew1 | refine below_set ?_ GE116.1) | exact HB.1)⟩
     ·rw [if_neg c10] at H
      have c10b0 : decide (4000000 < a3) = false := decide_eq_false c10
      clear c10
      by_cases c14 : t118 = 0
      ·rw [if_pos c14] at H
       have c14b0 : (t118 == 0) = true := beq_iff_eq.mpr c14
       have c14b1 : (t118 != 0) = false := bne_eq_false_iff_eq.mpr c14
       clear c14
       by_cases c15 : t117 < 253
       ·rw [if_pos c15] at H
        have c15b0 : decide (t117 < 253) = true := decide_eq_true c15
        clear c15
        simp only [Option.some.injEq, Prod.mk.injEq] at H
        obtain ⟨rfl, rfl, rfl⟩ := H
        go_enter Tryz.func56, Tryz.ntmps56
        go_wp2_with (first | ((with_reducible refine gate_dst (N := 8) rfl ?_); refine box_event ?hg (N := 8) ?hd (cs := #[.complex .f64 0 0, .complex .f64 0 0]) (t := 74) ?hr ?_; (case hd => rfl); (case hg => rfl); (case hr => first | (go_simp; done) | (go_simp; rfl)); intro gb116 hg w16 hbox hb; have BK116 := Ak (hbox); have GW116 := Ak ((by rw [hg]; exact (below_size (by repeat (first | (with_reducible first | exact HB.1 | apply below_alloc | apply pw_below_drewN | apply below_drew1) | exact HB.1))) : w.heap.size ≤ gb116)); have GE116 := Ak ((by rw [hg]; exact (below_size (by repeat (first | (with_reducible first | exact HB.1 | apply below_alloc | apply pw_below_drewN | apply below_drew1) | exact HB.1))) : w.heap.size ≤ gb116)); replace HB := Ak (below_step (by repeat (first | (with_reducible first | exact HB.1 | apply below_alloc | apply pw_below_drewN | apply below_drew1) | exact HB.1)) hb); clear hb hbox hg) | ((with_reducible refine gate_callee (f := 82) rfl ?_); refine goesL_ (some 16) rfl rfl Tryz.func82 (by kernel_rfl) rfl #[.int .i64 a2, .int .i64 a3] rfl (by (try simp only [lm_, lc_, ln_]); first | done | rfl | (simp only [List.length_drop, List.length_take]; rfl)) ?_; (with_reducible refine (amount_Rate.calls a2 a3 t117 t118 _ A5.1).mono ?_); rintro e w17 ⟨rfl, hb⟩; refine ⟨_, rfl, ?_⟩; replace BK116 := Ak (blk_below (g := gb116) (o := .cells #[.complex .f64 0 0, .complex .f64 0 0] 74 (0, 0)) (by (with_reducible repeat (first | refine blk_drewN ?_ _ | refine blk_drew ?_ | refine blk_alloc ?_ _)); exact BK116.1) hb); replace HB := Ak (below_step (by repeat (first | (with_reducible first | exact HB.1 | apply below_alloc | apply pw_below_drewN | apply below_drew1 | refine below_set ?_ GE116.1) | exact HB.1)) hb); (try clear hb); (try clear hb2); (try clear hk); (try clear hi); have hcz18_0 : w17.cell? ⟨gb116, 0, none⟩ = some (.complex .f64 0 0) := (blk_cell BK116.1 0).trans rfl; have hcz18_1 : w17.cell? ⟨gb116, 1, none⟩ = some (.complex .f64 0 0) := (blk_cell BK116.1 1).trans rfl; have hfz18_0 := blk_frozen BK116.1 0; have hfz18_1 := blk_frozen BK116.1 1))
        refine bodyPost_ret (results_ct rfl _ _ gb116 74 #[.complex .f64 0 0, .complex .f64 0 0] (0, 0) _ rfl (by (with_reducible repeat (first | refine blk_drewN ?_ _ | refine blk_drew ?_ | refine blk_alloc ?_ _)); refine blk_put (cs := #[.complex .f64 0 0, .complex .f64 0 0]) ?_ 1 _ rfl; (with_reducible repeat (first | refine blk_drewN ?_ _ | refine blk_drew ?_ | refine blk_alloc ?_ _)); refine blk_put (cs := #[.complex .f64 0 0, .complex .f64 0 0]) ?_ 0 _ rfl; (with_reducible repeat (first | refine blk_drewN ?_ _ | refine blk_drew ?_ | refine blk_alloc ?_ _)); exact BK116.1) Tryz.underlying74 rfl (by kernel_rfl)) rfl ?_
        exact ⟨by first | rfl | (simp [errW_none, errW_some] <;> rfl) | (simp [*, errW_none, errW_some] <;> rfl), by repeat (first | (with_reducible first | exact HB.1 | apply below_alloc | apply pw_below_drewN | apply below_drew1 | refine below_set ?_ GE116.1) | exact HB.1)⟩
       ·rw [if_neg c15] at H
        have c15b0 : decide (t117 < 253) = false := decide_eq_false c15
        clear c15
        obtain ⟨ji19, hji19⟩ : ∃ j_ : Int, (mx a0 a1) = j_ := ⟨_, rfl⟩
        replace H : ((curve_Line.f (⟨(fint a0), 4643105662702714880⟩ : C128) (⟨(fint (ji19)), (fint t117)⟩ : C128)).bind fun bt119 => (some (bt119.1, bt119.2.1, bt119.2.2))) = some (r1, r2, r3) := by first | (rw [hji19] at H; exact H) | (simp only [hji19] at H ⊢; exact H)
        (try rw [hji19] at A5)
        have hji19_ : (if a0 < a1 then a1 else a0) = ji19 := hji19
        replace H := Option.bind_eq_some_iff.mp H
        obtain ⟨⟨t119, t120, t121⟩, A200, H⟩ := H
        replace H : (some (t119, t120, t121)) = some (r1, r2, r3) := H
        have A20 := Ak A200
        clear A200
        simp only [Option.some.injEq, Prod.mk.injEq] at H
        obtain ⟨rfl, rfl, rfl⟩ := H
        go_enter Tryz.func56, Tryz.ntmps56
        go_wp2_with (first | ((with_reducible refine gate_dst (N := 8) rfl ?_); refine box_event ?hg (N := 8) ?hd (cs := #[.complex .f64 0 0, .complex .f64 0 0]) (t := 74) ?hr ?_; (case hd => rfl); (case hg => rfl); (case hr => first | (go_simp; done) | (go_simp; rfl)); intro gb116 hg w21 hbox hb; have BK116 := Ak (hbox); have GW116 := Ak ((by rw [hg]; exact (below_size (by repeat (first | (with_reducible first | exact HB.1 | apply below_alloc | apply pw_below_drewN | apply below_drew1) | exact HB.1))) : w.heap.size ≤ gb116)); have GE116 := Ak ((by rw [hg]; exact (below_size (by repeat (first | (with_reducible first | exact HB.1 | apply below_alloc | apply pw_below_drewN | apply below_drew1) | exact HB.1))) : w.heap.size ≤ gb116)); replace HB := Ak (below_step (by repeat (first | (with_reducible first | exact HB.1 | apply below_alloc | apply pw_below_drewN | apply below_drew1) | exact HB.1)) hb); clear hb hbox hg) | ((with_reducible refine gate_callee (f := 82) rfl ?_); refine goesL_ (some 16) rfl rfl Tryz.func82 (by kernel_rfl) rfl #[.int .i64 a2, .int .i64 a3] rfl (by (try simp only [lm_, lc_, ln_]); first | done | rfl | (simp only [List.length_drop, List.length_take]; rfl)) ?_; (with_reducible refine (amount_Rate.calls a2 a3 t117 t118 _ A5.1).mono ?_); rintro e w22 ⟨rfl, hb⟩; refine ⟨_, rfl, ?_⟩; replace BK116 := Ak (blk_below (g := gb116) (o := .cells #[.complex .f64 0 0, .complex .f64 0 0] 74 (0, 0)) (by (with_reducible repeat (first | refine blk_drewN ?_ _ | refine blk_drew ?_ | refine blk_alloc ?_ _)); exact BK116.1) hb); replace HB := Ak (below_step (by repeat (first | (with_reducible first | exact HB.1 | apply below_alloc | apply pw_below_drewN | apply below_drew1 | refine below_set ?_ GE116.1) | exact HB.1)) hb); (try clear hb); (try clear hb2); (try clear hk); (try clear hi)) | ((with_reducible refine gate_callee (f := 60) rfl ?_); refine goesL_ (some 58) rfl rfl Tryz.func60 (by kernel_rfl) rfl #[.complex .f64 (fint a0) 4643105662702714880, .complex .f64 (fint (ji19)) (fint t117)] rfl (by (try simp only [lm_, lc_, ln_]); first | done | (simp only [hji19]; rfl) | rfl | (simp only [List.length_drop, List.length_take]; rfl)) ?_; (with_reducible refine (curve_Line.calls (⟨(fint a0), 4643105662702714880⟩ : C128) (⟨(fint (ji19)), (fint t117)⟩ : C128) t119 t120 t121 _ A20.1).mono ?_); rintro e w23 ⟨rfl, hb⟩; refine ⟨_, rfl, ?_⟩; replace BK116 := Ak (blk_below (g := gb116) (o := .cells #[.complex .f64 0 0, .complex .f64 0 0] 74 (0, 0)) (by (with_reducible repeat (first | refine blk_drewN ?_ _ | refine blk_drew ?_ | refine blk_alloc ?_ _)); exact BK116.1) hb); replace HB := Ak (below_step (by repeat (first | (with_reducible first | exact HB.1 | apply below_alloc | apply pw_below_drewN | apply below_drew1 | refine below_set ?_ GE116.1) | exact HB.1)) hb); (try clear hb); (try clear hb2); (try clear hk); (try clear hi); have hcz24_0 : w23.cell? ⟨gb116, 0, none⟩ = some (.complex .f64 0 0) := (blk_cell BK116.1 0).trans rfl; have hcz24_1 : w23.cell? ⟨gb116, 1, none⟩ = some (.complex .f64 0 0) := (blk_cell BK116.1 1).trans rfl; have hfz24_0 := blk_frozen BK116.1 0; have hfz24_1 := blk_frozen BK116.1 1))
        refine bodyPost_ret (results_ct rfl _ _ gb116 74 #[.complex .f64 t119.re t119.im, .complex .f64 t120.re t120.im] (0, 0) _ rfl (by (with_reducible repeat (first | refine blk_drewN ?_ _ | refine blk_drew ?_ | refine blk_alloc ?_ _)); refine blk_put (cs := #[.complex .f64 t119.re t119.im, .complex .f64 0 0]) ?_ 1 _ rfl; (with_reducible repeat (first | refine blk_drewN ?_ _ | refine blk_drew ?_ | refine blk_alloc ?_ _)); refine blk_put (cs := #[.complex .f64 0 0, .complex .f64 0 0]) ?_ 0 _ rfl; (with_reducible repeat (first | refine blk_drewN ?_ _ | refine blk_drew ?_ | refine blk_alloc ?_ _)); exact BK116.1) Tryz.underlying74 rfl (by kernel_rfl)) rfl ?_
        exact ⟨by first | rfl | (simp [errW_none, errW_some] <;> rfl) | (simp only [← hji19]; first | rfl | (simp [errW_none, errW_some] <;> rfl)) | (simp [*, errW_none, errW_some] <;> rfl), by repeat (first | (with_reducible first | exact HB.1 | apply below_alloc | apply pw_below_drewN | apply below_drew1 | refine below_set ?_ GE116.1) | exact HB.1)⟩
      ·rw [if_neg c14] at H
       have c14b0 : (t118 == 0) = false := beq_eq_false_iff_ne.mpr c14
       have c14b1 : (t118 != 0) = true := bne_iff_ne.mpr c14
       simp only [Option.some.injEq, Prod.mk.injEq] at H
       obtain ⟨rfl, rfl, rfl⟩ := H
       go_enter Tryz.func56, Tryz.ntmps56
       go_wp2_with (first | ((with_reducible refine gate_dst (N := 8) rfl ?_); refine box_event ?hg (N := 8) ?hd (cs := #[.complex .f64 0 0, .complex .f64 0 0]) (t := 74) ?hr ?_; (case hd => rfl); (case hg => rfl); (case hr => first | (go_simp; done) | (go_simp; rfl)); intro gb116 hg w25 hbox hb; have BK116 := Ak (hbox); have GW116 := Ak ((by rw [hg]; exact (below_size (by repeat (first | (with_reducible first | exact HB.1 | apply below_alloc | apply pw_below_drewN | apply below_drew1) | exact HB.1))) : w.heap.size ≤ gb116)); have GE116 := Ak ((by rw [hg]; exact (below_size (by repeat (first | (with_reducible first | exact HB.1 | apply below_alloc | apply pw_below_drewN | apply below_drew1) | exact HB.1))) : w.heap.size ≤ gb116)); replace HB := Ak (below_step (by repeat (first | (with_reducible first | exact HB.1 | apply below_alloc | apply pw_below_drewN | apply below_drew1) | exact HB.1)) hb); clear hb hbox hg) | ((with_reducible refine gate_callee (f := 82) rfl ?_); refine goesL_ (some 16) rfl rfl Tryz.func82 (by kernel_rfl) rfl #[.int .i64 a2, .int .i64 a3] rfl (by (try simp only [lm_, lc_, ln_]); first | done | rfl | (simp only [List.length_drop, List.length_take]; rfl)) ?_; (with_reducible refine (amount_Rate.calls a2 a3 t117 t118 _ A5.1).mono ?_); rintro e w26 ⟨rfl, hb⟩; refine ⟨_, rfl, ?_⟩; replace BK116 := Ak (blk_below (g := gb116) (o := .cells #[.complex .f64 0 0, .complex .f64 0 0] 74 (0, 0)) (by (with_reducible repeat (first | refine blk_drewN ?_ _ | refine blk_drew ?_ | refine blk_alloc ?_ _)); exact BK116.1) hb); replace HB := Ak (below_step (by repeat (first | (with_reducible first | exact HB.1 | apply below_alloc | apply pw_below_drewN | apply below_drew1 | refine below_set ?_ GE116.1) | exact HB.1)) hb); (try clear hb); (try clear hb2); (try clear hk); (try clear hi); have hcz27_0 : w26.cell? ⟨gb116, 0, none⟩ = some (.complex .f64 0 0) := (blk_cell BK116.1 0).trans rfl; have hcz27_1 : w26.cell? ⟨gb116, 1, none⟩ = some (.complex .f64 0 0) := (blk_cell BK116.1 1).trans rfl; have hfz27_0 := blk_frozen BK116.1 0; have hfz27_1 := blk_frozen BK116.1 1))
       refine bodyPost_ret (results_ct rfl _ _ gb116 74 #[.complex .f64 0 0, .complex .f64 0 0] (0, 0) _ rfl (by (with_reducible repeat (first | refine blk_drewN ?_ _ | refine blk_drew ?_ | refine blk_alloc ?_ _)); refine blk_put (cs := #[.complex .f64 0 0, .complex .f64 0 0]) ?_ 1 _ rfl; (with_reducible repeat (first | refine blk_drewN ?_ _ | refine blk_drew ?_ | refine blk_alloc ?_ _)); refine blk_put (cs := #[.complex .f64 0 0, .complex .f64 0 0]) ?_ 0 _ rfl; (with_reducible repeat (first | refine blk_drewN ?_ _ | refine blk_drew ?_ | refine blk_alloc ?_ _)); exact BK116.1) Tryz.underlying74 rfl (by kernel_rfl)) rfl ?_
       exact ⟨by first | rfl | (simp [errW_none, errW_some] <;> rfl) | (simp [*, errW_none, errW_some] <;> rfl), by repeat (first | (with_reducible first | exact HB.1 | apply below_alloc | apply pw_below_drewN | apply below_drew1 | refine below_set ?_ GE116.1) | exact HB.1)⟩
    ·rw [if_neg c9] at H
     have c9b0 : decide (a1 ≤ 1000000) = false := decide_eq_false c9
     clear c9
     simp only [Option.some.injEq, Prod.mk.injEq] at H
     obtain ⟨rfl, rfl, rfl⟩ := H
     go_enter Tryz.func56, Tryz.ntmps56
     go_wp2_with (first | ((with_reducible refine gate_dst (N := 8) rfl ?_); refine box_event ?hg (N := 8) ?hd (cs := #[.complex .f64 0 0, .complex .f64 0 0]) (t := 74) ?hr ?_; (case hd => rfl); (case hg => rfl); (case hr => first | (go_simp; done) | (go_simp; rfl)); intro gb116 hg w28 hbox hb; have BK116 := Ak (hbox); have GW116 := Ak ((by rw [hg]; exact (below_size (by repeat (first | (with_reducible first | exact HB.1 | apply below_alloc | apply pw_below_drewN | apply below_drew1) | exact HB.1))) : w.heap.size ≤ gb116)); have GE116 := Ak ((by rw [hg]; exact (below_size (by repeat (first | (with_reducible first | exact HB.1 | apply below_alloc | apply pw_below_drewN | apply below_drew1) | exact HB.1))) : w.heap.size ≤ gb116)); replace HB := Ak (below_step (by repeat (first | (with_reducible first | exact HB.1 | apply below_alloc | apply pw_below_drewN | apply below_drew1) | exact HB.1)) hb); clear hb hbox hg) | ((with_reducible refine gate_callee (f := 82) rfl ?_); refine goesL_ (some 16) rfl rfl Tryz.func82 (by kernel_rfl) rfl #[.int .i64 a2, .int .i64 a3] rfl (by (try simp only [lm_, lc_, ln_]); first | done | rfl | (simp only [List.length_drop, List.length_take]; rfl)) ?_; (with_reducible refine (amount_Rate.calls a2 a3 t117 t118 _ A5.1).mono ?_); rintro e w29 ⟨rfl, hb⟩; refine ⟨_, rfl, ?_⟩; replace BK116 := Ak (blk_below (g := gb116) (o := .cells #[.complex .f64 0 0, .complex .f64 0 0] 74 (0, 0)) (by (with_reducible repeat (first | refine blk_drewN ?_ _ | refine blk_drew ?_ | refine blk_alloc ?_ _)); exact BK116.1) hb); replace HB := Ak (below_step (by repeat (first | (with_reducible first | exact HB.1 | apply below_alloc | apply pw_below_drewN | apply below_drew1 | refine below_set ?_ GE116.1) | exact HB.1)) hb); (try clear hb); (try clear hb2); (try clear hk); (try clear hi); have hcz30_0 : w29.cell? ⟨gb116, 0, none⟩ = some (.complex .f64 0 0) := (blk_cell BK116.1 0).trans rfl; have hcz30_1 : w29.cell? ⟨gb116, 1, none⟩ = some (.complex .f64 0 0) := (blk_cell BK116.1 1).trans rfl; have hfz30_0 := blk_frozen BK116.1 0; have hfz30_1 := blk_frozen BK116.1 1))
     refine bodyPost_ret (results_ct rfl _ _ gb116 74 #[.complex .f64 0 0, .complex .f64 0 0] (0, 0) _ rfl (by (with_reducible repeat (first | refine blk_drewN ?_ _ | refine blk_drew ?_ | refine blk_alloc ?_ _)); refine blk_put (cs := #[.complex .f64 0 0, .complex .f64 0 0]) ?_ 1 _ rfl; (with_reducible repeat (first | refine blk_drewN ?_ _ | refine blk_drew ?_ | refine blk_alloc ?_ _)); refine blk_put (cs := #[.complex .f64 0 0, .complex .f64 0 0]) ?_ 0 _ rfl; (with_reducible repeat (first | refine blk_drewN ?_ _ | refine blk_drew ?_ | refine blk_alloc ?_ _)); exact BK116.1) Tryz.underlying74 rfl (by kernel_rfl)) rfl ?_
     exact ⟨by first | rfl | (simp [errW_none, errW_some] <;> rfl) | (simp [*, errW_none, errW_some] <;> rfl), by repeat (first | (with_reducible first | exact HB.1 | apply below_alloc | apply pw_below_drewN | apply below_drew1 | refine below_set ?_ GE116.1) | exact HB.1)⟩
   ·rw [if_neg c8] at H
    have c8b0 : decide (0 ≤ a1) = false := decide_eq_false c8
    clear c8
    simp only [Option.some.injEq, Prod.mk.injEq] at H
    obtain ⟨rfl, rfl, rfl⟩ := H
    go_enter Tryz.func56, Tryz.ntmps56
    go_wp2_with (first | ((with_reducible refine gate_dst (N := 8) rfl ?_); refine box_event ?hg (N := 8) ?hd (cs := #[.complex .f64 0 0, .complex .f64 0 0]) (t := 74) ?hr ?_; (case hd => rfl); (case hg => rfl); (case hr => first | (go_simp; done) | (go_simp; rfl)); intro gb116 hg w31 hbox hb; have BK116 := Ak (hbox); have GW116 := Ak ((by rw [hg]; exact (below_size (by repeat (first | (with_reducible first | exact HB.1 | apply below_alloc | apply pw_below_drewN | apply below_drew1) | exact HB.1))) : w.heap.size ≤ gb116)); have GE116 := Ak ((by rw [hg]; exact (below_size (by repeat (first | (with_reducible first | exact HB.1 | apply below_alloc | apply pw_below_drewN | apply below_drew1) | exact HB.1))) : w.heap.size ≤ gb116)); replace HB := Ak (below_step (by repeat (first | (with_reducible first | exact HB.1 | apply below_alloc | apply pw_below_drewN | apply below_drew1) | exact HB.1)) hb); clear hb hbox hg) | ((with_reducible refine gate_callee (f := 82) rfl ?_); refine goesL_ (some 16) rfl rfl Tryz.func82 (by kernel_rfl) rfl #[.int .i64 a2, .int .i64 a3] rfl (by (try simp only [lm_, lc_, ln_]); first | done | rfl | (simp only [List.length_drop, List.length_take]; rfl)) ?_; (with_reducible refine (amount_Rate.calls a2 a3 t117 t118 _ A5.1).mono ?_); rintro e w32 ⟨rfl, hb⟩; refine ⟨_, rfl, ?_⟩; replace BK116 := Ak (blk_below (g := gb116) (o := .cells #[.complex .f64 0 0, .complex .f64 0 0] 74 (0, 0)) (by (with_reducible repeat (first | refine blk_drewN ?_ _ | refine blk_drew ?_ | refine blk_alloc ?_ _)); exact BK116.1) hb); replace HB := Ak (below_step (by repeat (first | (with_reducible first | exact HB.1 | apply below_alloc | apply pw_below_drewN | apply below_drew1 | refine below_set ?_ GE116.1) | exact HB.1)) hb); (try clear hb); (try clear hb2); (try clear hk); (try clear hi); have hcz33_0 : w32.cell? ⟨gb116, 0, none⟩ = some (.complex .f64 0 0) := (blk_cell BK116.1 0).trans rfl; have hcz33_1 : w32.cell? ⟨gb116, 1, none⟩ = some (.complex .f64 0 0) := (blk_cell BK116.1 1).trans rfl; have hfz33_0 := blk_frozen BK116.1 0; have hfz33_1 := blk_frozen BK116.1 1))
    refine bodyPost_ret (results_ct rfl _ _ gb116 74 #[.complex .f64 0 0, .complex .f64 0 0] (0, 0) _ rfl (by (with_reducible repeat (first | refine blk_drewN ?_ _ | refine blk_drew ?_ | refine blk_alloc ?_ _)); refine blk_put (cs := #[.complex .f64 0 0, .complex .f64 0 0]) ?_ 1 _ rfl; (with_reducible repeat (first | refine blk_drewN ?_ _ | refine blk_drew ?_ | refine blk_alloc ?_ _)); refine blk_put (cs := #[.complex .f64 0 0, .complex .f64 0 0]) ?_ 0 _ rfl; (with_reducible repeat (first | refine blk_drewN ?_ _ | refine blk_drew ?_ | refine blk_alloc ?_ _)); exact BK116.1) Tryz.underlying74 rfl (by kernel_rfl)) rfl ?_
    exact ⟨by first | rfl | (simp [errW_none, errW_some] <;> rfl) | (simp [*, errW_none, errW_some] <;> rfl), by repeat (first | (with_reducible first | exact HB.1 | apply below_alloc | apply pw_below_drewN | apply below_drew1 | refine below_set ?_ GE116.1) | exact HB.1)⟩
  ·rw [if_neg c7] at H
   have c7b0 : decide (a0 ≤ 1000000) = false := decide_eq_false c7
   clear c7
   simp only [Option.some.injEq, Prod.mk.injEq] at H
   obtain ⟨rfl, rfl, rfl⟩ := H
   go_enter Tryz.func56, Tryz.ntmps56
   go_wp2_with (first | ((with_reducible refine gate_dst (N := 8) rfl ?_); refine box_event ?hg (N := 8) ?hd (cs := #[.complex .f64 0 0, .complex .f64 0 0]) (t := 74) ?hr ?_; (case hd => rfl); (case hg => rfl); (case hr => first | (go_simp; done) | (go_simp; rfl)); intro gb116 hg w34 hbox hb; have BK116 := Ak (hbox); have GW116 := Ak ((by rw [hg]; exact (below_size (by repeat (first | (with_reducible first | exact HB.1 | apply below_alloc | apply pw_below_drewN | apply below_drew1) | exact HB.1))) : w.heap.size ≤ gb116)); have GE116 := Ak ((by rw [hg]; exact (below_size (by repeat (first | (with_reducible first | exact HB.1 | apply below_alloc | apply pw_below_drewN | apply below_drew1) | exact HB.1))) : w.heap.size ≤ gb116)); replace HB := Ak (below_step (by repeat (first | (with_reducible first | exact HB.1 | apply below_alloc | apply pw_below_drewN | apply below_drew1) | exact HB.1)) hb); clear hb hbox hg) | ((with_reducible refine gate_callee (f := 82) rfl ?_); refine goesL_ (some 16) rfl rfl Tryz.func82 (by kernel_rfl) rfl #[.int .i64 a2, .int .i64 a3] rfl (by (try simp only [lm_, lc_, ln_]); first | done | rfl | (simp only [List.length_drop, List.length_take]; rfl)) ?_; (with_reducible refine (amount_Rate.calls a2 a3 t117 t118 _ A5.1).mono ?_); rintro e w35 ⟨rfl, hb⟩; refine ⟨_, rfl, ?_⟩; replace BK116 := Ak (blk_below (g := gb116) (o := .cells #[.complex .f64 0 0, .complex .f64 0 0] 74 (0, 0)) (by (with_reducible repeat (first | refine blk_drewN ?_ _ | refine blk_drew ?_ | refine blk_alloc ?_ _)); exact BK116.1) hb); replace HB := Ak (below_step (by repeat (first | (with_reducible first | exact HB.1 | apply below_alloc | apply pw_below_drewN | apply below_drew1 | refine below_set ?_ GE116.1) | exact HB.1)) hb); (try clear hb); (try clear hb2); (try clear hk); (try clear hi); have hcz36_0 : w35.cell? ⟨gb116, 0, none⟩ = some (.complex .f64 0 0) := (blk_cell BK116.1 0).trans rfl; have hcz36_1 : w35.cell? ⟨gb116, 1, none⟩ = some (.complex .f64 0 0) := (blk_cell BK116.1 1).trans rfl; have hfz36_0 := blk_frozen BK116.1 0; have hfz36_1 := blk_frozen BK116.1 1))
   refine bodyPost_ret (results_ct rfl _ _ gb116 74 #[.complex .f64 0 0, .complex .f64 0 0] (0, 0) _ rfl (by (with_reducible repeat (first | refine blk_drewN ?_ _ | refine blk_drew ?_ | refine blk_alloc ?_ _)); refine blk_put (cs := #[.complex .f64 0 0, .complex .f64 0 0]) ?_ 1 _ rfl; (with_reducible repeat (first | refine blk_drewN ?_ _ | refine blk_drew ?_ | refine blk_alloc ?_ _)); refine blk_put (cs := #[.complex .f64 0 0, .complex .f64 0 0]) ?_ 0 _ rfl; (with_reducible repeat (first | refine blk_drewN ?_ _ | refine blk_drew ?_ | refine blk_alloc ?_ _)); exact BK116.1) Tryz.underlying74 rfl (by kernel_rfl)) rfl ?_
   exact ⟨by first | rfl | (simp [errW_none, errW_some] <;> rfl) | (simp [*, errW_none, errW_some] <;> rfl), by repeat (first | (with_reducible first | exact HB.1 | apply below_alloc | apply pw_below_drewN | apply below_drew1 | refine below_set ?_ GE116.1) | exact HB.1)⟩
 ·rw [if_neg c6] at H
  have c6b0 : decide (0 ≤ a0) = false := decide_eq_false c6
  clear c6
  simp only [Option.some.injEq, Prod.mk.injEq] at H
  obtain ⟨rfl, rfl, rfl⟩ := H
  go_enter Tryz.func56, Tryz.ntmps56
  go_wp2_with (first | ((with_reducible refine gate_dst (N := 8) rfl ?_); refine box_event ?hg (N := 8) ?hd (cs := #[.complex .f64 0 0, .complex .f64 0 0]) (t := 74) ?hr ?_; (case hd => rfl); (case hg => rfl); (case hr => first | (go_simp; done) | (go_simp; rfl)); intro gb116 hg w37 hbox hb; have BK116 := Ak (hbox); have GW116 := Ak ((by rw [hg]; exact (below_size (by repeat (first | (with_reducible first | exact HB.1 | apply below_alloc | apply pw_below_drewN | apply below_drew1) | exact HB.1))) : w.heap.size ≤ gb116)); have GE116 := Ak ((by rw [hg]; exact (below_size (by repeat (first | (with_reducible first | exact HB.1 | apply below_alloc | apply pw_below_drewN | apply below_drew1) | exact HB.1))) : w.heap.size ≤ gb116)); replace HB := Ak (below_step (by repeat (first | (with_reducible first | exact HB.1 | apply below_alloc | apply pw_below_drewN | apply below_drew1) | exact HB.1)) hb); clear hb hbox hg) | ((with_reducible refine gate_callee (f := 82) rfl ?_); refine goesL_ (some 16) rfl rfl Tryz.func82 (by kernel_rfl) rfl #[.int .i64 a2, .int .i64 a3] rfl (by (try simp only [lm_, lc_, ln_]); first | done | rfl | (simp only [List.length_drop, List.length_take]; rfl)) ?_; (with_reducible refine (amount_Rate.calls a2 a3 t117 t118 _ A5.1).mono ?_); rintro e w38 ⟨rfl, hb⟩; refine ⟨_, rfl, ?_⟩; replace BK116 := Ak (blk_below (g := gb116) (o := .cells #[.complex .f64 0 0, .complex .f64 0 0] 74 (0, 0)) (by (with_reducible repeat (first | refine blk_drewN ?_ _ | refine blk_drew ?_ | refine blk_alloc ?_ _)); exact BK116.1) hb); replace HB := Ak (below_step (by repeat (first | (with_reducible first | exact HB.1 | apply below_alloc | apply pw_below_drewN | apply below_drew1 | refine below_set ?_ GE116.1) | exact HB.1)) hb); (try clear hb); (try clear hb2); (try clear hk); (try clear hi); have hcz39_0 : w38.cell? ⟨gb116, 0, none⟩ = some (.complex .f64 0 0) := (blk_cell BK116.1 0).trans rfl; have hcz39_1 : w38.cell? ⟨gb116, 1, none⟩ = some (.complex .f64 0 0) := (blk_cell BK116.1 1).trans rfl; have hfz39_0 := blk_frozen BK116.1 0; have hfz39_1 := blk_frozen BK116.1 1))
  refine bodyPost_ret (results_ct rfl _ _ gb116 74 #[.complex .f64 0 0, .complex .f64 0 0] (0, 0) _ rfl (by (with_reducible repeat (first | refine blk_drewN ?_ _ | refine blk_drew ?_ | refine blk_alloc ?_ _)); refine blk_put (cs := #[.complex .f64 0 0, .complex .f64 0 0]) ?_ 1 _ rfl; (with_reducible repeat (first | refine blk_drewN ?_ _ | refine blk_drew ?_ | refine blk_alloc ?_ _)); refine blk_put (cs := #[.complex .f64 0 0, .complex .f64 0 0]) ?_ 0 _ rfl; (with_reducible repeat (first | refine blk_drewN ?_ _ | refine blk_drew ?_ | refine blk_alloc ?_ _)); exact BK116.1) Tryz.underlying74 rfl (by kernel_rfl)) rfl ?_
  exact ⟨by first | rfl | (simp [errW_none, errW_some] <;> rfl) | (simp [*, errW_none, errW_some] <;> rfl), by repeat (first | (with_reducible first | exact HB.1 | apply below_alloc | apply pw_below_drewN | apply below_drew1 | refine below_set ?_ GE116.1) | exact HB.1)⟩
def bits_Mul64.f (a0 a1 : Int) : Option (Int × Int) := some (IntKind.u64.wrap ((IntKind.u64.wrap ((IntKind.u64.wrap ((a0 / 4294967296) * (a1 / 4294967296))) + ((IntKind.u64.wrap ((IntKind.u64.wrap ((a0 / 4294967296) * (Go.bits .and .u64 a1 4294967295))) + ((IntKind.u64.wrap ((Go.bits .and .u64 a0 4294967295) * (Go.bits .and .u64 a1 4294967295))) / 4294967296))) / 4294967296))) + ((IntKind.u64.wrap ((Go.bits .and .u64 (IntKind.u64.wrap ((IntKind.u64.wrap ((a0 / 4294967296) * (Go.bits .and .u64 a1 4294967295))) + ((IntKind.u64.wrap ((Go.bits .and .u64 a0 4294967295) * (Go.bits .and .u64 a1 4294967295))) / 4294967296))) 4294967295) + (IntKind.u64.wrap ((Go.bits .and .u64 a0 4294967295) * (a1 / 4294967296))))) / 4294967296)), IntKind.u64.wrap (a0 * a1))
set_option maxHeartbeats 8000000 in
set_option maxRecDepth 100000 in
theorem bits_Mul64.calls (a0 a1 r1 r2 : Int) (w : World) (h : bits_Mul64.f a0 a1 = some (r1, r2)) :
 Calls Tryz.prog 61 #[.int .u64 a0, .int .u64 a1] w fun e w' => e = .returned (.tuple #[.int .u64 r1, .int .u64 r2]) ∧ Drawn0 w w' := by
 have H : (some (IntKind.u64.wrap ((IntKind.u64.wrap ((IntKind.u64.wrap ((a0 / 4294967296) * (a1 / 4294967296))) + ((IntKind.u64.wrap ((IntKind.u64.wrap ((a0 / 4294967296) * (Go.bits .and .u64 a1 4294967295))) + ((IntKind.u64.wrap ((Go.bits .and .u64 a0 4294967295) * (Go.bits .and .u64 a1 4294967295))) / 4294967296))) / 4294967296))) + ((IntKind.u64.wrap ((Go.bits .and .u64 (IntKind.u64.wrap ((IntKind.u64.wrap ((a0 / 4294967296) * (Go.bits .and .u64 a1 4294967295))) + ((IntKind.u64.wrap ((Go.bits .and .u64 a0 4294967295) * (Go.bits .and .u64 a1 4294967295))) / 4294967296))) 4294967295) + (IntKind.u64.wrap ((Go.bits .and .u64 a0 4294967295) * (a1 / 4294967296))))) / 4294967296)), IntKind.u64.wrap (a0 * a1))) = some (r1, r2) := h
 clear h
 simp only [Option.some.injEq, Prod.mk.injEq] at H
 obtain ⟨rfl, rfl⟩ := H
 go_enter Tryz.func61, Tryz.ntmps61
 go_wp2
 go_ret2
 exact ⟨by first | rfl | (simp; done) | (simp [*]; done), by repeat (first | exact Drawn0.refl _ | apply Drawn0.step)⟩
def bits_Div64.f (a0 a1 a2 : Int) : Option (Int × Int) := if a0 = 0 then (if 0 < a2 then (if 0 ≤ a1 then (if a1 ≤ 18446744073709551615 then some (a1 / a2, a1 % a2) else none) else none) else none) else none
set_option maxHeartbeats 2000000 in
set_option maxRecDepth 100000 in
theorem bits_Div64.calls (a0 a1 a2 r1 r2 : Int) (w : World) (h : bits_Div64.f a0 a1 a2 = some (r1, r2)) :
 Calls Tryz.prog 62 #[.int .u64 a0, .int .u64 a1, .int .u64 a2] w fun e w' => e = .returned (.tuple #[.int .u64 r1, .int .u64 r2]) ∧ Drawn0 w w' := by
 unfold bits_Div64.f at h
 split at h
 ·split at h
  ·split at h
   ·split at h
    ·rename_i h0 h2 h1 h3
     subst h0
     obtain ⟨rfl, rfl⟩ := Prod.mk.inj (Option.some.inj h)
     clear h
     have n2 : (a2 == 0) = false := beq_eq_false_iff_ne.mpr (by omega)
     have n3 : decide (a2 ≤ 0) = false := decide_eq_false (by omega)
     go_enter Tryz.func62, Tryz.ntmps62
     go_wp2
     go_quiet (fail)
     go_wp2
     go_ret2
     exact ⟨rfl, ⟨⟨_, rfl⟩⟩⟩
    ·cases h
   ·cases h
  ·cases h
 ·cases h
end Go.Proofs.YtiodebjjbgcbhaaGreat.QLef
