import Derived.Test.YtiodebjjbgcbhaaGreatQLefx1
namespace Go.Proofs.YtiodebjjbgcbhaaGreat.QLef
open Go.RowKit Go.Proofs YtiodebjjbgcbhaaGreatW.PrintWords YtiodebjjbgcbhaaGreatW.PrintLast YtiodebjjbgcbhaaGreatW.PrintMore YtiodebjjbgcbhaaGreat Hand
attribute [local go_sem] max2_int min2_int max_two min_two max_three min_three max_four min_four run_equalIn_c run_store_float run_store_complex run_fop run_feq run_fne run_flt run_fle run_fgt run_fge run_fint run_toi run_real' run_imag' run_complex' run_ceq run_cne run_cadd run_csub Wide.cellsAt_drewN Wide.cellsAt_drew Wide.lw32 Wide.lw33 Wide.lw37 Wide.lw38 Wide.lw39 Wide.lw44
attribute [local go_sem ↓ high] Wide.hv32 Wide.hv33 Wide.hv37 Wide.hv38 Wide.hv39 Wide.hv44
set_option linter.unusedVariables false
set_option linter.unusedSimpArgs false
def curve_Curve_At.f (a0_0 : C128) (a0_1 : C128) (a1 : Int) : Option (Int) := (curve_Line.f a0_0 a0_1).bind fun bt123 => (if bt123.2.2 = 0 then (if cok .sub a0_1.re a0_1.im a0_0.re a0_0.im = true then (if toki (cre .sub a0_1.re a0_1.im a0_0.re a0_0.im) = true then (if toki (cim .sub a0_1.re a0_1.im a0_0.re a0_0.im) = true then (if toki a0_0.re = true then (if (wrap64 ((mn (mx a1 (-1)) 1000001) - (toi a0_0.re))) < 0 then (if toki a0_0.im = true then (some (toi a0_0.im)) else (none)) else (if (wrap64 ((mn (mx a1 (-1)) 1000001) - (toi a0_0.re))) ≥ (toi (cre .sub a0_1.re a0_1.im a0_0.re a0_0.im)) then (if toki a0_1.im = true then (some (toi a0_1.im)) else (none)) else ((bits_Mul64.f (IntKind.u64.wrap (toi (cim .sub a0_1.re a0_1.im a0_0.re a0_0.im))) (IntKind.u64.wrap (wrap64 ((mn (mx a1 (-1)) 1000001) - (toi a0_0.re))))).bind fun bt127 => ((bits_Div64.f bt127.1 bt127.2 (IntKind.u64.wrap (toi (cre .sub a0_1.re a0_1.im a0_0.re a0_0.im)))).bind fun bt129 => (if toki a0_0.im = true then (some (wrap64 ((toi a0_0.im) + (wrap64 (bt129.1))))) else (none)))))) else (none)) else (none)) else (none)) else (none)) else (some 0))
set_option maxHeartbeats 8000000 in
set_option maxRecDepth 100000 in
theorem curve_Curve_At.calls (a0_0 : C128) (a0_1 : C128) (a1 r : Int) (w : World) (h : curve_Curve_At.f a0_0 a0_1 a1 = some r) :
 Calls Tryz.prog 30 #[.agg #[.complex .f64 a0_0.re a0_0.im, .complex .f64 a0_1.re a0_1.im], .int .i64 a1] w fun e w' => e = .returned (.int .i64 r) ∧ Below w.heap.size w w' := by
 have hu74 := Tryz.underlying74
 have HB := Ak (Below.refl w.heap.size w)
 have H : ((curve_Line.f a0_0 a0_1).bind fun bt123 => (if bt123.2.2 = 0 then (if cok .sub a0_1.re a0_1.im a0_0.re a0_0.im = true then (if toki (cre .sub a0_1.re a0_1.im a0_0.re a0_0.im) = true then (if toki (cim .sub a0_1.re a0_1.im a0_0.re a0_0.im) = true then (if toki a0_0.re = true then (if (wrap64 ((mn (mx a1 (-1)) 1000001) - (toi a0_0.re))) < 0 then (if toki a0_0.im = true then (some (toi a0_0.im)) else (none)) else (if (wrap64 ((mn (mx a1 (-1)) 1000001) - (toi a0_0.re))) ≥ (toi (cre .sub a0_1.re a0_1.im a0_0.re a0_0.im)) then (if toki a0_1.im = true then (some (toi a0_1.im)) else (none)) else ((bits_Mul64.f (IntKind.u64.wrap (toi (cim .sub a0_1.re a0_1.im a0_0.re a0_0.im))) (IntKind.u64.wrap (wrap64 ((mn (mx a1 (-1)) 1000001) - (toi a0_0.re))))).bind fun bt127 => ((bits_Div64.f bt127.1 bt127.2 (IntKind.u64.wrap (toi (cre .sub a0_1.re a0_1.im a0_0.re a0_0.im)))).bind fun bt129 => (if toki a0_0.im = true then (some (wrap64 ((toi a0_0.im) + (wrap64 (bt129.1))))) else (none)))))) else (none)) else (none)) else (none)) else (none)) else (some 0))) = some r := h
 clear h
 replace H := Option.bind_eq_some_iff.mp H
 obtain ⟨⟨t123, t124, t125⟩, A30, H⟩ := H
 replace H : (if t125 = 0 then (if cok .sub a0_1.re a0_1.im a0_0.re a0_0.im = true then (if toki (cre .sub a0_1.re a0_1.im a0_0.re a0_0.im) = true then (if toki (cim .sub a0_1.re a0_1.im a0_0.re a0_0.im) = true then (if toki a0_0.re = true then (if (wrap64 ((mn (mx a1 (-1)) 1000001) - (toi a0_0.re))) < 0 then (if toki a0_0.im = true then (some (toi a0_0.im)) else (none)) else (if (wrap64 ((mn (mx a1 (-1)) 1000001) - (toi a0_0.re))) ≥ (toi (cre .sub a0_1.re a0_1.im a0_0.re a0_0.im)) then (if toki a0_1.im = true then (some (toi a0_1.im)) else (none)) else ((bits_Mul64.f (IntKind.u64.wrap (toi (cim .sub a0_1.re a0_1.im a0_0.re a0_0.im))) (IntKind.u64.wrap (wrap64 ((mn (mx a1 (-1)) 1000001) - (toi a0_0.re))))).bind fun bt127 => ((bits_Div64.f bt127.1 bt127.2 (IntKind.u64.wrap (toi (cre .sub a0_1.re a0_1.im a0_0.re a0_0.im)))).bind fun bt129 => (if toki a0_0.im = true then (some (wrap64 ((toi a0_0.im) + (wrap64 (bt129.1))))) else (none)))))) else (none)) else (none)) else (none)) else (none)) else (some 0)) = some r := H
 have A3 := Ak A30
 clear A30
 by_cases c4 : t125 = 0
 ·rw [if_pos c4] at H
  have c4b0 : (t125 == 0) = true := beq_iff_eq.mpr c4
  have c4b1 : (t125 != 0) = false := bne_eq_false_iff_eq.mpr c4
  clear c4
  by_cases c5 : cok .sub a0_1.re a0_1.im a0_0.re a0_0.im = true
  ·rw [if_pos c5] at H
   have c5b0 : cok .sub a0_1.re a0_1.im a0_0.re a0_0.im = true := c5
   clear c5
   by_cases c6 : toki (cre .sub a0_1.re a0_1.im a0_0.re a0_0.im) = true
   ·rw [if_pos c6] at H
    have c6b0 : toki (cre .sub a0_1.re a0_1.im a0_0.re a0_0.im) = true := c6
    clear c6
    by_cases c7 : toki (cim .sub a0_1.re a0_1.im a0_0.re a0_0.im) = true
    ·rw [if_pos c7] at H
     have c7b0 : toki (cim .sub a0_1.re a0_1.im a0_0.re a0_0.im) = true := c7
     clear c7
     obtain ⟨ji8, hji8⟩ : ∃ j_ : Int, (mx a1 (-1)) = j_ := ⟨_, rfl⟩
     replace H : (if toki a0_0.re = true then (if (wrap64 ((mn (ji8) 1000001) - (toi a0_0.re))) < 0 then (if toki a0_0.im = true then (some (toi a0_0.im)) else (none)) else (if (wrap64 ((mn (ji8) 1000001) - (toi a0_0.re))) ≥ (toi (cre .sub a0_1.re a0_1.im a0_0.re a0_0.im)) then (if toki a0_1.im = true then (some (toi a0_1.im)) else (none)) else ((bits_Mul64.f (IntKind.u64.wrap (toi (cim .sub a0_1.re a0_1.im a0_0.re a0_0.im))) (IntKind.u64.wrap (wrap64 ((mn (ji8) 1000001) - (toi a0_0.re))))).bind fun bt127 => ((bits_Div64.f bt127.1 bt127.2 (IntKind.u64.wrap (toi (cre .sub a0_1.re a0_1.im a0_0.re a0_0.im)))).bind fun bt129 => (if toki a0_0.im = true then (some (wrap64 ((toi a0_0.im) + (wrap64 (bt129.1))))) else (none)))))) else (none)) = some r := by first | (rw [hji8] at H; exact H) | (simp only [hji8] at H ⊢; exact H)
     (try rw [hji8] at A3)
     have hji8_ : (if a1 < (-1) then (-1) else a1) = ji8 := hji8
     obtain ⟨ji9, hji9⟩ : ∃ j_ : Int, (mn (ji8) 1000001) = j_ := ⟨_, rfl⟩
     replace H : (if toki a0_0.re = true then (if (wrap64 ((ji9) - (toi a0_0.re))) < 0 then (if toki a0_0.im = true then (some (toi a0_0.im)) else (none)) else (if (wrap64 ((ji9) - (toi a0_0.re))) ≥ (toi (cre .sub a0_1.re a0_1.im a0_0.re a0_0.im)) then (if toki a0_1.im = true then (some (toi a0_1.im)) else (none)) else ((bits_Mul64.f (IntKind.u64.wrap (toi (cim .sub a0_1.re a0_1.im a0_0.re a0_0.im))) (IntKind.u64.wrap (wrap64 ((ji9) - (toi a0_0.re))))).bind fun bt127 => ((bits_Div64.f bt127.1 bt127.2 (IntKind.u64.wrap (toi (cre .sub a0_1.re a0_1.im a0_0.re a0_0.im)))).bind fun bt129 => (if toki a0_0.im = true then (some (wrap64 ((toi a0_0.im) + (wrap64 (bt129.1))))) else (none)))))) else (none)) = some r := by first | (rw [hji9] at H; exact H) | (simp only [hji9] at H ⊢; exact H)
     (try rw [hji9] at A3)
     have hji9_ : (if 1000001 < (ji8) then 1000001 else (ji8)) = ji9 := hji9
     by_cases c10 : toki a0_0.re = true
     ·rw [if_pos c10] at H
      have c10b0 : toki a0_0.re = true := c10
      clear c10
      by_cases c11 : (wrap64 ((ji9) - (toi a0_0.re))) < 0
      ·rw [if_pos c11] at H
       have c11b0 : decide ((wrap64 ((ji9) - (toi a0_0.re))) < 0) = true := decide_eq_true c11
       clear c11
       by_cases c12 : toki a0_0.im = true
       ·rw [if_pos c12] at H
        have c12b0 : toki a0_0.im = true := c12
        clear c12
        obtain rfl := Option.some.inj H
        go_enter Tryz.func30, Tryz.ntmps30
        go_wp2_with (first | ((with_reducible refine gate_dst (N := 2) rfl ?_); refine box_event ?hg (N := 2) ?hd (cs := #[.complex .f64 a0_0.re a0_0.im, .complex .f64 a0_1.re a0_1.im]) (t := 74) ?hr ?_; (case hd => rfl); (case hg => rfl); (case hr => first | (go_simp; done) | (go_simp; rfl)); intro gb122 hg w13 hbox hb; have BK122 := Ak (hbox); have GW122 := Ak ((by rw [hg]; exact (below_size (by repeat (first | (with_reducible first | exact HB.1 | apply below_alloc | apply pw_below_drewN | apply below_drew1) | exact HB.1))) : w.heap.size ≤ gb122)); have GE122 := Ak ((by rw [hg]; exact (below_size (by repeat (first | (with_reducible first | exact HB.1 | apply below_alloc | apply pw_below_drewN | apply below_drew1) | exact HB.1))) : w.heap.size ≤ gb122)); replace HB := Ak (below_step (by repeat (first | (with_reducible first | exact HB.1 | apply below_alloc | apply pw_below_drewN | apply below_drew1) | exact HB.1)) hb); clear hb hbox hg; have hcz14_0 : w13.cell? ⟨gb122, 0, none⟩ = some (.complex .f64 a0_0.re a0_0.im) := (blk_cell BK122.1 0).trans rfl; have hcz14_1 : w13.cell? ⟨gb122, 1, none⟩ = some (.complex .f64 a0_1.re a0_1.im) := (blk_cell BK122.1 1).trans rfl; have hfz14_0 := blk_frozen BK122.1 0; have hfz14_1 := blk_frozen BK122.1 1) | ((with_reducible refine gate_callee (f := 60) rfl ?_); refine goesL_ (some 20) rfl rfl Tryz.func60 (by kernel_rfl) rfl #[.complex .f64 a0_0.re a0_0.im, .complex .f64 a0_1.re a0_1.im] rfl (by (try simp only [lm_, lc_, ln_]); first | done | rfl | (simp only [List.length_drop, List.length_take]; rfl)) ?_; (with_reducible refine (curve_Line.calls a0_0 a0_1 t123 t124 t125 _ A3.1).mono ?_); rintro e w15 ⟨rfl, hb⟩; refine ⟨_, rfl, ?_⟩; replace BK122 := Ak (blk_below (g := gb122) (o := .cells #[.complex .f64 a0_0.re a0_0.im, .complex .f64 a0_1.re a0_1.im] 74 (0, 0)) (by (with_reducible repeat (first | refine blk_drewN ?_ _ | refine blk_drew ?_ | refine blk_alloc ?_ _)); exact BK122.1) hb); replace HB := Ak (below_step (by repeat (first | (with_reducible first | exact HB.1 | apply below_alloc | apply pw_below_drewN | apply below_drew1 | refine below_set ?_ GE122.1) | exact HB.1)) hb); (try clear hb); (try clear hb2); (try clear hk); (try clear hi)) | ((with_reducible refine gate_dst (N := 5) rfl ?_); refine box_event ?hg (N := 5) ?hd (cs := #[.complex .f64 0 0, .complex .f64 0 0]) (t := 74) ?hr ?_; (case hd => rfl); (case hg => rfl); (case hr => first | (go_simp; done) | (go_simp; rfl)); intro gb126 hg w16 hbox hb; have BK126 := Ak (hbox); have GW126 := Ak ((by rw [hg]; exact (below_size (by repeat (first | (with_reducible first | exact HB.1 | apply below_alloc | apply pw_below_drewN | apply below_drew1 | refine below_set ?_ GE122.1) | exact HB.1))) : w.heap.size ≤ gb126)); have GE126 := Ak ((by rw [hg]; exact (below_size (by repeat (first | (with_reducible first | exact HB.1 | apply below_alloc | apply pw_below_drewN | apply below_drew1 | refine below_set ?_ GE122.1) | exact HB.1))) : w.heap.size ≤ gb126)); have NB122_126 := Ak ((by rw [hg]; exact Nat.ne_of_lt (blk_lt (g := gb122) (o := .cells #[.complex .f64 a0_0.re a0_0.im, .complex .f64 a0_1.re a0_1.im] 74 (0, 0)) (by (with_reducible repeat (first | refine blk_drewN ?_ _ | refine blk_drew ?_ | refine blk_alloc ?_ _)); exact BK122.1)) : gb122 ≠ gb126)); have NB126_122 := Ak ((by rw [hg]; exact Nat.ne_of_gt (blk_lt (g := gb122) (o := .cells #[.complex .f64 a0_0.re a0_0.im, .complex .f64 a0_1.re a0_1.im] 74 (0, 0)) (by (with_reducible repeat (first | refine blk_drewN ?_ _ | refine blk_drew ?_ | refine blk_alloc ?_ _)); exact BK122.1)) : gb126 ≠ gb122)); replace BK122 := Ak (blk_below (g := gb122) (o := .cells #[.complex .f64 a0_0.re a0_0.im, .complex .f64 a0_1.re a0_1.im] 74 (0, 0)) (by (with_reducible repeat (first | refine blk_drewN ?_ _ | refine blk_drew ?_ | refine blk_alloc ?_ _)); exact BK122.1) hb); replace HB := Ak (below_step (by repeat (first | (with_reducible first | exact HB.1 | apply below_alloc | apply pw_below_drewN | apply below_drew1 | refine below_set ?_ GE122.1) | exact HB.1)) hb); clear hb hbox hg; have hnb17 := NB126_122.1; have hnc17 := NB122_126.1; have hcz18_0 : w16.cell? ⟨gb126, 0, none⟩ = some (.complex .f64 0 0) := (blk_cell BK126.1 0).trans rfl; have hcz18_1 : w16.cell? ⟨gb126, 1, none⟩ = some (.complex .f64 0 0) := (blk_cell BK126.1 1).trans rfl; have hfz18_0 := blk_frozen BK126.1 0; have hfz18_1 := blk_frozen BK126.1 1; have hcz19_0 : w16.cell? ⟨gb122, 0, none⟩ = some (.complex .f64 a0_0.re a0_0.im) := (blk_cell BK122.1 0).trans rfl; have hcz19_1 : w16.cell? ⟨gb122, 1, none⟩ = some (.complex .f64 a0_1.re a0_1.im) := (blk_cell BK122.1 1).trans rfl; have hfz19_0 := blk_frozen BK122.1 0; have hfz19_1 := blk_frozen BK122.1 1))
        go_ret
        exact ⟨by first | rfl | (simp [errW_none, errW_some] <;> rfl) | (simp only [← hji8, ← hji9]; first | rfl | (simp [errW_none, errW_some] <;> rfl)) | (simp [*, errW_none, errW_some] <;> rfl), by repeat (first | (with_reducible first | exact HB.1 | apply below_alloc | apply pw_below_drewN | apply below_drew1 | refine below_set ?_ GE122.1 | refine below_set ?_ GE126.1) | exact HB.1)⟩
       ·rw [if_neg c12] at H
        exact absurd H (by simp)
      ·rw [if_neg c11] at H
       have c11b0 : decide ((wrap64 ((ji9) - (toi a0_0.re))) < 0) = false := decide_eq_false c11
       clear c11
       by_cases c20 : (wrap64 ((ji9) - (toi a0_0.re))) ≥ (toi (cre .sub a0_1.re a0_1.im a0_0.re a0_0.im))
       ·rw [if_pos c20] at H
        have c20b0 : decide ((toi (cre .sub a0_1.re a0_1.im a0_0.re a0_0.im)) ≤ (wrap64 ((ji9) - (toi a0_0.re)))) = true := decide_eq_true c20
        clear c20
        by_cases c21 : toki a0_1.im = true
        ·rw [if_pos c21] at H
         have c21b0 : toki a0_1.im = true := c21
         clear c21
         obtain rfl := Option.some.inj H
         go_enter Tryz.func30, Tryz.ntmps30
         go_wp2_with (first | ((with_reducible refine gate_dst (N := 2) rfl ?_); refine box_event ?hg (N := 2) ?hd (cs := #[.complex .f64 a0_0.re a0_0.im, .complex .f64 a0_1.re a0_1.im]) (t := 74) ?hr ?_; (case hd => rfl); (case hg => rfl); (case hr => first | (go_simp; done) | (go_simp; rfl)); intro gb122 hg w22 hbox hb; have BK122 := Ak (hbox); have GW122 := Ak ((by rw [hg]; exact (below_size (by repeat (first | (with_reducible first | exact HB.1 | apply below_alloc | apply pw_below_drewN | apply below_drew1) | exact HB.1))) : w.heap.size ≤ gb122)); have GE122 := Ak ((by rw [hg]; exact (below_size (by repeat (first | (with_reducible first | exact HB.1 | apply below_alloc | apply pw_below_drewN | apply below_drew1) | exact HB.1))) : w.heap.size ≤ gb122)); replace HB := Ak (below_step (by repeat (first | (with_reducible first | exact HB.1 | apply below_alloc | apply pw_below_drewN | apply below_drew1) | exact HB.1)) hb); clear hb hbox hg; have hcz23_0 : w22.cell? ⟨gb122, 0, none⟩ = some (.complex .f64 a0_0.re a0_0.im) := (blk_cell BK122.1 0).trans rfl; have hcz23_1 : w22.cell? ⟨gb122, 1, none⟩ = some (.complex .f64 a0_1.re a0_1.im) := (blk_cell BK122.1 1).trans rfl; have hfz23_0 := blk_frozen BK122.1 0; have hfz23_1 := blk_frozen BK122.1 1) | ((with_reducible refine gate_callee (f := 60) rfl ?_); refine goesL_ (some 20) rfl rfl Tryz.func60 (by kernel_rfl) rfl #[.complex .f64 a0_0.re a0_0.im, .complex .f64 a0_1.re a0_1.im] rfl (by (try simp only [lm_, lc_, ln_]); first | done | rfl | (simp only [List.length_drop, List.length_take]; rfl)) ?_; (with_reducible refine (curve_Line.calls a0_0 a0_1 t123 t124 t125 _ A3.1).mono ?_); rintro e w24 ⟨rfl, hb⟩; refine ⟨_, rfl, ?_⟩; replace BK122 := Ak (blk_below (g := gb122) (o := .cells #[.complex .f64 a0_0.re a0_0.im, .complex .f64 a0_1.re a0_1.im] 74 (0, 0)) (by (with_reducible repeat (first | refine blk_drewN ?_ _ | refine blk_drew ?_ | refine blk_alloc ?_ _)); exact BK122.1) hb); replace HB := Ak (below_step (by repeat (first | (with_reducible first | exact HB.1 | apply below_alloc | apply pw_below_drewN | apply below_drew1 | refine below_set ?_ GE122.1) | exact HB.1)) hb); (try clear hb); (try clear hb2); (try clear hk); (try clear hi)) | ((with_reducible refine gate_dst (N := 5) rfl ?_); refine box_event ?hg (N := 5) ?hd (cs := #[.complex .f64 0 0, .complex .f64 0 0]) (t := 74) ?hr ?_; (case hd => rfl); (case hg => rfl); (case hr => first | (go_simp; done) | (go_simp; rfl)); intro gb126 hg w25 hbox hb; have BK126 := Ak (hbox); have GW126 := Ak ((by rw [hg]; exact (below_size (by repeat (first | (with_reducible first | exact HB.1 | apply below_alloc | apply pw_below_drewN | apply below_drew1 | refine below_set ?_ GE122.1) | exact HB.1))) : w.heap.size ≤ gb126)); have GE126 := Ak ((by rw [hg]; exact (below_size (by repeat (first | (with_reducible first | exact HB.1 | apply below_alloc | apply pw_below_drewN | apply below_drew1 | refine below_set ?_ GE122.1) | exact HB.1))) : w.heap.size ≤ gb126)); have NB122_126 := Ak ((by rw [hg]; exact Nat.ne_of_lt (blk_lt (g := gb122) (o := .cells #[.complex .f64 a0_0.re a0_0.im, .complex .f64 a0_1.re a0_1.im] 74 (0, 0)) (by (with_reducible repeat (first | refine blk_drewN ?_ _ | refine blk_drew ?_ | refine blk_alloc ?_ _)); exact BK122.1)) : gb122 ≠ gb126)); have NB126_122 := Ak ((by rw [hg]; exact Nat.ne_of_gt (blk_lt (g := gb122) (o := .cells #[.complex .f64 a0_0.re a0_0.im, .complex .f64 a0_1.re a0_1.im] 74 (0, 0)) (by (with_reducible repeat (first | refine blk_drewN ?_ _ | refine blk_drew ?_ | refine blk_alloc ?_ _)); exact BK122.1)) : gb126 ≠ gb122)); replace BK122 := Ak (blk_below (g := gb122) (o := .cells #[.complex .f64 a0_0.re a0_0.im, .complex .f64 a0_1.re a0_1.im] 74 (0, 0)) (by (with_reducible repeat (first | refine blk_drewN ?_ _ | refine blk_drew ?_ | refine blk_alloc ?_ _)); exact BK122.1) hb); replace HB := Ak (below_step (by repeat (first | (with_reducible first | exact HB.1 | apply below_alloc | apply pw_below_drewN | apply below_drew1 | refine below_set ?_ GE122.1) | exact HB.1)) hb); clear hb hbox hg; have hnb26 := NB126_122.1; have hnc26 := NB122_126.1; have hcz27_0 : w25.cell? ⟨gb126, 0, none⟩ = some (.complex .f64 0 0) := (blk_cell BK126.1 0).trans rfl; have hcz27_1 : w25.cell? ⟨gb126, 1, none⟩ = some (.complex .f64 0 0) := (blk_cell BK126.1 1).trans rfl; have hfz27_0 := blk_frozen BK126.1 0; have hfz27_1 := blk_frozen BK126.1 1; have hcz28_0 : w25.cell? ⟨gb122, 0, none⟩ = some (.complex .f64 a0_0.re a0_0.im) := (blk_cell BK122.1 0).trans rfl; have hcz28_1 : w25.cell? ⟨gb122, 1, none⟩ = some (.complex .f64 a0_1.re a0_1.im) := (blk_cell BK122.1 1).trans rfl; have hfz28_0 := blk_frozen BK122.1 0; have hfz28_1 := blk_frozen BK122.1 1))
         go_ret
         exact ⟨by first | rfl | (simp [errW_none, errW_some] <;> rfl) | (simp only [← hji8, ← hji9]; first | rfl | (simp [errW_none, errW_some] <;> rfl)) | (simp [*, errW_none, errW_some] <;> rfl), by repeat (first | (with_reducible first | exact HB.1 | apply below_alloc | apply pw_below_drewN | apply below_drew1 | refine below_set ?_ GE122.1 | refine below_set ?_ GE126.1) | exact HB.1)⟩
        ·rw [if_neg c21] at H
         exact absurd H (by simp)
       ·rw [if_neg c20] at H
        have c20b0 : decide ((toi (cre .sub a0_1.re a0_1.im a0_0.re a0_0.im)) ≤ (wrap64 ((ji9) - (toi a0_0.re)))) = false := decide_eq_false c20
        clear c20
        replace H := Option.bind_eq_some_iff.mp H
        obtain ⟨⟨t127, t128⟩, A290, H⟩ := H
        replace H : ((bits_Div64.f t127 t128 (IntKind.u64.wrap (toi (cre .sub a0_1.re a0_1.im a0_0.re a0_0.im)))).bind fun bt129 => (if toki a0_0.im = true then (some (wrap64 ((toi a0_0.im) + (wrap64 (bt129.1))))) else (none))) = some r := H
        have A29 := Ak A290
        clear A290
        replace H := Option.bind_eq_some_iff.mp H
        obtain ⟨⟨t129, t130⟩, A300, H⟩ := H
        replace H : (if toki a0_0.im = true then (some (wrap64 ((toi a0_0.im) + (wrap64 (t129))))) else (none)) = some r := H
        have A30 := Ak A300
        clear A300
        by_cases c31 : toki a0_0.im = true
        ·rw [if_pos c31] at H
         have c31b0 : toki a0_0.im = true := c31
         clear c31
         obtain rfl := Option.some.inj H
         go_enter Tryz.func30, Tryz.ntmps30
         go_wp2_with (first | ((with_reducible refine gate_dst (N := 2) rfl ?_); refine box_event ?hg (N := 2) ?hd (cs := #[.complex .f64 a0_0.re a0_0.im, .complex .f64 a0_1.re a0_1.im]) (t := 74) ?hr ?_; (case hd => rfl); (case hg => rfl); (case hr => first | (go_simp; done) | (go_simp; rfl)); intro gb122 hg w32 hbox hb; have BK122 := Ak (hbox); have GW122 := Ak ((by rw [hg]; exact (below_size (by repeat (first | (with_reducible first | exact HB.1 | apply below_alloc | apply pw_below_drewN | apply below_drew1) | exact HB.1))) : w.heap.size ≤ gb122)); have GE122 := Ak ((by rw [hg]; exact (below_size (by repeat (first | (with_reducible first | exact HB.1 | apply below_alloc | apply pw_below_drewN | apply below_drew1) | exact HB.1))) : w.heap.size ≤ gb122)); replace HB := Ak (below_step (by repeat (first | (with_reducible first | exact HB.1 | apply below_alloc | apply pw_below_drewN | apply below_drew1) | exact HB.1)) hb); clear hb hbox hg; have hcz33_0 : w32.cell? ⟨gb122, 0, none⟩ = some (.complex .f64 a0_0.re a0_0.im) := (blk_cell BK122.1 0).trans rfl; have hcz33_1 : w32.cell? ⟨gb122, 1, none⟩ = some (.complex .f64 a0_1.re a0_1.im) := (blk_cell BK122.1 1).trans rfl; have hfz33_0 := blk_frozen BK122.1 0; have hfz33_1 := blk_frozen BK122.1 1) | ((with_reducible refine gate_callee (f := 60) rfl ?_); refine goesL_ (some 20) rfl rfl Tryz.func60 (by kernel_rfl) rfl #[.complex .f64 a0_0.re a0_0.im, .complex .f64 a0_1.re a0_1.im] rfl (by (try simp only [lm_, lc_, ln_]); first | done | rfl | (simp only [List.length_drop, List.length_take]; rfl)) ?_; (with_reducible refine (curve_Line.calls a0_0 a0_1 t123 t124 t125 _ A3.1).mono ?_); rintro e w34 ⟨rfl, hb⟩; refine ⟨_, rfl, ?_⟩; replace BK122 := Ak (blk_below (g := gb122) (o := .cells #[.complex .f64 a0_0.re a0_0.im, .complex .f64 a0_1.re a0_1.im] 74 (0, 0)) (by (with_reducible repeat (first | refine blk_drewN ?_ _ | refine blk_drew ?_ | refine blk_alloc ?_ _)); exact BK122.1) hb); replace HB := Ak (below_step (by repeat (first | (with_reducible first | exact HB.1 | apply below_alloc | apply pw_below_drewN | apply below_drew1 | refine below_set ?_ GE122.1) | exact HB.1)) hb); (try clear hb); (try clear hb2); (try clear hk); (try clear hi)) | ((with_reducible refine gate_dst (N := 5) rfl ?_); refine box_event ?hg (N := 5) ?hd (cs := #[.complex .f64 0 0, .complex .f64 0 0]) (t := 74) ?hr ?_; (case hd => rfl); (case hg => rfl); (case hr => first | (go_simp; done) | (go_simp; rfl)); intro gb126 hg w35 hbox hb; have BK126 := Ak (hbox); have GW126 := Ak ((by rw [hg]; exact (below_size (by repeat (first | (with_reducible first | exact HB.1 | apply below_alloc | apply pw_below_drewN | apply below_drew1 | refine below_set ?_ GE122.1) | exact HB.1))) : w.heap.size ≤ gb126)); have GE126 := Ak ((by rw [hg]; exact (below_size (by repeat (first | (with_reducible first | exact HB.1 | apply below_alloc | apply pw_below_drewN | apply below_drew1 | refine below_set ?_ GE122.1) | exact HB.1))) : w.heap.size ≤ gb126)); have NB122_126 := Ak ((by rw [hg]; exact Nat.ne_of_lt (blk_lt (g := gb122) (o := .cells #[.complex .f64 a0_0.re a0_0.im, .complex .f64 a0_1.re a0_1.im] 74 (0, 0)) (by (with_reducible repeat (first | refine blk_drewN ?_ _ | refine blk_drew ?_ | refine blk_alloc ?_ _)); exact BK122.1)) : gb122 ≠ gb126)); have NB126_122 := Ak ((by rw [hg]; exact Nat.ne_of_gt (blk_lt (g := gb122) (o := .cells #[.complex .f64 a0_0.re a0_0.im, .complex .f64 a0_1.re a0_1.im] 74 (0, 0)) (by (with_reducible repeat (first | refine blk_drewN ?_ _ | refine blk_drew ?_ | refine blk_alloc ?_ _)); exact BK122.1)) : gb126 ≠ gb122)); replace BK122 := Ak (blk_below (g := gb122) (o := .cells #[.complex .f64 a0_0.re a0_0.im, .complex .f64 a0_1.re a0_1.im] 74 (0, 0)) (by (with_reducible repeat (first | refine blk_drewN ?_ _ | refine blk_drew ?_ | refine blk_alloc ?_ _)); exact BK122.1) hb); replace HB := Ak (below_step (by repeat (first | (with_reducible first | exact HB.1 | apply below_alloc | apply pw_below_drewN | apply below_drew1 | refine below_set ?_ GE122.1) | exact HB.1)) hb); clear hb hbox hg; have hnb36 := NB126_122.1; have hnc36 := NB122_126.1; have hcz37_0 : w35.cell? ⟨gb126, 0, none⟩ = some (.complex .f64 0 0) := (blk_cell BK126.1 0).trans rfl; have hcz37_1 : w35.cell? ⟨gb126, 1, none⟩ = some (.complex .f64 0 0) := (blk_cell BK126.1 1).trans rfl; have hfz37_0 := blk_frozen BK126.1 0; have hfz37_1 := blk_frozen BK126.1 1; have hcz38_0 : w35.cell? ⟨gb122, 0, none⟩ = some (.complex .f64 a0_0.re a0_0.im) := (blk_cell BK122.1 0).trans rfl; have hcz38_1 : w35.cell? ⟨gb122, 1, none⟩ = some (.complex .f64 a0_1.re a0_1.im) := (blk_cell BK122.1 1).trans rfl; have hfz38_0 := blk_frozen BK122.1 0; have hfz38_1 := blk_frozen BK122.1 1) | ((with_reducible refine gate_callee (f := 61) rfl ?_); refine goesL_ (some 64) rfl rfl Tryz.func61 (by kernel_rfl) rfl #[.int .u64 (IntKind.u64.wrap (toi (cim .sub a0_1.re a0_1.im a0_0.re a0_0.im))), .int .u64 (IntKind.u64.wrap (wrap64 ((ji9) - (toi a0_0.re))))] rfl (by (try simp only [lm_, lc_, ln_]); first | done | (simp only [hji9]; rfl) | rfl | (simp only [List.length_drop, List.length_take]; rfl)) ?_; (with_reducible refine (bits_Mul64.calls (IntKind.u64.wrap (toi (cim .sub a0_1.re a0_1.im a0_0.re a0_0.im))) (IntKind.u64.wrap (wrap64 ((ji9) - (toi a0_0.re)))) t127 t128 _ A29.1).mono ?_); rintro e w' ⟨rfl, ⟨nd, rfl⟩⟩; refine ⟨_, rfl, ?_⟩) | ((with_reducible refine gate_callee (f := 62) rfl ?_); refine goesL_ (some 72) rfl rfl Tryz.func62 (by kernel_rfl) rfl #[.int .u64 t127, .int .u64 t128, .int .u64 (IntKind.u64.wrap (toi (cre .sub a0_1.re a0_1.im a0_0.re a0_0.im)))] rfl (by (try simp only [lm_, lc_, ln_]); first | done | rfl | (simp only [List.length_drop, List.length_take]; rfl)) ?_; (with_reducible refine (bits_Div64.calls t127 t128 (IntKind.u64.wrap (toi (cre .sub a0_1.re a0_1.im a0_0.re a0_0.im))) t129 t130 _ A30.1).mono ?_); rintro e w' ⟨rfl, ⟨nd, rfl⟩⟩; refine ⟨_, rfl, ?_⟩))
         go_ret
         exact ⟨by first | rfl | (simp [errW_none, errW_some] <;> rfl) | (simp only [← hji8, ← hji9]; first | rfl | (simp [errW_none, errW_some] <;> rfl)) | (simp [*, errW_none, errW_some] <;> rfl), by repeat (first | (with_reducible first | exact HB.1 | apply below_alloc | apply pw_below_drewN | apply below_drew1 | refine below_set ?_ GE122.1 | refine below_set ?_ GE126.1) | exact HB.1)⟩
        ·rw [if_neg c31] at H
         exact absurd H (by simp)
     ·rw [if_neg c10] at H
      exact absurd H (by simp)
    ·rw [if_neg c7] at H
     exact absurd H (by simp)
   ·rw [if_neg c6] at H
    exact absurd H (by simp)
  ·rw [if_neg c5] at H
   exact absurd H (by simp)
 ·rw [if_neg c4] at H
  have c4b0 : (t125 == 0) = false := beq_eq_false_iff_ne.mpr c4
  have c4b1 : (t125 != 0) = true := bne_iff_ne.mpr c4
  obtain rfl := Option.some.inj H
  go_enter Tryz.func30, Tryz.ntmps30
  go_wp2_with (first | ((with_reducible refine gate_dst (N := 2) rfl ?_); refine box_event ?hg (N := 2) ?hd (cs := #[.complex .f64 a0_0.re a0_0.im, .complex .f64 a0_1.re a0_1.im]) (t := 74) ?hr ?_; (case hd => rfl); (case hg => rfl); (case hr => first | (go_simp; done) | (go_simp; rfl)); intro gb122 hg w39 hbox hb; have BK122 := Ak (hbox); have GW122 := Ak ((by rw [hg]; exact (below_size (by repeat (first | (with_reducible first | exact HB.1 | apply below_alloc | apply pw_below_drewN | apply below_drew1) | exact HB.1))) : w.heap.size ≤ gb122)); have GE122 := Ak ((by rw [hg]; exact (below_size (by repeat (first | (with_reducible first | exact HB.1 | apply below_alloc | apply pw_below_drewN | apply below_drew1) | exact HB.1))) : w.heap.size ≤ gb122)); replace HB := Ak (below_step (by repeat (first | (with_reducible first | exact HB.1 | apply below_alloc | apply pw_below_drewN | apply below_drew1) | exact HB.1)) hb); clear hb hbox hg; have hcz40_0 : w39.cell? ⟨gb122, 0, none⟩ = some (.complex .f64 a0_0.re a0_0.im) := (blk_cell BK122.1 0).trans rfl; have hcz40_1 : w39.cell? ⟨gb122, 1, none⟩ = some (.complex .f64 a0_1.re a0_1.im) := (blk_cell BK122.1 1).trans rfl; have hfz40_0 := blk_frozen BK122.1 0; have hfz40_1 := blk_frozen BK122.1 1) | ((with_reducible refine gate_callee (f := 60) rfl ?_); refine goesL_ (some 20) rfl rfl Tryz.func60 (by kernel_rfl) rfl #[.complex .f64 a0_0.re a0_0.im, .complex .f64 a0_1.re a0_1.im] rfl (by (try simp only [lm_, lc_, ln_]); first | done | rfl | (simp only [List.length_drop, List.length_take]; rfl)) ?_; (with_reducible refine (curve_Line.calls a0_0 a0_1 t123 t124 t125 _ A3.1).mono ?_); rintro e w41 ⟨rfl, hb⟩; refine ⟨_, rfl, ?_⟩; replace BK122 := Ak (blk_below (g := gb122) (o := .cells #[.complex .f64 a0_0.re a0_0.im, .complex .f64 a0_1.re a0_1.im] 74 (0, 0)) (by (with_reducible repeat (first | refine blk_drewN ?_ _ | refine blk_drew ?_ | refine blk_alloc ?_ _)); exact BK122.1) hb); replace HB := Ak (below_step (by repeat (first | (with_reducible first | exact HB.1 | apply below_alloc | apply pw_below_drewN | apply below_drew1 | refine below_set ?_ GE122.1) | exact HB.1)) hb); (try clear hb); (try clear hb2); (try clear hk); (try clear hi)) | ((with_reducible refine gate_dst (N := 5) rfl ?_); refine box_event ?hg (N := 5) ?hd (cs := #[.complex .f64 0 0, .complex .f64 0 0]) (t := 74) ?hr ?_; (case hd => rfl); (case hg => rfl); (case hr => first | (go_simp; done) | (go_simp; rfl)); intro gb126 hg w42 hbox hb; have BK126 := Ak (hbox); have GW126 := Ak ((by rw [hg]; exact (below_size (by repeat (first | (with_reducible first | exact HB.1 | apply below_alloc | apply pw_below_drewN | apply below_drew1 | refine below_set ?_ GE122.1) | exact HB.1))) : w.heap.size ≤ gb126)); have GE126 := Ak ((by rw [hg]; exact (below_size (by repeat (first | (with_reducible first | exact HB.1 | apply below_alloc | apply pw_below_drewN | apply below_drew1 | refine below_set ?_ GE122.1) | exact HB.1))) : w.heap.size ≤ gb126)); have NB122_126 := Ak ((by rw [hg]; exact Nat.ne_of_lt (blk_lt (g := gb122) (o := .cells #[.complex .f64 a0_0.re a0_0.im, .complex .f64 a0_1.re a0_1.im] 74 (0, 0)) (by (with_reducible repeat (first | refine blk_drewN ?_ _ | refine blk_drew ?_ | refine blk_alloc ?_ _)); exact BK122.1)) : gb122 ≠ gb126)); have NB126_122 := Ak ((by rw [hg]; exact Nat.ne_of_gt (blk_lt (g := gb122) (o := .cells #[.complex .f64 a0_0.re a0_0.im, .complex .f64 a0_1.re a0_1.im] 74 (0, 0)) (by (with_reducible repeat (first | refine blk_drewN ?_ _ | refine blk_drew ?_ | refine blk_alloc ?_ _)); exact BK122.1)) : gb126 ≠ gb122)); replace BK122 := Ak (blk_below (g := gb122) (o := .cells #[.complex .f64 a0_0.re a0_0.im, .complex .f64 a0_1.re a0_1.im] 74 (0, 0)) (by (with_reducible repeat (first | refine blk_drewN ?_ _ | refine blk_drew ?_ | refine blk_alloc ?_ _)); exact BK122.1) hb); replace HB := Ak (below_step (by repeat (first | (with_reducible first | exact HB.1 | apply below_alloc | apply pw_below_drewN | apply below_drew1 | refine below_set ?_ GE122.1) | exact HB.1)) hb); clear hb hbox hg; have hnb43 := NB126_122.1; have hnc43 := NB122_126.1; have hcz44_0 : w42.cell? ⟨gb126, 0, none⟩ = some (.complex .f64 0 0) := (blk_cell BK126.1 0).trans rfl; have hcz44_1 : w42.cell? ⟨gb126, 1, none⟩ = some (.complex .f64 0 0) := (blk_cell BK126.1 1).trans rfl; have hfz44_0 := blk_frozen BK126.1 0; have hfz44_1 := blk_frozen BK126.1 1))
  go_ret
  exact ⟨by first | rfl | (simp [errW_none, errW_some] <;> rfl) | (simp [*, errW_none, errW_some] <;> rfl), by repeat (first | (with_reducible first | exact HB.1 | apply below_alloc | apply pw_below_drewN | apply below_drew1 | refine below_set ?_ GE122.1 | refine below_set ?_ GE126.1) | exact HB.1)⟩
def amount_held.f (a0 : Int) (a1 : Bool) : Option (Int × Int) := if a1 = true then ((amount_Valid.f a0).bind fun t131 => (if t131 = true then (some (a0, 0)) else (some (0, 11)))) else (some (0, 11))
set_option maxHeartbeats 8000000 in
set_option maxRecDepth 100000 in
theorem amount_held.calls (a0 : Int) (a1 : Bool) (r1 r2 : Int) (w : World) (h : amount_held.f a0 a1 = some (r1, r2)) :
 Calls Tryz.prog 65 #[.int .i64 a0, .bool a1] w fun e w' => e = .returned (.tuple #[.int .i64 r1, .int .i64 r2]) ∧ Drawn0 w w' := by
 have H : (if a1 = true then ((amount_Valid.f a0).bind fun t131 => (if t131 = true then (some (a0, 0)) else (some (0, 11)))) else (some (0, 11))) = some (r1, r2) := h
 clear h
 by_cases c3 : a1 = true
 ·subst c3
  have H1 : ((amount_Valid.f a0).bind fun t131 => (if t131 = true then (some (a0, 0)) else (some (0, 11)))) = some (r1, r2) := by rw [if_pos rfl] at H; exact H
  clear H
  have H := H1
  clear H1
  replace H := Option.bind_eq_some_iff.mp H
  obtain ⟨t131, A40, H⟩ := H
  replace H : (if t131 = true then (some (a0, 0)) else (some (0, 11))) = some (r1, r2) := H
  have A4 := Ak A40
  clear A40
  by_cases c5 : t131 = true
  ·subst c5
   have H1 : (some (a0, 0)) = some (r1, r2) := by rw [if_pos rfl] at H; exact H
   clear H
   have H := H1
   clear H1
   simp only [Option.some.injEq, Prod.mk.injEq] at H
   obtain ⟨rfl, rfl⟩ := H
   go_enter Tryz.func65, Tryz.ntmps65
   go_wp2_with (first | (go_at_call 85; (with_reducible refine (amount_Valid.calls a0 true _ A4.1).mono ?_); rintro e w' ⟨rfl, ⟨nd, rfl⟩⟩))
   go_ret2
   exact ⟨by first | rfl | (simp; done) | (simp [*]; done), by repeat (first | exact Drawn0.refl _ | apply Drawn0.step)⟩
  ·replace c5 := Bool.eq_false_iff.mpr c5
   subst c5
   have H1 : (some (0, 11)) = some (r1, r2) := by rw [if_neg (show ¬ (false = true) by decide)] at H; exact H
   clear H
   have H := H1
   clear H1
   simp only [Option.some.injEq, Prod.mk.injEq] at H
   obtain ⟨rfl, rfl⟩ := H
   go_enter Tryz.func65, Tryz.ntmps65
   go_wp2_with (first | (go_at_call 85; (with_reducible refine (amount_Valid.calls a0 false _ A4.1).mono ?_); rintro e w' ⟨rfl, ⟨nd, rfl⟩⟩))
   go_ret2
   exact ⟨by first | rfl | (simp; done) | (simp [*]; done), by repeat (first | exact Drawn0.refl _ | apply Drawn0.step)⟩
 ·replace c3 := Bool.eq_false_iff.mpr c3
  subst c3
  have H1 : (some (0, 11)) = some (r1, r2) := by rw [if_neg (show ¬ (false = true) by decide)] at H; exact H
  clear H
  have H := H1
  clear H1
  simp only [Option.some.injEq, Prod.mk.injEq] at H
  obtain ⟨rfl, rfl⟩ := H
  go_enter Tryz.func65, Tryz.ntmps65
  go_wp2
  go_ret2
  exact ⟨by first | rfl | (simp; done) | (simp [*]; done), by repeat (first | exact Drawn0.refl _ | apply Drawn0.step)⟩
def amount_Add.f (a0 a1 : Int) : Option (Int × Int) := (amount_Valid.f a0).bind fun t132 => (if t132 = true then ((amount_Valid.f a1).bind fun t133 => ((amount_held.f (wrap64 (a0 + a1)) t133).bind fun bt134 => (some (bt134.1, bt134.2)))) else ((amount_held.f (wrap64 (a0 + a1)) false).bind fun bt136 => (some (bt136.1, bt136.2))))
set_option maxHeartbeats 8000000 in
set_option maxRecDepth 100000 in
theorem amount_Add.calls (a0 a1 r1 r2 : Int) (w : World) (h : amount_Add.f a0 a1 = some (r1, r2)) :
 Calls Tryz.prog 63 #[.int .i64 a0, .int .i64 a1] w fun e w' => e = .returned (.tuple #[.int .i64 r1, .int .i64 r2]) ∧ Drawn0 w w' := by
 have H : ((amount_Valid.f a0).bind fun t132 => (if t132 = true then ((amount_Valid.f a1).bind fun t133 => ((amount_held.f (wrap64 (a0 + a1)) t133).bind fun bt134 => (some (bt134.1, bt134.2)))) else ((amount_held.f (wrap64 (a0 + a1)) false).bind fun bt136 => (some (bt136.1, bt136.2))))) = some (r1, r2) := h
 clear h
 replace H := Option.bind_eq_some_iff.mp H
 obtain ⟨t132, A30, H⟩ := H
 replace H : (if t132 = true then ((amount_Valid.f a1).bind fun t133 => ((amount_held.f (wrap64 (a0 + a1)) t133).bind fun bt134 => (some (bt134.1, bt134.2)))) else ((amount_held.f (wrap64 (a0 + a1)) false).bind fun bt136 => (some (bt136.1, bt136.2)))) = some (r1, r2) := H
 have A3 := Ak A30
 clear A30
 by_cases c4 : t132 = true
 ·subst c4
  have H1 : ((amount_Valid.f a1).bind fun t133 => ((amount_held.f (wrap64 (a0 + a1)) t133).bind fun bt134 => (some (bt134.1, bt134.2)))) = some (r1, r2) := by rw [if_pos rfl] at H; exact H
  clear H
  have H := H1
  clear H1
  replace H := Option.bind_eq_some_iff.mp H
  obtain ⟨t133, A50, H⟩ := H
  replace H : ((amount_held.f (wrap64 (a0 + a1)) t133).bind fun bt134 => (some (bt134.1, bt134.2))) = some (r1, r2) := H
  have A5 := Ak A50
  clear A50
  replace H := Option.bind_eq_some_iff.mp H
  obtain ⟨⟨t134, t135⟩, A60, H⟩ := H
  replace H : (some (t134, t135)) = some (r1, r2) := H
  have A6 := Ak A60
  clear A60
  simp only [Option.some.injEq, Prod.mk.injEq] at H
  obtain ⟨rfl, rfl⟩ := H
  go_enter Tryz.func63, Tryz.ntmps63
  go_wp2_with (first | ((with_reducible refine gate_callee (f := 85) rfl ?_); refine goesL_ (some 10) rfl rfl Tryz.func85 (by kernel_rfl) rfl #[.int .i64 a0] rfl (by (try simp only [lm_, lc_, ln_]); first | done | rfl | (simp only [List.length_drop, List.length_take]; rfl)) ?_; (with_reducible refine (amount_Valid.calls a0 true _ A3.1).mono ?_); rintro e w' ⟨rfl, ⟨nd, rfl⟩⟩; refine ⟨_, rfl, ?_⟩) | (go_at_call 85; (with_reducible refine (amount_Valid.calls a1 t133 _ A5.1).mono ?_); rintro e w' ⟨rfl, ⟨nd, rfl⟩⟩) | ((with_reducible refine gate_callee (f := 65) rfl ?_); refine goesL_ (some 15) rfl rfl Tryz.func65 (by kernel_rfl) rfl #[.int .i64 (wrap64 (a0 + a1)), .bool t133] rfl (by (try simp only [lm_, lc_, ln_]); first | done | rfl | (simp only [List.length_drop, List.length_take]; rfl)) ?_; (with_reducible refine (amount_held.calls (wrap64 (a0 + a1)) t133 t134 t135 _ A6.1).mono ?_); rintro e w' ⟨rfl, ⟨nd, rfl⟩⟩; refine ⟨_, rfl, ?_⟩))
  go_ret2
  exact ⟨by first | rfl | (simp; done) | (simp [*]; done), by repeat (first | exact Drawn0.refl _ | apply Drawn0.step)⟩
 ·replace c4 := Bool.eq_false_iff.mpr c4
  subst c4
  have H1 : ((amount_held.f (wrap64 (a0 + a1)) false).bind fun bt136 => (some (bt136.1, bt136.2))) = some (r1, r2) := by rw [if_neg (show ¬ (false = true) by decide)] at H; exact H
  clear H
  have H := H1
  clear H1
  replace H := Option.bind_eq_some_iff.mp H
  obtain ⟨⟨t136, t137⟩, A70, H⟩ := H
  replace H : (some (t136, t137)) = some (r1, r2) := H
  have A7 := Ak A70
  clear A70
  simp only [Option.some.injEq, Prod.mk.injEq] at H
  obtain ⟨rfl, rfl⟩ := H
  go_enter Tryz.func63, Tryz.ntmps63
  go_wp2_with (first | ((with_reducible refine gate_callee (f := 85) rfl ?_); refine goesL_ (some 10) rfl rfl Tryz.func85 (by kernel_rfl) rfl #[.int .i64 a0] rfl (by (try simp only [lm_, lc_, ln_]); first | done | rfl | (simp only [List.length_drop, List.length_take]; rfl)) ?_; (with_reducible refine (amount_Valid.calls a0 false _ A3.1).mono ?_); rintro e w' ⟨rfl, ⟨nd, rfl⟩⟩; refine ⟨_, rfl, ?_⟩) | ((with_reducible refine gate_callee (f := 65) rfl ?_); refine goesL_ (some 15) rfl rfl Tryz.func65 (by kernel_rfl) rfl #[.int .i64 (wrap64 (a0 + a1)), .bool false] rfl (by (try simp only [lm_, lc_, ln_]); first | done | rfl | (simp only [List.length_drop, List.length_take]; rfl)) ?_; (with_reducible refine (amount_held.calls (wrap64 (a0 + a1)) false t136 t137 _ A7.1).mono ?_); rintro e w' ⟨rfl, ⟨nd, rfl⟩⟩; refine ⟨_, rfl, ?_⟩))
  go_ret2
  exact ⟨by first | rfl | (simp; done) | (simp [*]; done), by repeat (first | exact Drawn0.refl _ | apply Drawn0.step)⟩
def amount_Total.l0 : Nat → Int → Int → List Int → Int → Int → Option (Int × Int)
 | 0, _, _, _, _, _ => none
 | k + 1, x2, x3, x6, x7, x8 => if x8 < x7 then (if 0 ≤ x8 then (if x8 < (x6.length : Int) then ((amount_Add.f x2 (rd x6 x8)).bind fun bt139 => (if bt139.2 = 0 then (amount_Total.l0 k bt139.1 bt139.2 x6 x7 (wrap64 (x8 + 1))) else (some (bt139.1, bt139.2)))) else (none)) else (none)) else (some (x2, x3))
def amount_Total.f (k : Nat) (l0 : List Int) : Option (Int × Int) := amount_Total.l0 k 0 0 l0 (l0.length : Int) 0
theorem amount_Total.mono_l : ∀ k, (∀ y0 y1 y2 y3 y4, LeO (amount_Total.l0 k y0 y1 y2 y3 y4) (amount_Total.l0 (k + 1) y0 y1 y2 y3 y4))
 | 0 => fun _ _ _ _ _ r h => by simp [amount_Total.l0] at h
 | k + 1 => by
  have ih0 := amount_Total.mono_l k
  ·intro y0 y1 y2 y3 y4
   unfold amount_Total.l0
   repeat' first
   | (with_reducible exact ih0 _ _ _ _ _)
   | (with_reducible exact LeO.refl _)
   | (with_reducible exact LeO.none _)
   | (with_reducible refine LeO.ite ?_ ?_)
   | (with_reducible refine LeO.bind ?_ (fun _ => ?_))
   | exact ih0 _ _ _ _ _
   | exact LeO.none _
   | refine LeO.ite ?_ ?_
   | refine LeO.bind ?_ (fun _ => ?_)
theorem amount_Total.mono : ∀ a0 k, LeO (amount_Total.f k a0) (amount_Total.f (k + 1) a0) := by
 intro a0 k
 have ih0 := amount_Total.mono_l k
 unfold amount_Total.f
 repeat' first
  | (with_reducible exact ih0 _ _ _ _ _)
  | (with_reducible exact LeO.refl _)
  | (with_reducible exact LeO.none _)
  | (with_reducible refine LeO.ite ?_ ?_)
  | (with_reducible refine LeO.bind ?_ (fun _ => ?_))
  | exact ih0 _ _ _ _ _
  | exact LeO.none _
  | refine LeO.ite ?_ ?_
  | refine LeO.bind ?_ (fun _ => ?_)
set_option maxHeartbeats 8000000 in
set_option maxRecDepth 100000 in
theorem amount_Total.calls (k : Nat) (A0 : Option Addr) (c0 : Nat) (l0 : List Int) (r1 r2 : Int) (w : World) (hr0 : Kd.C (Kd.int .i64) w A0 l0.length l0) (hc0 : l0.length ≤ c0) (h : amount_Total.f k l0 = some (r1, r2)) :
 Calls Tryz.prog 34 #[.slice A0 l0.length c0] w fun e w' => e = .returned (.tuple #[.int .i64 r1, .int .i64 r2]) ∧ Drawn0 w w' := by
 have HR0 := Ak hr0
 have HC0 := Ak hc0
 clear hr0 hc0
 have H : (amount_Total.l0 k 0 0 l0 (l0.length : Int) 0) = some (r1, r2) := h
 clear h
 have H' := Ak H
 clear H
 go_enter Tryz.func34, Tryz.ntmps34
 go_wp2_with (first | ((with_reducible refine wp_scope_land 8 ?_)) | ((with_reducible refine wp_label ?_); (try simp only [land_normal])) | ((with_reducible refine wp_goto ?_); (try simp only []); refine land_goto rfl ?_))
 go_loopg [2, 3, 8] k (fun kq v2 v3 v8 w' => ∃ (x2_1 : Int) (x3_1 : Int) (x8_1 : Int), v2 = .int .i64 x2_1 ∧ v3 = .int .i64 x3_1 ∧ v8 = .int .i64 x8_1 ∧ Aside0 (amount_Total.l0 kq x2_1 x3_1 l0 (l0.length : Int) x8_1 = some (r1, r2)) ∧ Aside0 (kq ≤ k) ∧ Drawn0 w w')
 case atStart => exact ⟨(0), (0), (0), (by first | rfl | (simp; done) | (simp [*]; done)), (by first | rfl | (simp; done) | (simp [*]; done)), (by first | rfl | (simp; done) | (simp [*]; done)), H', ⟨Nat.le_refl _⟩, by repeat (first | exact Drawn0.refl _ | apply Drawn0.step)⟩
 case round =>
  clear H'
  obtain ⟨x2_1, x3_1, x8_1, rfl, rfl, rfl, HA, HK1, ⟨m1, rfl⟩⟩ := hrel
  cases gk with
  | zero => exact absurd HA.out (by simp [amount_Total.l0])
  | succ k1 =>
   have H := HA.out
   clear HA
   simp only [amount_Total.l0] at H
   by_cases c2 : x8_1 < (l0.length : Int)
   ·rw [if_pos c2] at H
    have c2b0 : decide (x8_1 < (l0.length : Int)) = true := decide_eq_true c2
    clear c2
    by_cases c3 : 0 ≤ x8_1
    ·rw [if_pos c3] at H
     have c3b0 : decide (0 ≤ x8_1) = true := decide_eq_true c3
     clear c3
     by_cases c4 : x8_1 < (l0.length : Int)
     ·rw [if_pos c4] at H
      have c4b0 : decide (x8_1 < (l0.length : Int)) = true := decide_eq_true c4
      clear c4
      replace H := Option.bind_eq_some_iff.mp H
      obtain ⟨⟨t139, t140⟩, A50, H⟩ := H
      replace H : (if t140 = 0 then (amount_Total.l0 k1 t139 t140 l0 (l0.length : Int) (wrap64 (x8_1 + 1))) else (some (t139, t140))) = some (r1, r2) := H
      have A5 := Ak A50
      clear A50
      by_cases c6 : t140 = 0
      ·rw [if_pos c6] at H
       have c6b0 : (t140 == 0) = true := beq_iff_eq.mpr c6
       have c6b1 : (t140 != 0) = false := bne_eq_false_iff_eq.mpr c6
       clear c6
       have H' := Ak H
       clear H
       have p138 : 0 ≤ (x8_1 : Int) := of_decide_eq_true (by first | (with_reducible assumption) | assumption)
       have q138 : x8_1 < (l0.length : Int) := of_decide_eq_true (by first | (with_reducible assumption) | assumption)
       obtain ⟨ad138, e138, hx138_0⟩ := Kd.at_int HR0.1 x8_1 p138 q138
       cases e138
       replace p138 := eq_true p138
       replace q138 := eq_true q138
       go_wp2_with (first | ((with_reducible refine wp_scope_land 8 ?_)) | ((with_reducible refine wp_label ?_); (try simp only [land_normal])) | ((with_reducible refine wp_goto ?_); (try simp only []); refine land_goto rfl ?_) | ((with_reducible refine gate_callee (f := 63) rfl ?_); refine goesL_ (some 15) rfl rfl Tryz.func63 (by kernel_rfl) rfl #[.int .i64 x2_1, .int .i64 (rd l0 x8_1)] rfl (by (try simp only [lm_, lc_, ln_]); first | done | rfl | (simp only [List.length_drop, List.length_take]; rfl)) ?_; (with_reducible refine (amount_Add.calls x2_1 (rd l0 x8_1) t139 t140 _ A5.1).mono ?_); rintro e w' ⟨rfl, ⟨nd, rfl⟩⟩; refine ⟨_, rfl, ?_⟩))
       go_roundg k1
       case measure => have := HK1.out; omega
       case rel => exact ⟨(t139), (t140), (wrap64 (x8_1 + 1)), (by first | rfl | (simp; done) | (simp [*]; done)), (by first | rfl | (simp; done) | (simp [*]; done)), (by first | rfl | (simp; done) | (simp [*]; done)), H', ⟨by have := HK1.out; omega⟩, by repeat (first | exact Drawn0.refl _ | apply Drawn0.step)⟩
      ·rw [if_neg c6] at H
       have c6b0 : (t140 == 0) = false := beq_eq_false_iff_ne.mpr c6
       have c6b1 : (t140 != 0) = true := bne_iff_ne.mpr c6
       simp only [Option.some.injEq, Prod.mk.injEq] at H
       obtain ⟨rfl, rfl⟩ := H
       have p138 : 0 ≤ (x8_1 : Int) := of_decide_eq_true (by first | (with_reducible assumption) | assumption)
       have q138 : x8_1 < (l0.length : Int) := of_decide_eq_true (by first | (with_reducible assumption) | assumption)
       obtain ⟨ad138, e138, hx138_0⟩ := Kd.at_int HR0.1 x8_1 p138 q138
       cases e138
       replace p138 := eq_true p138
       replace q138 := eq_true q138
       go_wp2_with (first | ((with_reducible refine wp_scope_land 8 ?_)) | ((with_reducible refine wp_label ?_); (try simp only [land_normal])) | ((with_reducible refine wp_goto ?_); (try simp only []); refine land_goto rfl ?_) | ((with_reducible refine gate_callee (f := 63) rfl ?_); refine goesL_ (some 15) rfl rfl Tryz.func63 (by kernel_rfl) rfl #[.int .i64 x2_1, .int .i64 (rd l0 x8_1)] rfl (by (try simp only [lm_, lc_, ln_]); first | done | rfl | (simp only [List.length_drop, List.length_take]; rfl)) ?_; (with_reducible refine (amount_Add.calls x2_1 (rd l0 x8_1) t139 t140 _ A5.1).mono ?_); rintro e w' ⟨rfl, ⟨nd, rfl⟩⟩; refine ⟨_, rfl, ?_⟩))
       (try simp only [land_ret])
       go_ret2
       exact ⟨by first | rfl | (simp; done) | (simp [*]; done), by repeat (first | exact Drawn0.refl _ | apply Drawn0.step)⟩
     ·rw [if_neg c4] at H
      exact absurd H (by simp)
    ·rw [if_neg c3] at H
     exact absurd H (by simp)
   ·rw [if_neg c2] at H
    have c2b0 : decide (x8_1 < (l0.length : Int)) = false := decide_eq_false c2
    clear c2
    simp only [Option.some.injEq, Prod.mk.injEq] at H
    obtain ⟨rfl, rfl⟩ := H
    go_wp2_with (first | ((with_reducible refine wp_scope_land 8 ?_)) | ((with_reducible refine wp_label ?_); (try simp only [land_normal])) | ((with_reducible refine wp_goto ?_); (try simp only []); refine land_goto rfl ?_))
    (try simp only [land_ret])
    go_ret2
    exact ⟨by first | rfl | (simp; done) | (simp [*]; done), by repeat (first | exact Drawn0.refl _ | apply Drawn0.step)⟩
def amount_Fee.f (a0 a1 : Int) : Option (Int × Int) := (amount_within.f a0 0 4000000).bind fun t141 => (if t141 = true then ((amount_within.f a1 0 1000000000).bind fun t142 => (if t142 = true then ((amount_held.f (wrap64 (Int.tdiv (wrap64 ((wrap64 ((wrap64 (a0 * a1)) + 1000)) - 1)) 1000)) true).bind fun bt143 => (some (bt143.1, bt143.2))) else (some (0, 11)))) else (some (0, 11)))
set_option maxHeartbeats 8000000 in
set_option maxRecDepth 100000 in
theorem amount_Fee.calls (a0 a1 r1 r2 : Int) (w : World) (h : amount_Fee.f a0 a1 = some (r1, r2)) :
 Calls Tryz.prog 35 #[.int .i64 a0, .int .i64 a1] w fun e w' => e = .returned (.tuple #[.int .i64 r1, .int .i64 r2]) ∧ Drawn0 w w' := by
 have H : ((amount_within.f a0 0 4000000).bind fun t141 => (if t141 = true then ((amount_within.f a1 0 1000000000).bind fun t142 => (if t142 = true then ((amount_held.f (wrap64 (Int.tdiv (wrap64 ((wrap64 ((wrap64 (a0 * a1)) + 1000)) - 1)) 1000)) true).bind fun bt143 => (some (bt143.1, bt143.2))) else (some (0, 11)))) else (some (0, 11)))) = some (r1, r2) := h
 clear h
 replace H := Option.bind_eq_some_iff.mp H
 obtain ⟨t141, A30, H⟩ := H
 replace H : (if t141 = true then ((amount_within.f a1 0 1000000000).bind fun t142 => (if t142 = true then ((amount_held.f (wrap64 (Int.tdiv (wrap64 ((wrap64 ((wrap64 (a0 * a1)) + 1000)) - 1)) 1000)) true).bind fun bt143 => (some (bt143.1, bt143.2))) else (some (0, 11)))) else (some (0, 11))) = some (r1, r2) := H
 have A3 := Ak A30
 clear A30
 by_cases c4 : t141 = true
 ·subst c4
  have H1 : ((amount_within.f a1 0 1000000000).bind fun t142 => (if t142 = true then ((amount_held.f (wrap64 (Int.tdiv (wrap64 ((wrap64 ((wrap64 (a0 * a1)) + 1000)) - 1)) 1000)) true).bind fun bt143 => (some (bt143.1, bt143.2))) else (some (0, 11)))) = some (r1, r2) := by rw [if_pos rfl] at H; exact H
  clear H
  have H := H1
  clear H1
  replace H := Option.bind_eq_some_iff.mp H
  obtain ⟨t142, A50, H⟩ := H
  replace H : (if t142 = true then ((amount_held.f (wrap64 (Int.tdiv (wrap64 ((wrap64 ((wrap64 (a0 * a1)) + 1000)) - 1)) 1000)) true).bind fun bt143 => (some (bt143.1, bt143.2))) else (some (0, 11))) = some (r1, r2) := H
  have A5 := Ak A50
  clear A50
  by_cases c6 : t142 = true
  ·subst c6
   have H1 : ((amount_held.f (wrap64 (Int.tdiv (wrap64 ((wrap64 ((wrap64 (a0 * a1)) + 1000)) - 1)) 1000)) true).bind fun bt143 => (some (bt143.1, bt143.2))) = some (r1, r2) := by rw [if_pos rfl] at H; exact H
   clear H
   have H := H1
   clear H1
   replace H := Option.bind_eq_some_iff.mp H
   obtain ⟨⟨t143, t144⟩, A70, H⟩ := H
   replace H : (some (t143, t144)) = some (r1, r2) := H
   have A7 := Ak A70
   clear A70
   simp only [Option.some.injEq, Prod.mk.injEq] at H
   obtain ⟨rfl, rfl⟩ := H
   go_enter Tryz.func35, Tryz.ntmps35
   go_wp2_with (first | ((with_reducible refine gate_callee (f := 64) rfl ?_); refine goesL_ (some 7) rfl rfl Tryz.func64 (by kernel_rfl) rfl #[.int .i64 a0, .int .i64 0, .int .i64 4000000] rfl (by (try simp only [lm_, lc_, ln_]); first | done | rfl | (simp only [List.length_drop, List.length_take]; rfl)) ?_; (with_reducible refine (amount_within.calls a0 0 4000000 true _ A3.1).mono ?_); rintro e w' ⟨rfl, ⟨nd, rfl⟩⟩; refine ⟨_, rfl, ?_⟩) | (go_at_call 64; (with_reducible refine (amount_within.calls a1 0 1000000000 true _ A5.1).mono ?_); rintro e w' ⟨rfl, ⟨nd, rfl⟩⟩) | ((with_reducible refine gate_callee (f := 65) rfl ?_); refine goesL_ (some 20) rfl rfl Tryz.func65 (by kernel_rfl) rfl #[.int .i64 (wrap64 (Int.tdiv (wrap64 ((wrap64 ((wrap64 (a0 * a1)) + 1000)) - 1)) 1000)), .bool true] rfl (by (try simp only [lm_, lc_, ln_]); first | done | rfl | (simp only [List.length_drop, List.length_take]; rfl)) ?_; (with_reducible refine (amount_held.calls (wrap64 (Int.tdiv (wrap64 ((wrap64 ((wrap64 (a0 * a1)) + 1000)) - 1)) 1000)) true t143 t144 _ A7.1).mono ?_); rintro e w' ⟨rfl, ⟨nd, rfl⟩⟩; refine ⟨_, rfl, ?_⟩))
   go_ret2
   exact ⟨by first | rfl | (simp; done) | (simp [*]; done), by repeat (first | exact Drawn0.refl _ | apply Drawn0.step)⟩
  ·replace c6 := Bool.eq_false_iff.mpr c6
   subst c6
   have H1 : (some (0, 11)) = some (r1, r2) := by rw [if_neg (show ¬ (false = true) by decide)] at H; exact H
   clear H
   have H := H1
   clear H1
   simp only [Option.some.injEq, Prod.mk.injEq] at H
   obtain ⟨rfl, rfl⟩ := H
   go_enter Tryz.func35, Tryz.ntmps35
   go_wp2_with (first | ((with_reducible refine gate_callee (f := 64) rfl ?_); refine goesL_ (some 7) rfl rfl Tryz.func64 (by kernel_rfl) rfl #[.int .i64 a0, .int .i64 0, .int .i64 4000000] rfl (by (try simp only [lm_, lc_, ln_]); first | done | rfl | (simp only [List.length_drop, List.length_take]; rfl)) ?_; (with_reducible refine (amount_within.calls a0 0 4000000 true _ A3.1).mono ?_); rintro e w' ⟨rfl, ⟨nd, rfl⟩⟩; refine ⟨_, rfl, ?_⟩) | (go_at_call 64; (with_reducible refine (amount_within.calls a1 0 1000000000 false _ A5.1).mono ?_); rintro e w' ⟨rfl, ⟨nd, rfl⟩⟩))
   go_ret2
   exact ⟨by first | rfl | (simp; done) | (simp [*]; done), by repeat (first | exact Drawn0.refl _ | apply Drawn0.step)⟩
 ·replace c4 := Bool.eq_false_iff.mpr c4
  subst c4
  have H1 : (some (0, 11)) = some (r1, r2) := by rw [if_neg (show ¬ (false = true) by decide)] at H; exact H
  clear H
  have H := H1
  clear H1
  simp only [Option.some.injEq, Prod.mk.injEq] at H
  obtain ⟨rfl, rfl⟩ := H
  go_enter Tryz.func35, Tryz.ntmps35
  go_wp2_with (first | ((with_reducible refine gate_callee (f := 64) rfl ?_); refine goesL_ (some 7) rfl rfl Tryz.func64 (by kernel_rfl) rfl #[.int .i64 a0, .int .i64 0, .int .i64 4000000] rfl (by (try simp only [lm_, lc_, ln_]); first | done | rfl | (simp only [List.length_drop, List.length_take]; rfl)) ?_; (with_reducible refine (amount_within.calls a0 0 4000000 false _ A3.1).mono ?_); rintro e w' ⟨rfl, ⟨nd, rfl⟩⟩; refine ⟨_, rfl, ?_⟩))
  go_ret2
  exact ⟨by first | rfl | (simp; done) | (simp [*]; done), by repeat (first | exact Drawn0.refl _ | apply Drawn0.step)⟩
def oeq (x y : S32) : Bool := (x.f0.f0 == y.f0.f0 && (x.f0.f1 == y.f0.f1 && (x.f0.f2 == y.f0.f2 && (x.f0.f3 == y.f0.f3 && (x.f0.f4 == y.f0.f4 && (x.f0.f5 == y.f0.f5 && (x.f0.f6 == y.f0.f6 && (x.f0.f7 == y.f0.f7 && (x.f0.f8 == y.f0.f8 && (x.f0.f9 == y.f0.f9 && (x.f0.f10 == y.f0.f10 && (x.f0.f11 == y.f0.f11 && (x.f0.f12 == y.f0.f12 && (x.f0.f13 == y.f0.f13 && (x.f0.f14 == y.f0.f14 && (x.f0.f15 == y.f0.f15 && (x.f0.f16 == y.f0.f16 && (x.f0.f17 == y.f0.f17 && (x.f0.f18 == y.f0.f18 && (x.f0.f19 == y.f0.f19 && (x.f0.f20 == y.f0.f20 && (x.f0.f21 == y.f0.f21 && (x.f0.f22 == y.f0.f22 && (x.f0.f23 == y.f0.f23 && (x.f0.f24 == y.f0.f24 && (x.f0.f25 == y.f0.f25 && (x.f0.f26 == y.f0.f26 && (x.f0.f27 == y.f0.f27 && (x.f0.f28 == y.f0.f28 && (x.f0.f29 == y.f0.f29 && (x.f0.f30 == y.f0.f30 && (x.f0.f31 == y.f0.f31)))))))))))))))))))))))))))))))) && (x.f1 == y.f1)
def encIn (x : S79) : List Value := [.int .u8 x.f0.f0.f0, .int .u8 x.f0.f0.f1, .int .u8 x.f0.f0.f2, .int .u8 x.f0.f0.f3, .int .u8 x.f0.f0.f4, .int .u8 x.f0.f0.f5, .int .u8 x.f0.f0.f6, .int .u8 x.f0.f0.f7, .int .u8 x.f0.f0.f8, .int .u8 x.f0.f0.f9, .int .u8 x.f0.f0.f10, .int .u8 x.f0.f0.f11, .int .u8 x.f0.f0.f12, .int .u8 x.f0.f0.f13, .int .u8 x.f0.f0.f14, .int .u8 x.f0.f0.f15, .int .u8 x.f0.f0.f16, .int .u8 x.f0.f0.f17, .int .u8 x.f0.f0.f18, .int .u8 x.f0.f0.f19, .int .u8 x.f0.f0.f20, .int .u8 x.f0.f0.f21, .int .u8 x.f0.f0.f22, .int .u8 x.f0.f0.f23, .int .u8 x.f0.f0.f24, .int .u8 x.f0.f0.f25, .int .u8 x.f0.f0.f26, .int .u8 x.f0.f0.f27, .int .u8 x.f0.f0.f28, .int .u8 x.f0.f0.f29, .int .u8 x.f0.f0.f30, .int .u8 x.f0.f0.f31, .int .i64 x.f0.f1, .int .i64 x.f1, .int .i64 x.f2.f0, .int .i64 x.f2.f1, .string x.f2.f2]
theorem readsIn {w : World} {A : Option Addr} {n : Nat} {l : List S79} (h : Kd.C k79 w A n l) : ReadsRow (fun x c => c = encIn x) 37 w A n l :=
 ReadsRow.imp_ h (Below.refl _ w) (fun _ _ hp => k79_open hp)
theorem blk_in {w : World} {q : Nat} {o : Obj} (hm : w.heap[q]? = some o) : q < w.heap.size := by
 by_cases h : q < w.heap.size
 ·exact h
 ·rw [Array.getElem?_eq_none (by omega)] at hm; cases hm
attribute [local go_sem high] EqP.eqA34
set_option maxHeartbeats 1000000 in
set_option maxRecDepth 100000 in
theorem spends_lit (p : S32) (q : Nat) (w : World) (hm : w.heap[q]? = some (.cells #[.int .u8 p.f0.f0, .int .u8 p.f0.f1, .int .u8 p.f0.f2, .int .u8 p.f0.f3, .int .u8 p.f0.f4, .int .u8 p.f0.f5, .int .u8 p.f0.f6, .int .u8 p.f0.f7, .int .u8 p.f0.f8, .int .u8 p.f0.f9, .int .u8 p.f0.f10, .int .u8 p.f0.f11, .int .u8 p.f0.f12, .int .u8 p.f0.f13, .int .u8 p.f0.f14, .int .u8 p.f0.f15, .int .u8 p.f0.f16, .int .u8 p.f0.f17, .int .u8 p.f0.f18, .int .u8 p.f0.f19, .int .u8 p.f0.f20, .int .u8 p.f0.f21, .int .u8 p.f0.f22, .int .u8 p.f0.f23, .int .u8 p.f0.f24, .int .u8 p.f0.f25, .int .u8 p.f0.f26, .int .u8 p.f0.f27, .int .u8 p.f0.f28, .int .u8 p.f0.f29, .int .u8 p.f0.f30, .int .u8 p.f0.f31, .int .i64 p.f1] 32 (0, 0))) :
 PredBelow Tryz.prog 87 #[.pointer (some ⟨q, 0, none⟩)] (fun x => .agg (encIn x).toArray) (fun x => oeq x.f0 p) w := fun W x hb => by
 have HM := Ak ((hb.block q (blk_in hm)).trans hm)
 have HB := Ak hb
 clear hm hb
 have e1 : (#[Value.agg (encIn x).toArray] ++ #[Value.pointer (some ⟨q, 0, none⟩)] : Array Value) = #[.agg #[.int .u8 x.f0.f0.f0, .int .u8 x.f0.f0.f1, .int .u8 x.f0.f0.f2, .int .u8 x.f0.f0.f3, .int .u8 x.f0.f0.f4, .int .u8 x.f0.f0.f5, .int .u8 x.f0.f0.f6, .int .u8 x.f0.f0.f7, .int .u8 x.f0.f0.f8, .int .u8 x.f0.f0.f9, .int .u8 x.f0.f0.f10, .int .u8 x.f0.f0.f11, .int .u8 x.f0.f0.f12, .int .u8 x.f0.f0.f13, .int .u8 x.f0.f0.f14, .int .u8 x.f0.f0.f15, .int .u8 x.f0.f0.f16, .int .u8 x.f0.f0.f17, .int .u8 x.f0.f0.f18, .int .u8 x.f0.f0.f19, .int .u8 x.f0.f0.f20, .int .u8 x.f0.f0.f21, .int .u8 x.f0.f0.f22, .int .u8 x.f0.f0.f23, .int .u8 x.f0.f0.f24, .int .u8 x.f0.f0.f25, .int .u8 x.f0.f0.f26, .int .u8 x.f0.f0.f27, .int .u8 x.f0.f0.f28, .int .u8 x.f0.f0.f29, .int .u8 x.f0.f0.f30, .int .u8 x.f0.f0.f31, .int .i64 x.f0.f1, .int .i64 x.f1, .int .i64 x.f2.f0, .int .i64 x.f2.f1, .string x.f2.f2], .pointer (some ⟨q, 0, none⟩)] := by simp [encIn]
 show Calls _ _ (#[Value.agg (encIn x).toArray] ++ #[Value.pointer (some ⟨q, 0, none⟩)]) W (fun e w' => e = Ending.returned (Value.bool (oeq x.f0 p)) ∧ Below w.heap.size w w')
 rw [e1]
 clear e1
 go_enter Tryz.func87, Tryz.ntmps87
 go_wp2_with (first | ((with_reducible refine gate_dst (N := 2) rfl ?_); refine box_event ?hg (N := 2) ?hd (cs := #[.int .u8 x.f0.f0.f0, .int .u8 x.f0.f0.f1, .int .u8 x.f0.f0.f2, .int .u8 x.f0.f0.f3, .int .u8 x.f0.f0.f4, .int .u8 x.f0.f0.f5, .int .u8 x.f0.f0.f6, .int .u8 x.f0.f0.f7, .int .u8 x.f0.f0.f8, .int .u8 x.f0.f0.f9, .int .u8 x.f0.f0.f10, .int .u8 x.f0.f0.f11, .int .u8 x.f0.f0.f12, .int .u8 x.f0.f0.f13, .int .u8 x.f0.f0.f14, .int .u8 x.f0.f0.f15, .int .u8 x.f0.f0.f16, .int .u8 x.f0.f0.f17, .int .u8 x.f0.f0.f18, .int .u8 x.f0.f0.f19, .int .u8 x.f0.f0.f20, .int .u8 x.f0.f0.f21, .int .u8 x.f0.f0.f22, .int .u8 x.f0.f0.f23, .int .u8 x.f0.f0.f24, .int .u8 x.f0.f0.f25, .int .u8 x.f0.f0.f26, .int .u8 x.f0.f0.f27, .int .u8 x.f0.f0.f28, .int .u8 x.f0.f0.f29, .int .u8 x.f0.f0.f30, .int .u8 x.f0.f0.f31, .int .i64 x.f0.f1, .int .i64 x.f1, .int .i64 x.f2.f0, .int .i64 x.f2.f1, .string x.f2.f2]) (t := 79) ?hr ?_; (case hd => rfl); (case hg => rfl); (case hr => first | (go_simp; done) | (go_simp; rfl)); intro gb hg w3 hbox hb; have HM3 := Ak (blk_below HM.1 hb); have HB3 := Ak (below_step HB.1 hb); have BK := Ak hbox; clear HM HB hbox hb hg; have hx0 : w3.cell? ⟨q, 0, none⟩ = some _ := (blk_cell HM3.1 0).trans rfl; have hx1 : w3.cell? ⟨q, 1, none⟩ = some _ := (blk_cell HM3.1 1).trans rfl; have hx2 : w3.cell? ⟨q, 2, none⟩ = some _ := (blk_cell HM3.1 2).trans rfl; have hx3 : w3.cell? ⟨q, 3, none⟩ = some _ := (blk_cell HM3.1 3).trans rfl; have hx4 : w3.cell? ⟨q, 4, none⟩ = some _ := (blk_cell HM3.1 4).trans rfl; have hx5 : w3.cell? ⟨q, 5, none⟩ = some _ := (blk_cell HM3.1 5).trans rfl; have hx6 : w3.cell? ⟨q, 6, none⟩ = some _ := (blk_cell HM3.1 6).trans rfl; have hx7 : w3.cell? ⟨q, 7, none⟩ = some _ := (blk_cell HM3.1 7).trans rfl; have hx8 : w3.cell? ⟨q, 8, none⟩ = some _ := (blk_cell HM3.1 8).trans rfl; have hx9 : w3.cell? ⟨q, 9, none⟩ = some _ := (blk_cell HM3.1 9).trans rfl; have hx10 : w3.cell? ⟨q, 10, none⟩ = some _ := (blk_cell HM3.1 10).trans rfl; have hx11 : w3.cell? ⟨q, 11, none⟩ = some _ := (blk_cell HM3.1 11).trans rfl; have hx12 : w3.cell? ⟨q, 12, none⟩ = some _ := (blk_cell HM3.1 12).trans rfl; have hx13 : w3.cell? ⟨q, 13, none⟩ = some _ := (blk_cell HM3.1 13).trans rfl; have hx14 : w3.cell? ⟨q, 14, none⟩ = some _ := (blk_cell HM3.1 14).trans rfl; have hx15 : w3.cell? ⟨q, 15, none⟩ = some _ := (blk_cell HM3.1 15).trans rfl; have hx16 : w3.cell? ⟨q, 16, none⟩ = some _ := (blk_cell HM3.1 16).trans rfl; have hx17 : w3.cell? ⟨q, 17, none⟩ = some _ := (blk_cell HM3.1 17).trans rfl; have hx18 : w3.cell? ⟨q, 18, none⟩ = some _ := (blk_cell HM3.1 18).trans rfl; have hx19 : w3.cell? ⟨q, 19, none⟩ = some _ := (blk_cell HM3.1 19).trans rfl; have hx20 : w3.cell? ⟨q, 20, none⟩ = some _ := (blk_cell HM3.1 20).trans rfl; have hx21 : w3.cell? ⟨q, 21, none⟩ = some _ := (blk_cell HM3.1 21).trans rfl; have hx22 : w3.cell? ⟨q, 22, none⟩ = some _ := (blk_cell HM3.1 22).trans rfl; have hx23 : w3.cell? ⟨q, 23, none⟩ = some _ := (blk_cell HM3.1 23).trans rfl; have hx24 : w3.cell? ⟨q, 24, none⟩ = some _ := (blk_cell HM3.1 24).trans rfl; have hx25 : w3.cell? ⟨q, 25, none⟩ = some _ := (blk_cell HM3.1 25).trans rfl; have hx26 : w3.cell? ⟨q, 26, none⟩ = some _ := (blk_cell HM3.1 26).trans rfl; have hx27 : w3.cell? ⟨q, 27, none⟩ = some _ := (blk_cell HM3.1 27).trans rfl; have hx28 : w3.cell? ⟨q, 28, none⟩ = some _ := (blk_cell HM3.1 28).trans rfl; have hx29 : w3.cell? ⟨q, 29, none⟩ = some _ := (blk_cell HM3.1 29).trans rfl; have hx30 : w3.cell? ⟨q, 30, none⟩ = some _ := (blk_cell HM3.1 30).trans rfl; have hx31 : w3.cell? ⟨q, 31, none⟩ = some _ := (blk_cell HM3.1 31).trans rfl; have hx32 : w3.cell? ⟨q, 32, none⟩ = some _ := (blk_cell HM3.1 32).trans rfl; have hwx := Wide.mk33 (a := ⟨q, 0, none⟩) hx0 hx1 hx2 hx3 hx4 hx5 hx6 hx7 hx8 hx9 hx10 hx11 hx12 hx13 hx14 hx15 hx16 hx17 hx18 hx19 hx20 hx21 hx22 hx23 hx24 hx25 hx26 hx27 hx28 hx29 hx30 hx31 hx32; clear hx0 hx1 hx2 hx3 hx4 hx5 hx6 hx7 hx8 hx9 hx10 hx11 hx12 hx13 hx14 hx15 hx16 hx17 hx18 hx19 hx20 hx21 hx22 hx23 hx24 hx25 hx26 hx27 hx28 hx29 hx30 hx31 hx32; have hx0 : w3.cell? ⟨gb, 0, none⟩ = some _ := (blk_cell BK.1 0).trans rfl; have hx1 : w3.cell? ⟨gb, 1, none⟩ = some _ := (blk_cell BK.1 1).trans rfl; have hx2 : w3.cell? ⟨gb, 2, none⟩ = some _ := (blk_cell BK.1 2).trans rfl; have hx3 : w3.cell? ⟨gb, 3, none⟩ = some _ := (blk_cell BK.1 3).trans rfl; have hx4 : w3.cell? ⟨gb, 4, none⟩ = some _ := (blk_cell BK.1 4).trans rfl; have hx5 : w3.cell? ⟨gb, 5, none⟩ = some _ := (blk_cell BK.1 5).trans rfl; have hx6 : w3.cell? ⟨gb, 6, none⟩ = some _ := (blk_cell BK.1 6).trans rfl; have hx7 : w3.cell? ⟨gb, 7, none⟩ = some _ := (blk_cell BK.1 7).trans rfl; have hx8 : w3.cell? ⟨gb, 8, none⟩ = some _ := (blk_cell BK.1 8).trans rfl; have hx9 : w3.cell? ⟨gb, 9, none⟩ = some _ := (blk_cell BK.1 9).trans rfl; have hx10 : w3.cell? ⟨gb, 10, none⟩ = some _ := (blk_cell BK.1 10).trans rfl; have hx11 : w3.cell? ⟨gb, 11, none⟩ = some _ := (blk_cell BK.1 11).trans rfl; have hx12 : w3.cell? ⟨gb, 12, none⟩ = some _ := (blk_cell BK.1 12).trans rfl; have hx13 : w3.cell? ⟨gb, 13, none⟩ = some _ := (blk_cell BK.1 13).trans rfl; have hx14 : w3.cell? ⟨gb, 14, none⟩ = some _ := (blk_cell BK.1 14).trans rfl; have hx15 : w3.cell? ⟨gb, 15, none⟩ = some _ := (blk_cell BK.1 15).trans rfl; have hx16 : w3.cell? ⟨gb, 16, none⟩ = some _ := (blk_cell BK.1 16).trans rfl; have hx17 : w3.cell? ⟨gb, 17, none⟩ = some _ := (blk_cell BK.1 17).trans rfl; have hx18 : w3.cell? ⟨gb, 18, none⟩ = some _ := (blk_cell BK.1 18).trans rfl; have hx19 : w3.cell? ⟨gb, 19, none⟩ = some _ := (blk_cell BK.1 19).trans rfl; have hx20 : w3.cell? ⟨gb, 20, none⟩ = some _ := (blk_cell BK.1 20).trans rfl; have hx21 : w3.cell? ⟨gb, 21, none⟩ = some _ := (blk_cell BK.1 21).trans rfl; have hx22 : w3.cell? ⟨gb, 22, none⟩ = some _ := (blk_cell BK.1 22).trans rfl; have hx23 : w3.cell? ⟨gb, 23, none⟩ = some _ := (blk_cell BK.1 23).trans rfl; have hx24 : w3.cell? ⟨gb, 24, none⟩ = some _ := (blk_cell BK.1 24).trans rfl; have hx25 : w3.cell? ⟨gb, 25, none⟩ = some _ := (blk_cell BK.1 25).trans rfl; have hx26 : w3.cell? ⟨gb, 26, none⟩ = some _ := (blk_cell BK.1 26).trans rfl; have hx27 : w3.cell? ⟨gb, 27, none⟩ = some _ := (blk_cell BK.1 27).trans rfl; have hx28 : w3.cell? ⟨gb, 28, none⟩ = some _ := (blk_cell BK.1 28).trans rfl; have hx29 : w3.cell? ⟨gb, 29, none⟩ = some _ := (blk_cell BK.1 29).trans rfl; have hx30 : w3.cell? ⟨gb, 30, none⟩ = some _ := (blk_cell BK.1 30).trans rfl; have hx31 : w3.cell? ⟨gb, 31, none⟩ = some _ := (blk_cell BK.1 31).trans rfl; have hx32 : w3.cell? ⟨gb, 32, none⟩ = some _ := (blk_cell BK.1 32).trans rfl; have hwy := Wide.mk33 (a := ⟨gb, 0, none⟩) hx0 hx1 hx2 hx3 hx4 hx5 hx6 hx7 hx8 hx9 hx10 hx11 hx12 hx13 hx14 hx15 hx16 hx17 hx18 hx19 hx20 hx21 hx22 hx23 hx24 hx25 hx26 hx27 hx28 hx29 hx30 hx31 hx32; clear hx0 hx1 hx2 hx3 hx4 hx5 hx6 hx7 hx8 hx9 hx10 hx11 hx12 hx13 hx14 hx15 hx16 hx17 hx18 hx19 hx20 hx21 hx22 hx23 hx24 hx25 hx26 hx27 hx28 hx29 hx30 hx31 hx32))
 go_ret
 exact ⟨rfl, HB3.1⟩
shelf_lay_g SlLaysH0.n6 Slgf 6 at Tryz 86 as layIndexIn
def tx_Spends.f (l0_0 : List S79) (l0_1 : List S90) (a0_2 a1_0 a1_1 a1_2 a1_3 a1_4 a1_5 a1_6 a1_7 a1_8 a1_9 a1_10 a1_11 a1_12 a1_13 a1_14 a1_15 a1_16 a1_17 a1_18 a1_19 a1_20 a1_21 a1_22 a1_23 a1_24 a1_25 a1_26 a1_27 a1_28 a1_29 a1_30 a1_31 a1_32 : Int) : Option Int :=
 some (FindQ.firstOf (fun x => oeq x.f0 (⟨(⟨a1_0, a1_1, a1_2, a1_3, a1_4, a1_5, a1_6, a1_7, a1_8, a1_9, a1_10, a1_11, a1_12, a1_13, a1_14, a1_15, a1_16, a1_17, a1_18, a1_19, a1_20, a1_21, a1_22, a1_23, a1_24, a1_25, a1_26, a1_27, a1_28, a1_29, a1_30, a1_31⟩ : S30), a1_32⟩ : S32)) l0_0)
set_option maxHeartbeats 4000000 in
set_option maxRecDepth 100000 in
theorem tx_Spends.calls (A0_0 : Option Addr) (c0_0 : Nat) (l0_0 : List S79) (A0_1 : Option Addr) (c0_1 : Nat) (l0_1 : List S90) (a0_2 a1_0 a1_1 a1_2 a1_3 a1_4 a1_5 a1_6 a1_7 a1_8 a1_9 a1_10 a1_11 a1_12 a1_13 a1_14 a1_15 a1_16 a1_17 a1_18 a1_19 a1_20 a1_21 a1_22 a1_23 a1_24 a1_25 a1_26 a1_27 a1_28 a1_29 a1_30 a1_31 a1_32 r : Int) (w : World) (hr0_0 : Kd.C k79 w A0_0 l0_0.length l0_0) (hc0_0 : l0_0.length ≤ c0_0) (hr0_1 : Kd.C k90 w A0_1 l0_1.length l0_1) (hc0_1 : l0_1.length ≤ c0_1)
 (h : tx_Spends.f l0_0 l0_1 a0_2 a1_0 a1_1 a1_2 a1_3 a1_4 a1_5 a1_6 a1_7 a1_8 a1_9 a1_10 a1_11 a1_12 a1_13 a1_14 a1_15 a1_16 a1_17 a1_18 a1_19 a1_20 a1_21 a1_22 a1_23 a1_24 a1_25 a1_26 a1_27 a1_28 a1_29 a1_30 a1_31 a1_32 = some r) :
 Calls Tryz.prog 68 #[.agg #[.slice A0_0 l0_0.length c0_0, .slice A0_1 l0_1.length c0_1, .int .i64 a0_2], .agg #[.int .u8 a1_0, .int .u8 a1_1, .int .u8 a1_2, .int .u8 a1_3, .int .u8 a1_4, .int .u8 a1_5, .int .u8 a1_6, .int .u8 a1_7, .int .u8 a1_8, .int .u8 a1_9, .int .u8 a1_10, .int .u8 a1_11, .int .u8 a1_12, .int .u8 a1_13, .int .u8 a1_14, .int .u8 a1_15, .int .u8 a1_16, .int .u8 a1_17, .int .u8 a1_18, .int .u8 a1_19, .int .u8 a1_20, .int .u8 a1_21, .int .u8 a1_22, .int .u8 a1_23, .int .u8 a1_24, .int .u8 a1_25, .int .u8 a1_26, .int .u8 a1_27, .int .u8 a1_28, .int .u8 a1_29, .int .u8 a1_30, .int .u8 a1_31, .int .i64 a1_32]] w fun e w' => e = .returned (.int .i64 r) ∧ Below w.heap.size w w' := by
 obtain rfl := Option.some.inj h
 have HR := Ak hr0_0
 have HB := Ak (Below.refl w.heap.size w)
 clear h hr0_0 hr0_1
 have eg : ∀ args w, (callFunc 87 args).run Tryz.prog w = .ok (.enter 87 args) w := enters_of Tryz.func87 (by kernel_rfl) rfl
 have EG := Ak eg
 clear eg
 go_enter Tryz.func68, Tryz.ntmps68
 go_wp2_with (first | ((with_reducible refine gate_dst (N := 2) rfl ?_); refine box_event ?hg (N := 2) ?hd (cs := #[.slice A0_0 l0_0.length c0_0, .slice A0_1 l0_1.length c0_1, .int .i64 a0_2]) (t := 48) ?hr ?_; (case hd => rfl); (case hg => rfl); (case hr => first | (go_simp; done) | (go_simp; rfl)); intro gb hg w3 hbox hb; have HB3 := Ak (below_step HB.1 hb); have BK3 := Ak hbox; clear HB hbox hb hg) | ((with_reducible refine gate_dst (N := 3) rfl ?_); refine box_event ?hg (N := 3) ?hd (cs := #[.int .u8 a1_0, .int .u8 a1_1, .int .u8 a1_2, .int .u8 a1_3, .int .u8 a1_4, .int .u8 a1_5, .int .u8 a1_6, .int .u8 a1_7, .int .u8 a1_8, .int .u8 a1_9, .int .u8 a1_10, .int .u8 a1_11, .int .u8 a1_12, .int .u8 a1_13, .int .u8 a1_14, .int .u8 a1_15, .int .u8 a1_16, .int .u8 a1_17, .int .u8 a1_18, .int .u8 a1_19, .int .u8 a1_20, .int .u8 a1_21, .int .u8 a1_22, .int .u8 a1_23, .int .u8 a1_24, .int .u8 a1_25, .int .u8 a1_26, .int .u8 a1_27, .int .u8 a1_28, .int .u8 a1_29, .int .u8 a1_30, .int .u8 a1_31, .int .i64 a1_32]) (t := 32) ?hr ?_; (case hd => rfl); (case hg => rfl); (case hr => first | (go_simp; done) | (go_simp; rfl)); intro gp hg w4 hbox hb; have HB4 := Ak (below_step HB3.1 hb); have BK4 := Ak (blk_below BK3.1 hb); have BP4 := Ak hbox; clear HB3 BK3 hbox hb hg; have hz0 : w4.cell? ⟨gb, 0, none⟩ = some (.slice A0_0 l0_0.length c0_0) := (blk_cell BK4.1 0).trans rfl) | (go_at_call 86; refine (FindQ.index_row layIndexIn 37 Tryz.isAgg79 Tryz.sizeOf79 encIn (fun _ => rfl) (fun x => oeq x.f0 (⟨(⟨a1_0, a1_1, a1_2, a1_3, a1_4, a1_5, a1_6, a1_7, a1_8, a1_9, a1_10, a1_11, a1_12, a1_13, a1_14, a1_15, a1_16, a1_17, a1_18, a1_19, a1_20, a1_21, a1_22, a1_23, a1_24, a1_25, a1_26, a1_27, a1_28, a1_29, a1_30, a1_31⟩ : S30), a1_32⟩ : S32)) 87 #[.pointer (some ⟨gp, 0, none⟩)] EG.1 A0_0 c0_0 l0_0 _ (spends_lit (⟨(⟨a1_0, a1_1, a1_2, a1_3, a1_4, a1_5, a1_6, a1_7, a1_8, a1_9, a1_10, a1_11, a1_12, a1_13, a1_14, a1_15, a1_16, a1_17, a1_18, a1_19, a1_20, a1_21, a1_22, a1_23, a1_24, a1_25, a1_26, a1_27, a1_28, a1_29, a1_30, a1_31⟩ : S30), a1_32⟩ : S32) gp _ BP4.1) (readsIn (Kd.C_below HR.1 HB4.1))).mono ?_; rintro e w' ⟨rfl, hb'⟩))
 go_ret
 exact ⟨rfl, below_then HB4.1 (Below.size HB4.1) hb'⟩
end Go.Proofs.YtiodebjjbgcbhaaGreat.QLef
