/- Functions of the program as plain Lean functions, and that its calls come to what these tell: written by a program of this session; Lean checks it. -/
import Derived.Test.YtiodebjjbgcbhaaQRepx0
namespace Go.Proofs.Ytiodebjjbgcbhaa.QRep
open Go.RowKit Go.Proofs.YtiodebjjbgcbhaaW.PrintWords Go.Proofs.YtiodebjjbgcbhaaW.PrintLast Go.Proofs.YtiodebjjbgcbhaaW.PrintMore
attribute [local go_sem] max2_int min2_int max_two min_two max_three min_three max_four min_four  run_fop run_feq run_fne run_flt run_fle run_fgt run_fge run_fint run_toi run_real' run_imag' run_complex' run_ceq run_cne run_cadd run_csub run_cmul Go.Proofs.Ytiodebjjbgcbhaa.Wide.cellsAt_drewN Go.Proofs.Ytiodebjjbgcbhaa.Wide.cellsAt_drew Go.Proofs.Ytiodebjjbgcbhaa.Wide.lw32 Go.Proofs.Ytiodebjjbgcbhaa.Wide.lw33 Go.Proofs.Ytiodebjjbgcbhaa.Wide.lw37 Go.Proofs.Ytiodebjjbgcbhaa.Wide.lw38 Go.Proofs.Ytiodebjjbgcbhaa.Wide.lw39 Go.Proofs.Ytiodebjjbgcbhaa.Wide.lw44
attribute [local go_sem ↓ high] Go.Proofs.Ytiodebjjbgcbhaa.Wide.hv32 Go.Proofs.Ytiodebjjbgcbhaa.Wide.hv33 Go.Proofs.Ytiodebjjbgcbhaa.Wide.hv37 Go.Proofs.Ytiodebjjbgcbhaa.Wide.hv38 Go.Proofs.Ytiodebjjbgcbhaa.Wide.hv39 Go.Proofs.Ytiodebjjbgcbhaa.Wide.hv44
set_option linter.unusedVariables false
set_option linter.unusedSimpArgs false

/-! ### coracleref1_Wit: function 28 -/
def coracleref1_Wit.f (a0 : Int) : Option (Int) := if a0 = 1 then (some 74) else (if a0 = 2 then (some 107) else (if a0 = 3 then (some 76) else (if a0 = 4 then (some 1) else (some 0))))
set_option maxHeartbeats 8000000 in
set_option maxRecDepth 100000 in
theorem coracleref1_Wit.calls (a0 : Int) (r : Int) (w : World) (h : coracleref1_Wit.f a0 = some r) :
    Calls Try.prog 28 #[.int .i64 a0] w fun e w' => e = .returned (.int .i64 r) ∧ Drawn0 w w' := by
  have H : (if a0 = 1 then (some 74) else (if a0 = 2 then (some 107) else (if a0 = 3 then (some 76) else (if a0 = 4 then (some 1) else (some 0))))) = some r := h
  clear h
  by_cases c2 : a0 = 1
  · rw [if_pos c2] at H
    have c2b0 : (a0 == 1) = true := beq_iff_eq.mpr c2
    have c2b1 : (a0 != 1) = false := bne_eq_false_iff_eq.mpr c2
    clear c2
    obtain rfl := Option.some.inj H
    go_enter Try.func28, Try.ntmps28
    go_wp2
    go_ret
    exact ⟨by first | rfl | (simp; done) | (simp [*]; done), by repeat (first | exact Drawn0.refl _ | apply Drawn0.step)⟩
  · rw [if_neg c2] at H
    have c2b0 : (a0 == 1) = false := beq_eq_false_iff_ne.mpr c2
    have c2b1 : (a0 != 1) = true := bne_iff_ne.mpr c2
    by_cases c3 : a0 = 2
    · rw [if_pos c3] at H
      have c3b0 : (a0 == 2) = true := beq_iff_eq.mpr c3
      have c3b1 : (a0 != 2) = false := bne_eq_false_iff_eq.mpr c3
      clear c3
      obtain rfl := Option.some.inj H
      go_enter Try.func28, Try.ntmps28
      go_wp2
      go_ret
      exact ⟨by first | rfl | (simp; done) | (simp [*]; done), by repeat (first | exact Drawn0.refl _ | apply Drawn0.step)⟩
    · rw [if_neg c3] at H
      have c3b0 : (a0 == 2) = false := beq_eq_false_iff_ne.mpr c3
      have c3b1 : (a0 != 2) = true := bne_iff_ne.mpr c3
      by_cases c4 : a0 = 3
      · rw [if_pos c4] at H
        have c4b0 : (a0 == 3) = true := beq_iff_eq.mpr c4
        have c4b1 : (a0 != 3) = false := bne_eq_false_iff_eq.mpr c4
        clear c4
        obtain rfl := Option.some.inj H
        go_enter Try.func28, Try.ntmps28
        go_wp2
        go_ret
        exact ⟨by first | rfl | (simp; done) | (simp [*]; done), by repeat (first | exact Drawn0.refl _ | apply Drawn0.step)⟩
      · rw [if_neg c4] at H
        have c4b0 : (a0 == 3) = false := beq_eq_false_iff_ne.mpr c4
        have c4b1 : (a0 != 3) = true := bne_iff_ne.mpr c4
        by_cases c5 : a0 = 4
        · rw [if_pos c5] at H
          have c5b0 : (a0 == 4) = true := beq_iff_eq.mpr c5
          have c5b1 : (a0 != 4) = false := bne_eq_false_iff_eq.mpr c5
          clear c5
          obtain rfl := Option.some.inj H
          go_enter Try.func28, Try.ntmps28
          go_wp2
          go_ret
          exact ⟨by first | rfl | (simp; done) | (simp [*]; done), by repeat (first | exact Drawn0.refl _ | apply Drawn0.step)⟩
        · rw [if_neg c5] at H
          have c5b0 : (a0 == 4) = false := beq_eq_false_iff_ne.mpr c5
          have c5b1 : (a0 != 4) = true := bne_iff_ne.mpr c5
          obtain rfl := Option.some.inj H
          go_enter Try.func28, Try.ntmps28
          go_wp2
          go_ret
          exact ⟨by first | rfl | (simp; done) | (simp [*]; done), by repeat (first | exact Drawn0.refl _ | apply Drawn0.step)⟩

/-! ### coracleref1_Weight: function 11 -/
def coracleref1_Weight.l0 : Nat → Int → Int → List (S38) → List (S64) → Int → Option (Int)
  | 0, _, _, _, _, _ => none
  | k + 1, x3, x4, x249000, x249001, x249002 => if x4 < (x249000.length : Int) then (if 0 ≤ x4 then ((coracleref1_Wit.f ((rd_T38 x249000 x4).f2.f0)).bind fun t250 => (coracleref1_Weight.l0 k (wrap64 (x3 + t250)) (wrap64 (x4 + 1)) x249000 x249001 x249002)) else (none)) else (some x3)
def coracleref1_Weight.f (k : Nat) (l0_0 : List (S38)) (l0_1 : List (S64)) (a0_2 : Int) : Option (Int) := coracleref1_Weight.l0 k (wrap64 (4 * (wrap64 ((wrap64 (10 + (wrap64 (41 * (l0_0.length : Int))))) + (wrap64 (34 * (l0_1.length : Int))))))) 0 l0_0 l0_1 a0_2
theorem coracleref1_Weight.mono_l : ∀ k, (∀ y0 y1 y2 y3 y4, LeO (coracleref1_Weight.l0 k y0 y1 y2 y3 y4) (coracleref1_Weight.l0 (k + 1) y0 y1 y2 y3 y4))
  | 0 => fun _ _ _ _ _ r h => by simp [coracleref1_Weight.l0] at h
  | k + 1 => by
    have ih0 := coracleref1_Weight.mono_l k
    · intro y0 y1 y2 y3 y4
      unfold coracleref1_Weight.l0
      repeat' first
      | (with_reducible exact ih0 _ _ _ _ _)
      | (with_reducible exact LeO.refl _)
      | (with_reducible exact LeO.none _)
      | (with_reducible refine LeO.ite ?_ ?_)
      | (with_reducible refine LeO.bind ?_ (fun _ => ?_))
      | exact ih0 _ _ _ _ _
      | exact LeO.none _
      | refine LeO.ite ?_ ?_
      | refine LeO.bind ?_ (fun _ => ?_)
theorem coracleref1_Weight.mono : ∀ a0 a1 a2 k, LeO (coracleref1_Weight.f k a0 a1 a2) (coracleref1_Weight.f (k + 1) a0 a1 a2) := by
  intro a0 a1 a2 k
  have ih0 := coracleref1_Weight.mono_l k
  unfold coracleref1_Weight.f
  repeat' first
      | (with_reducible exact ih0 _ _ _ _ _)
      | (with_reducible exact LeO.refl _)
      | (with_reducible exact LeO.none _)
      | (with_reducible refine LeO.ite ?_ ?_)
      | (with_reducible refine LeO.bind ?_ (fun _ => ?_))
      | exact ih0 _ _ _ _ _
      | exact LeO.none _
      | refine LeO.ite ?_ ?_
      | refine LeO.bind ?_ (fun _ => ?_)
set_option maxHeartbeats 8000000 in
set_option maxRecDepth 100000 in
theorem coracleref1_Weight.calls (k : Nat) (A0_0 : Option Addr) (c0_0 : Nat) (l0_0 : List (S38)) (A0_1 : Option Addr) (c0_1 : Nat) (l0_1 : List (S64)) (a0_2 : Int) (r : Int) (w : World) (hr0_0 : Kd.C k38 w A0_0 l0_0.length l0_0) (hc0_0 : l0_0.length ≤ c0_0) (hr0_1 : Kd.C k64 w A0_1 l0_1.length l0_1) (hc0_1 : l0_1.length ≤ c0_1) (h : coracleref1_Weight.f k l0_0 l0_1 a0_2 = some r) :
    Calls Try.prog 11 #[.agg #[.slice A0_0 l0_0.length c0_0, .slice A0_1 l0_1.length c0_1, .int .i64 a0_2]] w fun e w' => e = .returned (.int .i64 r) ∧ Below w.heap.size w w' := by
  have hu28 := Try.underlying28
  have HR0_0 := Aside0.mk hr0_0
  have HC0_0 := Aside0.mk hc0_0
  clear hr0_0 hc0_0
  have HR0_1 := Aside0.mk hr0_1
  have HC0_1 := Aside0.mk hc0_1
  clear hr0_1 hc0_1
  have HB := Aside0.mk (Below.refl w.heap.size w)
  have H : (coracleref1_Weight.l0 k (wrap64 (4 * (wrap64 ((wrap64 (10 + (wrap64 (41 * (l0_0.length : Int))))) + (wrap64 (34 * (l0_1.length : Int))))))) 0 l0_0 l0_1 a0_2) = some r := h
  clear h
  have H' := Aside0.mk H
  clear H
  go_enter Try.func11, Try.ntmps11
  go_wp2_with (first | ((with_reducible refine gate_dst (N := 1) rfl ?_); refine box_event ?hg (N := 1) ?hd (cs := #[.slice A0_0 l0_0.length c0_0, .slice A0_1 l0_1.length c0_1, .int .i64 a0_2]) (t := 28) ?hr ?_; (case hd => rfl); (case hg => rfl); (case hr => first | (go_simp; done) | (go_simp; rfl)); intro gb248 hg w2 hbox hb; have n0_ := Aside0.mk (below_step (by repeat (first | (with_reducible first | exact HB.out | apply below_alloc | apply pw_below_drewN | apply below_drew1) | exact HB.out)) hb); have n1_ := Aside0.mk (hbox); have n2_ := Aside0.mk ((by rw [hg]; exact (below_size (by repeat (first | (with_reducible first | exact HB.out | apply below_alloc | apply pw_below_drewN | apply below_drew1) | exact HB.out))) : w.heap.size ≤ gb248)); have n3_ := Aside0.mk ((by rw [hg]; exact (below_size (by repeat (first | (with_reducible first | exact HB.out | apply below_alloc | apply pw_below_drewN | apply below_drew1) | exact HB.out))) : w.heap.size ≤ gb248)); clear HB; have HB := n0_; have BK248 := n1_; have GW248 := n2_; have GE248 := n3_; clear n0_ n1_ n2_ n3_; clear hb hbox hg; have hcz3_0 : w2.cell? ⟨gb248, 0, none⟩ = some (.slice A0_0 l0_0.length c0_0) := (blk_cell BK248.out 0).trans rfl; have hcz3_1 : w2.cell? ⟨gb248, 1, none⟩ = some (.slice A0_1 l0_1.length c0_1) := (blk_cell BK248.out 1).trans rfl; have hcz3_2 : w2.cell? ⟨gb248, 2, none⟩ = some (.int .i64 a0_2) := (blk_cell BK248.out 2).trans rfl; have hfz3_0 := blk_frozen BK248.out 0; have hfz3_1 := blk_frozen BK248.out 1; have hfz3_2 := blk_frozen BK248.out 2))
  go_loopg [3, 4] k (fun kq v3 v4 w' => ∃ (x3_1 : Int) (x4_1 : Int), v3 = .int .i64 x3_1 ∧ v4 = .int .i64 x4_1 ∧ Aside0 (coracleref1_Weight.l0 kq x3_1 x4_1 l0_0 l0_1 a0_2 = some r) ∧ Aside0 (kq ≤ k) ∧ Aside0 (w'.heap[gb248]? = some (.cells #[(.slice A0_0 l0_0.length c0_0), (.slice A0_1 l0_1.length c0_1), .int .i64 a0_2] 28 (0, 0))) ∧ Aside0 (Below w.heap.size w w'))
  case atStart => exact ⟨(wrap64 (4 * (wrap64 ((wrap64 (10 + (wrap64 (41 * (l0_0.length : Int))))) + (wrap64 (34 * (l0_1.length : Int))))))), (0), (by first | rfl | (simp; done) | (simp [*]; done)), (by first | rfl | (simp; done) | (simp [*]; done)), H', ⟨Nat.le_refl _⟩, ⟨by (with_reducible repeat (first | refine blk_drewN ?_ _ | refine blk_drew ?_ | refine blk_alloc ?_ _)); exact BK248.out⟩, ⟨by repeat (first | (with_reducible first | exact HB.out | apply below_alloc | apply pw_below_drewN | apply below_drew1 | refine below_set ?_ GE248.out) | exact HB.out)⟩⟩
  case round =>
    clear H'
    try clear c1
    try clear p2
    try clear hcz3_0
    try clear hcz3_1
    try clear hcz3_2
    try clear hfz3_0
    try clear hfz3_1
    try clear hfz3_2
    obtain ⟨x3_1, x4_1, rfl, rfl, HA, HK1, BK248, HB⟩ := hrel
    cases gk with
    | zero => exact absurd HA.out (by simp [coracleref1_Weight.l0])
    | succ k1 =>
      have H := HA.out
      clear HA
      simp only [coracleref1_Weight.l0] at H
      by_cases c4 : x4_1 < (l0_0.length : Int)
      · rw [if_pos c4] at H
        have c4b0 : decide (x4_1 < (l0_0.length : Int)) = true := decide_eq_true c4
        clear c4
        by_cases c5 : 0 ≤ x4_1
        · rw [if_pos c5] at H
          have c5b0 : decide (0 ≤ x4_1) = true := decide_eq_true c5
          clear c5
          replace H := Option.bind_eq_some_iff.mp H
          obtain ⟨t250, A60, H⟩ := H
          replace H : (coracleref1_Weight.l0 k1 (wrap64 (x3_1 + t250)) (wrap64 (x4_1 + 1)) l0_0 l0_1 a0_2) = some r := H
          have A6 := Aside0.mk A60
          clear A60
          have H' := Aside0.mk H
          clear H
          have hcz7_0 : wr.cell? ⟨gb248, 0, none⟩ = some (.slice A0_0 l0_0.length c0_0) := (blk_cell BK248.out 0).trans rfl
          have hcz7_1 : wr.cell? ⟨gb248, 1, none⟩ = some (.slice A0_1 l0_1.length c0_1) := (blk_cell BK248.out 1).trans rfl
          have hcz7_2 : wr.cell? ⟨gb248, 2, none⟩ = some (.int .i64 a0_2) := (blk_cell BK248.out 2).trans rfl
          have hfz7_0 := blk_frozen BK248.out 0
          have hfz7_1 := blk_frozen BK248.out 1
          have hfz7_2 := blk_frozen BK248.out 2
          have p249 : 0 ≤ (x4_1 : Int) := of_decide_eq_true (by first | (with_reducible assumption) | assumption)
          have q249 : x4_1 < (l0_0.length : Int) := of_decide_eq_true (by first | (with_reducible assumption) | assumption)
          obtain ⟨ad249, e249, hx249_0, hx249_1, hx249_2, hx249_3, hx249_4, hx249_5, hx249_6, hx249_7, hx249_8, hx249_9, hx249_10, hx249_11, hx249_12, hx249_13, hx249_14, hx249_15, hx249_16, hx249_17, hx249_18, hx249_19, hx249_20, hx249_21, hx249_22, hx249_23, hx249_24, hx249_25, hx249_26, hx249_27, hx249_28, hx249_29, hx249_30, hx249_31, hx249_32, hx249_33, hx249_34, hx249_35, hx249_36⟩ := at_T38 HR0_0.out x4_1 p249 q249
          cases e249
          replace hx249_0 := (HB.out.cell (World.block_lt_of_cell? w _ hx249_0)).trans hx249_0
          replace hx249_1 := (HB.out.cell (World.block_lt_of_cell? w _ hx249_1)).trans hx249_1
          replace hx249_2 := (HB.out.cell (World.block_lt_of_cell? w _ hx249_2)).trans hx249_2
          replace hx249_3 := (HB.out.cell (World.block_lt_of_cell? w _ hx249_3)).trans hx249_3
          replace hx249_4 := (HB.out.cell (World.block_lt_of_cell? w _ hx249_4)).trans hx249_4
          replace hx249_5 := (HB.out.cell (World.block_lt_of_cell? w _ hx249_5)).trans hx249_5
          replace hx249_6 := (HB.out.cell (World.block_lt_of_cell? w _ hx249_6)).trans hx249_6
          replace hx249_7 := (HB.out.cell (World.block_lt_of_cell? w _ hx249_7)).trans hx249_7
          replace hx249_8 := (HB.out.cell (World.block_lt_of_cell? w _ hx249_8)).trans hx249_8
          replace hx249_9 := (HB.out.cell (World.block_lt_of_cell? w _ hx249_9)).trans hx249_9
          replace hx249_10 := (HB.out.cell (World.block_lt_of_cell? w _ hx249_10)).trans hx249_10
          replace hx249_11 := (HB.out.cell (World.block_lt_of_cell? w _ hx249_11)).trans hx249_11
          replace hx249_12 := (HB.out.cell (World.block_lt_of_cell? w _ hx249_12)).trans hx249_12
          replace hx249_13 := (HB.out.cell (World.block_lt_of_cell? w _ hx249_13)).trans hx249_13
          replace hx249_14 := (HB.out.cell (World.block_lt_of_cell? w _ hx249_14)).trans hx249_14
          replace hx249_15 := (HB.out.cell (World.block_lt_of_cell? w _ hx249_15)).trans hx249_15
          replace hx249_16 := (HB.out.cell (World.block_lt_of_cell? w _ hx249_16)).trans hx249_16
          replace hx249_17 := (HB.out.cell (World.block_lt_of_cell? w _ hx249_17)).trans hx249_17
          replace hx249_18 := (HB.out.cell (World.block_lt_of_cell? w _ hx249_18)).trans hx249_18
          replace hx249_19 := (HB.out.cell (World.block_lt_of_cell? w _ hx249_19)).trans hx249_19
          replace hx249_20 := (HB.out.cell (World.block_lt_of_cell? w _ hx249_20)).trans hx249_20
          replace hx249_21 := (HB.out.cell (World.block_lt_of_cell? w _ hx249_21)).trans hx249_21
          replace hx249_22 := (HB.out.cell (World.block_lt_of_cell? w _ hx249_22)).trans hx249_22
          replace hx249_23 := (HB.out.cell (World.block_lt_of_cell? w _ hx249_23)).trans hx249_23
          replace hx249_24 := (HB.out.cell (World.block_lt_of_cell? w _ hx249_24)).trans hx249_24
          replace hx249_25 := (HB.out.cell (World.block_lt_of_cell? w _ hx249_25)).trans hx249_25
          replace hx249_26 := (HB.out.cell (World.block_lt_of_cell? w _ hx249_26)).trans hx249_26
          replace hx249_27 := (HB.out.cell (World.block_lt_of_cell? w _ hx249_27)).trans hx249_27
          replace hx249_28 := (HB.out.cell (World.block_lt_of_cell? w _ hx249_28)).trans hx249_28
          replace hx249_29 := (HB.out.cell (World.block_lt_of_cell? w _ hx249_29)).trans hx249_29
          replace hx249_30 := (HB.out.cell (World.block_lt_of_cell? w _ hx249_30)).trans hx249_30
          replace hx249_31 := (HB.out.cell (World.block_lt_of_cell? w _ hx249_31)).trans hx249_31
          replace hx249_32 := (HB.out.cell (World.block_lt_of_cell? w _ hx249_32)).trans hx249_32
          replace hx249_33 := (HB.out.cell (World.block_lt_of_cell? w _ hx249_33)).trans hx249_33
          replace hx249_34 := (HB.out.cell (World.block_lt_of_cell? w _ hx249_34)).trans hx249_34
          replace hx249_35 := (HB.out.cell (World.block_lt_of_cell? w _ hx249_35)).trans hx249_35
          replace hx249_36 := (HB.out.cell (World.block_lt_of_cell? w _ hx249_36)).trans hx249_36
          replace p249 := eq_true p249
          replace q249 := eq_true q249
          have hw249_0_32 := Go.Proofs.Ytiodebjjbgcbhaa.Wide.mk32 hx249_0 hx249_1 hx249_2 hx249_3 hx249_4 hx249_5 hx249_6 hx249_7 hx249_8 hx249_9 hx249_10 hx249_11 hx249_12 hx249_13 hx249_14 hx249_15 hx249_16 hx249_17 hx249_18 hx249_19 hx249_20 hx249_21 hx249_22 hx249_23 hx249_24 hx249_25 hx249_26 hx249_27 hx249_28 hx249_29 hx249_30 hx249_31
          have hw249_0_33 := Go.Proofs.Ytiodebjjbgcbhaa.Wide.mk33 hx249_0 hx249_1 hx249_2 hx249_3 hx249_4 hx249_5 hx249_6 hx249_7 hx249_8 hx249_9 hx249_10 hx249_11 hx249_12 hx249_13 hx249_14 hx249_15 hx249_16 hx249_17 hx249_18 hx249_19 hx249_20 hx249_21 hx249_22 hx249_23 hx249_24 hx249_25 hx249_26 hx249_27 hx249_28 hx249_29 hx249_30 hx249_31 hx249_32
          have hw249_0_37 := Go.Proofs.Ytiodebjjbgcbhaa.Wide.mk37 hx249_0 hx249_1 hx249_2 hx249_3 hx249_4 hx249_5 hx249_6 hx249_7 hx249_8 hx249_9 hx249_10 hx249_11 hx249_12 hx249_13 hx249_14 hx249_15 hx249_16 hx249_17 hx249_18 hx249_19 hx249_20 hx249_21 hx249_22 hx249_23 hx249_24 hx249_25 hx249_26 hx249_27 hx249_28 hx249_29 hx249_30 hx249_31 hx249_32 hx249_33 hx249_34 hx249_35 hx249_36
          go_wp2_with (first | ((with_reducible refine gate_callee (f := 28) rfl ?_); refine goesL_ (some 31) rfl rfl Try.func28 (by kernel_rfl) rfl #[.int .i64 ((rd_T38 l0_0 x4_1).f2.f0)] rfl (by (try simp only [List.map_toArray, List.map_cons, List.map_nil]); first | done | rfl | (simp only [List.length_drop, List.length_take]; rfl)) ?_; (with_reducible refine (coracleref1_Wit.calls ((rd_T38 l0_0 x4_1).f2.f0) t250 _ A6.out).mono ?_); rintro e w' ⟨rfl, ⟨nd, rfl⟩⟩; refine ⟨_, rfl, ?_⟩))
          go_roundg k1
          case measure => have := HK1.out; omega
          case rel => exact ⟨(wrap64 (x3_1 + t250)), (wrap64 (x4_1 + 1)), (by first | rfl | (simp; done) | (simp [*]; done)), (by first | rfl | (simp; done) | (simp [*]; done)), H', ⟨by have := HK1.out; omega⟩, ⟨by (with_reducible repeat (first | refine blk_drewN ?_ _ | refine blk_drew ?_ | refine blk_alloc ?_ _)); exact BK248.out⟩, ⟨by repeat (first | (with_reducible first | exact HB.out | apply below_alloc | apply pw_below_drewN | apply below_drew1 | refine below_set ?_ GE248.out) | exact HB.out)⟩⟩
        · rw [if_neg c5] at H
          exact absurd H (by simp)
      · rw [if_neg c4] at H
        have c4b0 : decide (x4_1 < (l0_0.length : Int)) = false := decide_eq_false c4
        clear c4
        obtain rfl := Option.some.inj H
        have hcz8_0 : wr.cell? ⟨gb248, 0, none⟩ = some (.slice A0_0 l0_0.length c0_0) := (blk_cell BK248.out 0).trans rfl
        have hcz8_1 : wr.cell? ⟨gb248, 1, none⟩ = some (.slice A0_1 l0_1.length c0_1) := (blk_cell BK248.out 1).trans rfl
        have hcz8_2 : wr.cell? ⟨gb248, 2, none⟩ = some (.int .i64 a0_2) := (blk_cell BK248.out 2).trans rfl
        have hfz8_0 := blk_frozen BK248.out 0
        have hfz8_1 := blk_frozen BK248.out 1
        have hfz8_2 := blk_frozen BK248.out 2
        go_wp2
        go_ret
        exact ⟨by first | rfl | (simp [errW_none, errW_some] <;> rfl) | (simp [*, errW_none, errW_some] <;> rfl), by repeat (first | (with_reducible first | exact HB.out | apply below_alloc | apply pw_below_drewN | apply below_drew1 | refine below_set ?_ GE248.out) | exact HB.out)⟩

end Go.Proofs.Ytiodebjjbgcbhaa.QRep
