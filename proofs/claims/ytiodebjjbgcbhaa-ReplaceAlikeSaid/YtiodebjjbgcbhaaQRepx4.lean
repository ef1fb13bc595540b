/- Functions of the program as plain Lean functions, and that its calls come to what these tell: written by a program of this session; Lean checks it. -/
import Derived.Test.YtiodebjjbgcbhaaQRepx0
import Derived.Test.YtiodebjjbgcbhaaQRepx3
namespace Go.Proofs.Ytiodebjjbgcbhaa.QRep
open Go.RowKit Go.Proofs.YtiodebjjbgcbhaaW.PrintWords Go.Proofs.YtiodebjjbgcbhaaW.PrintLast Go.Proofs.YtiodebjjbgcbhaaW.PrintMore
attribute [local go_sem] max2_int min2_int max_two min_two max_three min_three max_four min_four  run_fop run_feq run_fne run_flt run_fle run_fgt run_fge run_fint run_toi run_real' run_imag' run_complex' run_ceq run_cne run_cadd run_csub run_cmul Go.Proofs.Ytiodebjjbgcbhaa.Wide.cellsAt_drewN Go.Proofs.Ytiodebjjbgcbhaa.Wide.cellsAt_drew Go.Proofs.Ytiodebjjbgcbhaa.Wide.lw32 Go.Proofs.Ytiodebjjbgcbhaa.Wide.lw33 Go.Proofs.Ytiodebjjbgcbhaa.Wide.lw37 Go.Proofs.Ytiodebjjbgcbhaa.Wide.lw38 Go.Proofs.Ytiodebjjbgcbhaa.Wide.lw39 Go.Proofs.Ytiodebjjbgcbhaa.Wide.lw44
attribute [local go_sem ↓ high] Go.Proofs.Ytiodebjjbgcbhaa.Wide.hv32 Go.Proofs.Ytiodebjjbgcbhaa.Wide.hv33 Go.Proofs.Ytiodebjjbgcbhaa.Wide.hv37 Go.Proofs.Ytiodebjjbgcbhaa.Wide.hv38 Go.Proofs.Ytiodebjjbgcbhaa.Wide.hv39 Go.Proofs.Ytiodebjjbgcbhaa.Wide.hv44
set_option linter.unusedVariables false
set_option linter.unusedSimpArgs false

/-! ### tx_Weight: function 22 -/
def tx_Weight.l0 : Nat → Int → List (S38) → Int → Int → Option (Int)
  | 0, _, _, _, _ => none
  | k + 1, x3, x18, x19, x20 => if x20 < x19 then (if 0 ≤ x20 then (if x20 < (x18.length : Int) then ((tx_Wit.f ((rd_T38 x18 x20).f2.f0)).bind fun t117 => (tx_Weight.l0 k (wrap64 (x3 + t117)) x18 x19 (wrap64 (x20 + 1)))) else (none)) else (none)) else (some x3)
def tx_Weight.f (k : Nat) (l0_0 : List (S38)) (l0_1 : List (S64)) (a0_2 : Int) : Option (Int) := tx_Weight.l0 k (wrap64 (4 * (wrap64 ((wrap64 (10 + (wrap64 (41 * (l0_0.length : Int))))) + (wrap64 (34 * (l0_1.length : Int))))))) l0_0 (l0_0.length : Int) 0
theorem tx_Weight.mono_l : ∀ k, (∀ y0 y1 y2 y3, LeO (tx_Weight.l0 k y0 y1 y2 y3) (tx_Weight.l0 (k + 1) y0 y1 y2 y3))
  | 0 => fun _ _ _ _ r h => by simp [tx_Weight.l0] at h
  | k + 1 => by
    have ih0 := tx_Weight.mono_l k
    · intro y0 y1 y2 y3
      unfold tx_Weight.l0
      repeat' first
      | (with_reducible exact ih0 _ _ _ _)
      | (with_reducible exact LeO.refl _)
      | (with_reducible exact LeO.none _)
      | (with_reducible refine LeO.ite ?_ ?_)
      | (with_reducible refine LeO.bind ?_ (fun _ => ?_))
      | exact ih0 _ _ _ _
      | exact LeO.none _
      | refine LeO.ite ?_ ?_
      | refine LeO.bind ?_ (fun _ => ?_)
theorem tx_Weight.mono : ∀ a0 a1 a2 k, LeO (tx_Weight.f k a0 a1 a2) (tx_Weight.f (k + 1) a0 a1 a2) := by
  intro a0 a1 a2 k
  have ih0 := tx_Weight.mono_l k
  unfold tx_Weight.f
  repeat' first
      | (with_reducible exact ih0 _ _ _ _)
      | (with_reducible exact LeO.refl _)
      | (with_reducible exact LeO.none _)
      | (with_reducible refine LeO.ite ?_ ?_)
      | (with_reducible refine LeO.bind ?_ (fun _ => ?_))
      | exact ih0 _ _ _ _
      | exact LeO.none _
      | refine LeO.ite ?_ ?_
      | refine LeO.bind ?_ (fun _ => ?_)
set_option maxHeartbeats 8000000 in
set_option maxRecDepth 100000 in
theorem tx_Weight.calls (k : Nat) (A0_0 : Option Addr) (c0_0 : Nat) (l0_0 : List (S38)) (A0_1 : Option Addr) (c0_1 : Nat) (l0_1 : List (S64)) (a0_2 : Int) (r : Int) (w : World) (hr0_0 : Kd.C k38 w A0_0 l0_0.length l0_0) (hc0_0 : l0_0.length ≤ c0_0) (hr0_1 : Kd.C k64 w A0_1 l0_1.length l0_1) (hc0_1 : l0_1.length ≤ c0_1) (h : tx_Weight.f k l0_0 l0_1 a0_2 = some r) :
  Calls Try.prog 22 #[.agg #[.slice A0_0 l0_0.length c0_0, .slice A0_1 l0_1.length c0_1, .int .i64 a0_2]] w fun e w' => e = .returned (.int .i64 r) ∧ Below w.heap.size w w' := by
 have hu28 := Try.underlying28
 have hu38 := Try.underlying38
 have HR0_0 := Aside0.mk hr0_0
 have HC0_0 := Aside0.mk hc0_0
 clear hr0_0 hc0_0
 have HR0_1 := Aside0.mk hr0_1
 have HC0_1 := Aside0.mk hc0_1
 clear hr0_1 hc0_1
 have HB := Aside0.mk (Below.refl w.heap.size w)
 have H : (tx_Weight.l0 k (wrap64 (4 * (wrap64 ((wrap64 (10 + (wrap64 (41 * (l0_0.length : Int))))) + (wrap64 (34 * (l0_1.length : Int))))))) l0_0 (l0_0.length : Int) 0) = some r := h
 clear h
 have H' := Aside0.mk H
 clear H
 go_enter Try.func22, Try.ntmps22
 go_wp2_with (first | ((with_reducible refine gate_dst (N := 1) rfl ?_); refine box_event ?hg (N := 1) ?hd (cs := #[.slice A0_0 l0_0.length c0_0, .slice A0_1 l0_1.length c0_1, .int .i64 a0_2]) (t := 28) ?hr ?_; (case hd => rfl); (case hg => rfl); (case hr => first | (go_simp; done) | (go_simp; rfl)); intro gb114 hg w2 hbox hb; have n0_ := Aside0.mk (below_step (by repeat (first | (with_reducible first | exact HB.out | apply below_alloc | apply pw_below_drewN | apply below_drew1) | exact HB.out)) hb); have n1_ := Aside0.mk (hbox); have n2_ := Aside0.mk ((by rw [hg]; exact (below_size (by repeat (first | (with_reducible first | exact HB.out | apply below_alloc | apply pw_below_drewN | apply below_drew1) | exact HB.out))) : w.heap.size ≤ gb114)); have n3_ := Aside0.mk ((by rw [hg]; exact (below_size (by repeat (first | (with_reducible first | exact HB.out | apply below_alloc | apply pw_below_drewN | apply below_drew1) | exact HB.out))) : w.heap.size ≤ gb114)); clear HB; have HB := n0_; have BK114 := n1_; have GW114 := n2_; have GE114 := n3_; clear n0_ n1_ n2_ n3_; clear hb hbox hg; have hcz3_0 : w2.cell? ⟨gb114, 0, none⟩ = some (.slice A0_0 l0_0.length c0_0) := (blk_cell BK114.out 0).trans rfl; have hcz3_1 : w2.cell? ⟨gb114, 1, none⟩ = some (.slice A0_1 l0_1.length c0_1) := (blk_cell BK114.out 1).trans rfl; have hcz3_2 : w2.cell? ⟨gb114, 2, none⟩ = some (.int .i64 a0_2) := (blk_cell BK114.out 2).trans rfl; have hfz3_0 := blk_frozen BK114.out 0; have hfz3_1 := blk_frozen BK114.out 1; have hfz3_2 := blk_frozen BK114.out 2))
 go_loopg [3, 20] k (fun kq v3 v20 w' => ∃ (x3_1 : Int) (x20_1 : Int), v3 = .int .i64 x3_1 ∧ v20 = .int .i64 x20_1 ∧ Aside0 (tx_Weight.l0 kq x3_1 l0_0 (l0_0.length : Int) x20_1 = some r) ∧ Aside0 (kq ≤ k) ∧ Aside0 (w'.heap[gb114]? = some (.cells #[(.slice A0_0 l0_0.length c0_0), (.slice A0_1 l0_1.length c0_1), .int .i64 a0_2] 28 (0, 0))) ∧ Aside0 (Below w.heap.size w w'))
 case atStart => exact ⟨(wrap64 (4 * (wrap64 ((wrap64 (10 + (wrap64 (41 * (l0_0.length : Int))))) + (wrap64 (34 * (l0_1.length : Int))))))), (0), (by first | rfl | (simp; done) | (simp [*]; done)), (by first | rfl | (simp; done) | (simp [*]; done)), H', ⟨Nat.le_refl _⟩, ⟨by (with_reducible repeat (first | refine blk_drewN ?_ _ | refine blk_drew ?_ | refine blk_alloc ?_ _)); exact BK114.out⟩, ⟨by repeat (first | (with_reducible first | exact HB.out | apply below_alloc | apply pw_below_drewN | apply below_drew1 | refine below_set ?_ GE114.out) | exact HB.out)⟩⟩
 case round =>
  clear H'
  try clear c2
  try clear p2
  try clear hcz3_0
  try clear hcz3_1
  try clear hcz3_2
  try clear hfz3_0
  try clear hfz3_1
  try clear hfz3_2
  obtain ⟨x3_1, x20_1, rfl, rfl, HA, HK1, BK114, HB⟩ := hrel
  cases gk with
  | zero => exact absurd HA.out (by simp [tx_Weight.l0])
  | succ k1 =>
   have H := HA.out
   clear HA
   simp only [tx_Weight.l0] at H
   by_cases c4 : x20_1 < (l0_0.length : Int)
   ·
    rw [if_pos c4] at H
    have c4b0 : decide (x20_1 < (l0_0.length : Int)) = true := decide_eq_true c4
    clear c4
    by_cases c5 : 0 ≤ x20_1
    ·
     rw [if_pos c5] at H
     have c5b0 : decide (0 ≤ x20_1) = true := decide_eq_true c5
     clear c5
     by_cases c6 : x20_1 < (l0_0.length : Int)
     ·
      rw [if_pos c6] at H
      have c6b0 : decide (x20_1 < (l0_0.length : Int)) = true := decide_eq_true c6
      clear c6
      replace H := Option.bind_eq_some_iff.mp H
      obtain ⟨t117, A70, H⟩ := H
      replace H : (tx_Weight.l0 k1 (wrap64 (x3_1 + t117)) l0_0 (l0_0.length : Int) (wrap64 (x20_1 + 1))) = some r := H
      have A7 := Aside0.mk A70
      clear A70
      as_aux_lemma =>
       have H' := Aside0.mk H
       clear H
       have p115 : 0 ≤ (x20_1 : Int) := of_decide_eq_true (by first | (with_reducible assumption) | assumption)
       have q115 : x20_1 < (l0_0.length : Int) := of_decide_eq_true (by first | (with_reducible assumption) | assumption)
       obtain ⟨ad115, e115, hx115_0, hx115_1, hx115_2, hx115_3, hx115_4, hx115_5, hx115_6, hx115_7, hx115_8, hx115_9, hx115_10, hx115_11, hx115_12, hx115_13, hx115_14, hx115_15, hx115_16, hx115_17, hx115_18, hx115_19, hx115_20, hx115_21, hx115_22, hx115_23, hx115_24, hx115_25, hx115_26, hx115_27, hx115_28, hx115_29, hx115_30, hx115_31, hx115_32, hx115_33, hx115_34, hx115_35, hx115_36⟩ := at_T38 HR0_0.out x20_1 p115 q115
       cases e115
       replace hx115_0 := (HB.out.cell (World.block_lt_of_cell? w _ hx115_0)).trans hx115_0
       replace hx115_1 := (HB.out.cell (World.block_lt_of_cell? w _ hx115_1)).trans hx115_1
       replace hx115_2 := (HB.out.cell (World.block_lt_of_cell? w _ hx115_2)).trans hx115_2
       replace hx115_3 := (HB.out.cell (World.block_lt_of_cell? w _ hx115_3)).trans hx115_3
       replace hx115_4 := (HB.out.cell (World.block_lt_of_cell? w _ hx115_4)).trans hx115_4
       replace hx115_5 := (HB.out.cell (World.block_lt_of_cell? w _ hx115_5)).trans hx115_5
       replace hx115_6 := (HB.out.cell (World.block_lt_of_cell? w _ hx115_6)).trans hx115_6
       replace hx115_7 := (HB.out.cell (World.block_lt_of_cell? w _ hx115_7)).trans hx115_7
       replace hx115_8 := (HB.out.cell (World.block_lt_of_cell? w _ hx115_8)).trans hx115_8
       replace hx115_9 := (HB.out.cell (World.block_lt_of_cell? w _ hx115_9)).trans hx115_9
       replace hx115_10 := (HB.out.cell (World.block_lt_of_cell? w _ hx115_10)).trans hx115_10
       replace hx115_11 := (HB.out.cell (World.block_lt_of_cell? w _ hx115_11)).trans hx115_11
       replace hx115_12 := (HB.out.cell (World.block_lt_of_cell? w _ hx115_12)).trans hx115_12
       replace hx115_13 := (HB.out.cell (World.block_lt_of_cell? w _ hx115_13)).trans hx115_13
       replace hx115_14 := (HB.out.cell (World.block_lt_of_cell? w _ hx115_14)).trans hx115_14
       replace hx115_15 := (HB.out.cell (World.block_lt_of_cell? w _ hx115_15)).trans hx115_15
       replace hx115_16 := (HB.out.cell (World.block_lt_of_cell? w _ hx115_16)).trans hx115_16
       replace hx115_17 := (HB.out.cell (World.block_lt_of_cell? w _ hx115_17)).trans hx115_17
       replace hx115_18 := (HB.out.cell (World.block_lt_of_cell? w _ hx115_18)).trans hx115_18
       replace hx115_19 := (HB.out.cell (World.block_lt_of_cell? w _ hx115_19)).trans hx115_19
       replace hx115_20 := (HB.out.cell (World.block_lt_of_cell? w _ hx115_20)).trans hx115_20
       replace hx115_21 := (HB.out.cell (World.block_lt_of_cell? w _ hx115_21)).trans hx115_21
       replace hx115_22 := (HB.out.cell (World.block_lt_of_cell? w _ hx115_22)).trans hx115_22
       replace hx115_23 := (HB.out.cell (World.block_lt_of_cell? w _ hx115_23)).trans hx115_23
       replace hx115_24 := (HB.out.cell (World.block_lt_of_cell? w _ hx115_24)).trans hx115_24
       replace hx115_25 := (HB.out.cell (World.block_lt_of_cell? w _ hx115_25)).trans hx115_25
       replace hx115_26 := (HB.out.cell (World.block_lt_of_cell? w _ hx115_26)).trans hx115_26
       replace hx115_27 := (HB.out.cell (World.block_lt_of_cell? w _ hx115_27)).trans hx115_27
       replace hx115_28 := (HB.out.cell (World.block_lt_of_cell? w _ hx115_28)).trans hx115_28
       replace hx115_29 := (HB.out.cell (World.block_lt_of_cell? w _ hx115_29)).trans hx115_29
       replace hx115_30 := (HB.out.cell (World.block_lt_of_cell? w _ hx115_30)).trans hx115_30
       replace hx115_31 := (HB.out.cell (World.block_lt_of_cell? w _ hx115_31)).trans hx115_31
       replace hx115_32 := (HB.out.cell (World.block_lt_of_cell? w _ hx115_32)).trans hx115_32
       replace hx115_33 := (HB.out.cell (World.block_lt_of_cell? w _ hx115_33)).trans hx115_33
       replace hx115_34 := (HB.out.cell (World.block_lt_of_cell? w _ hx115_34)).trans hx115_34
       replace hx115_35 := (HB.out.cell (World.block_lt_of_cell? w _ hx115_35)).trans hx115_35
       replace hx115_36 := (HB.out.cell (World.block_lt_of_cell? w _ hx115_36)).trans hx115_36
       replace p115 := eq_true p115
       replace q115 := eq_true q115
       have hw115_0_32 := Go.Proofs.Ytiodebjjbgcbhaa.Wide.mk32 hx115_0 hx115_1 hx115_2 hx115_3 hx115_4 hx115_5 hx115_6 hx115_7 hx115_8 hx115_9 hx115_10 hx115_11 hx115_12 hx115_13 hx115_14 hx115_15 hx115_16 hx115_17 hx115_18 hx115_19 hx115_20 hx115_21 hx115_22 hx115_23 hx115_24 hx115_25 hx115_26 hx115_27 hx115_28 hx115_29 hx115_30 hx115_31
       have hw115_0_33 := Go.Proofs.Ytiodebjjbgcbhaa.Wide.mk33 hx115_0 hx115_1 hx115_2 hx115_3 hx115_4 hx115_5 hx115_6 hx115_7 hx115_8 hx115_9 hx115_10 hx115_11 hx115_12 hx115_13 hx115_14 hx115_15 hx115_16 hx115_17 hx115_18 hx115_19 hx115_20 hx115_21 hx115_22 hx115_23 hx115_24 hx115_25 hx115_26 hx115_27 hx115_28 hx115_29 hx115_30 hx115_31 hx115_32
       have hw115_0_37 := Go.Proofs.Ytiodebjjbgcbhaa.Wide.mk37 hx115_0 hx115_1 hx115_2 hx115_3 hx115_4 hx115_5 hx115_6 hx115_7 hx115_8 hx115_9 hx115_10 hx115_11 hx115_12 hx115_13 hx115_14 hx115_15 hx115_16 hx115_17 hx115_18 hx115_19 hx115_20 hx115_21 hx115_22 hx115_23 hx115_24 hx115_25 hx115_26 hx115_27 hx115_28 hx115_29 hx115_30 hx115_31 hx115_32 hx115_33 hx115_34 hx115_35 hx115_36
       go_wp2_with (first | ((with_reducible refine gate_dst (N := 5) rfl ?_); refine Go.Proofs.Ytiodebjjbgcbhaa.Fill.fill_event (N := 5) (x := 23) (cs := #[.int .u8 ((rd_T38 l0_0 x20_1).f0.f0.f0), .int .u8 ((rd_T38 l0_0 x20_1).f0.f0.f1), .int .u8 ((rd_T38 l0_0 x20_1).f0.f0.f2), .int .u8 ((rd_T38 l0_0 x20_1).f0.f0.f3), .int .u8 ((rd_T38 l0_0 x20_1).f0.f0.f4), .int .u8 ((rd_T38 l0_0 x20_1).f0.f0.f5), .int .u8 ((rd_T38 l0_0 x20_1).f0.f0.f6), .int .u8 ((rd_T38 l0_0 x20_1).f0.f0.f7), .int .u8 ((rd_T38 l0_0 x20_1).f0.f0.f8), .int .u8 ((rd_T38 l0_0 x20_1).f0.f0.f9), .int .u8 ((rd_T38 l0_0 x20_1).f0.f0.f10), .int .u8 ((rd_T38 l0_0 x20_1).f0.f0.f11), .int .u8 ((rd_T38 l0_0 x20_1).f0.f0.f12), .int .u8 ((rd_T38 l0_0 x20_1).f0.f0.f13), .int .u8 ((rd_T38 l0_0 x20_1).f0.f0.f14), .int .u8 ((rd_T38 l0_0 x20_1).f0.f0.f15), .int .u8 ((rd_T38 l0_0 x20_1).f0.f0.f16), .int .u8 ((rd_T38 l0_0 x20_1).f0.f0.f17), .int .u8 ((rd_T38 l0_0 x20_1).f0.f0.f18), .int .u8 ((rd_T38 l0_0 x20_1).f0.f0.f19), .int .u8 ((rd_T38 l0_0 x20_1).f0.f0.f20), .int .u8 ((rd_T38 l0_0 x20_1).f0.f0.f21), .int .u8 ((rd_T38 l0_0 x20_1).f0.f0.f22), .int .u8 ((rd_T38 l0_0 x20_1).f0.f0.f23), .int .u8 ((rd_T38 l0_0 x20_1).f0.f0.f24), .int .u8 ((rd_T38 l0_0 x20_1).f0.f0.f25), .int .u8 ((rd_T38 l0_0 x20_1).f0.f0.f26), .int .u8 ((rd_T38 l0_0 x20_1).f0.f0.f27), .int .u8 ((rd_T38 l0_0 x20_1).f0.f0.f28), .int .u8 ((rd_T38 l0_0 x20_1).f0.f0.f29), .int .u8 ((rd_T38 l0_0 x20_1).f0.f0.f30), .int .u8 ((rd_T38 l0_0 x20_1).f0.f0.f31), .int .i64 ((rd_T38 l0_0 x20_1).f0.f1), .int .i64 ((rd_T38 l0_0 x20_1).f1), .int .i64 ((rd_T38 l0_0 x20_1).f2.f0), .int .i64 ((rd_T38 l0_0 x20_1).f2.f1), .string ((rd_T38 l0_0 x20_1).f2.f2)]) (t := 38) rfl rfl rfl rfl rfl rfl Try.zeroValue38 Try.sizeOf38 rfl rfl (fun _ => rfl) (fun _ => rfl) ?_; intro gb116 hg w8 hbox hb; have n0_ := Aside0.mk (blk_below (g := gb114) (o := .cells #[.slice (some ad115) l0_0.length c0_0, .slice A0_1 l0_1.length c0_1, .int .i64 a0_2] 28 (0, 0)) (by (with_reducible repeat (first | refine blk_drewN ?_ _ | refine blk_drew ?_ | refine blk_alloc ?_ _)); exact BK114.out) hb); have n1_ := Aside0.mk (below_step (by repeat (first | (with_reducible first | exact HB.out | apply below_alloc | apply pw_below_drewN | apply below_drew1 | refine below_set ?_ GE114.out) | exact HB.out)) hb); have n2_ := Aside0.mk (hbox); have n3_ := Aside0.mk ((by rw [hg]; exact (below_size (by repeat (first | (with_reducible first | exact HB.out | apply below_alloc | apply pw_below_drewN | apply below_drew1 | refine below_set ?_ GE114.out) | exact HB.out))) : w.heap.size ≤ gb116)); have n4_ := Aside0.mk ((by rw [hg]; exact (below_size (by repeat (first | (with_reducible first | exact HB.out | apply below_alloc | apply pw_below_drewN | apply below_drew1 | refine below_set ?_ GE114.out) | exact HB.out))) : w.heap.size ≤ gb116)); have n5_ := Aside0.mk ((by rw [hg]; exact Nat.ne_of_lt (blk_lt (g := gb114) (o := .cells #[.slice (some ad115) l0_0.length c0_0, .slice A0_1 l0_1.length c0_1, .int .i64 a0_2] 28 (0, 0)) (by (with_reducible repeat (first | refine blk_drewN ?_ _ | refine blk_drew ?_ | refine blk_alloc ?_ _)); exact BK114.out)) : gb114 ≠ gb116)); have n6_ := Aside0.mk ((by rw [hg]; exact Nat.ne_of_gt (blk_lt (g := gb114) (o := .cells #[.slice (some ad115) l0_0.length c0_0, .slice A0_1 l0_1.length c0_1, .int .i64 a0_2] 28 (0, 0)) (by (with_reducible repeat (first | refine blk_drewN ?_ _ | refine blk_drew ?_ | refine blk_alloc ?_ _)); exact BK114.out)) : gb116 ≠ gb114)); clear BK114; clear HB; have BK114 := n0_; have HB := n1_; have BK116 := n2_; have GW116 := n3_; have GE116 := n4_; have NB114_116 := n5_; have NB116_114 := n6_; clear n0_ n1_ n2_ n3_ n4_ n5_ n6_; clear hb hbox hg; have hnb9 := NB116_114.out; have hnc9 := NB114_116.out; have hcz10_0 : w8.cell? ⟨gb116, 0, none⟩ = some (.int .u8 ((rd_T38 l0_0 x20_1).f0.f0.f0)) := (blk_cell BK116.out 0).trans rfl; have hcz10_1 : w8.cell? ⟨gb116, 1, none⟩ = some (.int .u8 ((rd_T38 l0_0 x20_1).f0.f0.f1)) := (blk_cell BK116.out 1).trans rfl; have hcz10_2 : w8.cell? ⟨gb116, 2, none⟩ = some (.int .u8 ((rd_T38 l0_0 x20_1).f0.f0.f2)) := (blk_cell BK116.out 2).trans rfl; have hcz10_3 : w8.cell? ⟨gb116, 3, none⟩ = some (.int .u8 ((rd_T38 l0_0 x20_1).f0.f0.f3)) := (blk_cell BK116.out 3).trans rfl; have hcz10_4 : w8.cell? ⟨gb116, 4, none⟩ = some (.int .u8 ((rd_T38 l0_0 x20_1).f0.f0.f4)) := (blk_cell BK116.out 4).trans rfl; have hcz10_5 : w8.cell? ⟨gb116, 5, none⟩ = some (.int .u8 ((rd_T38 l0_0 x20_1).f0.f0.f5)) := (blk_cell BK116.out 5).trans rfl; have hcz10_6 : w8.cell? ⟨gb116, 6, none⟩ = some (.int .u8 ((rd_T38 l0_0 x20_1).f0.f0.f6)) := (blk_cell BK116.out 6).trans rfl; have hcz10_7 : w8.cell? ⟨gb116, 7, none⟩ = some (.int .u8 ((rd_T38 l0_0 x20_1).f0.f0.f7)) := (blk_cell BK116.out 7).trans rfl; have hcz10_8 : w8.cell? ⟨gb116, 8, none⟩ = some (.int .u8 ((rd_T38 l0_0 x20_1).f0.f0.f8)) := (blk_cell BK116.out 8).trans rfl; have hcz10_9 : w8.cell? ⟨gb116, 9, none⟩ = some (.int .u8 ((rd_T38 l0_0 x20_1).f0.f0.f9)) := (blk_cell BK116.out 9).trans rfl; have hcz10_10 : w8.cell? ⟨gb116, 10, none⟩ = some (.int .u8 ((rd_T38 l0_0 x20_1).f0.f0.f10)) := (blk_cell BK116.out 10).trans rfl; have hcz10_11 : w8.cell? ⟨gb116, 11, none⟩ = some (.int .u8 ((rd_T38 l0_0 x20_1).f0.f0.f11)) := (blk_cell BK116.out 11).trans rfl; have hcz10_12 : w8.cell? ⟨gb116, 12, none⟩ = some (.int .u8 ((rd_T38 l0_0 x20_1).f0.f0.f12)) := (blk_cell BK116.out 12).trans rfl; have hcz10_13 : w8.cell? ⟨gb116, 13, none⟩ = some (.int .u8 ((rd_T38 l0_0 x20_1).f0.f0.f13)) := (blk_cell BK116.out 13).trans rfl; have hcz10_14 : w8.cell? ⟨gb116, 14, none⟩ = some (.int .u8 ((rd_T38 l0_0 x20_1).f0.f0.f14)) := (blk_cell BK116.out 14).trans rfl; have hcz10_15 : w8.cell? ⟨gb116, 15, none⟩ = some (.int .u8 ((rd_T38 l0_0 x20_1).f0.f0.f15)) := (blk_cell BK116.out 15).trans rfl; have hcz10_16 : w8.cell? ⟨gb116, 16, none⟩ = some (.int .u8 ((rd_T38 l0_0 x20_1).f0.f0.f16)) := (blk_cell BK116.out 16).trans rfl; have hcz10_17 : w8.cell? ⟨gb116, 17, none⟩ = some (.int .u8 ((rd_T38 l0_0 x20_1).f0.f0.f17)) := (blk_cell BK116.out 17).trans rfl; have hcz10_18 : w8.cell? ⟨gb116, 18, none⟩ = some (.int .u8 ((rd_T38 l0_0 x20_1).f0.f0.f18)) := (blk_cell BK116.out 18).trans rfl; have hcz10_19 : w8.cell? ⟨gb116, 19, none⟩ = some (.int .u8 ((rd_T38 l0_0 x20_1).f0.f0.f19)) := (blk_cell BK116.out 19).trans rfl; have hcz10_20 : w8.cell? ⟨gb116, 20, none⟩ = some (.int .u8 ((rd_T38 l0_0 x20_1).f0.f0.f20)) := (blk_cell BK116.out 20).trans rfl; have hcz10_21 : w8.cell? ⟨gb116, 21, none⟩ = some (.int .u8 ((rd_T38 l0_0 x20_1).f0.f0.f21)) := (blk_cell BK116.out 21).trans rfl; have hcz10_22 : w8.cell? ⟨gb116, 22, none⟩ = some (.int .u8 ((rd_T38 l0_0 x20_1).f0.f0.f22)) := (blk_cell BK116.out 22).trans rfl; have hcz10_23 : w8.cell? ⟨gb116, 23, none⟩ = some (.int .u8 ((rd_T38 l0_0 x20_1).f0.f0.f23)) := (blk_cell BK116.out 23).trans rfl; have hcz10_24 : w8.cell? ⟨gb116, 24, none⟩ = some (.int .u8 ((rd_T38 l0_0 x20_1).f0.f0.f24)) := (blk_cell BK116.out 24).trans rfl; have hcz10_25 : w8.cell? ⟨gb116, 25, none⟩ = some (.int .u8 ((rd_T38 l0_0 x20_1).f0.f0.f25)) := (blk_cell BK116.out 25).trans rfl; have hcz10_26 : w8.cell? ⟨gb116, 26, none⟩ = some (.int .u8 ((rd_T38 l0_0 x20_1).f0.f0.f26)) := (blk_cell BK116.out 26).trans rfl; have hcz10_27 : w8.cell? ⟨gb116, 27, none⟩ = some (.int .u8 ((rd_T38 l0_0 x20_1).f0.f0.f27)) := (blk_cell BK116.out 27).trans rfl; have hcz10_28 : w8.cell? ⟨gb116, 28, none⟩ = some (.int .u8 ((rd_T38 l0_0 x20_1).f0.f0.f28)) := (blk_cell BK116.out 28).trans rfl; have hcz10_29 : w8.cell? ⟨gb116, 29, none⟩ = some (.int .u8 ((rd_T38 l0_0 x20_1).f0.f0.f29)) := (blk_cell BK116.out 29).trans rfl; have hcz10_30 : w8.cell? ⟨gb116, 30, none⟩ = some (.int .u8 ((rd_T38 l0_0 x20_1).f0.f0.f30)) := (blk_cell BK116.out 30).trans rfl; have hcz10_31 : w8.cell? ⟨gb116, 31, none⟩ = some (.int .u8 ((rd_T38 l0_0 x20_1).f0.f0.f31)) := (blk_cell BK116.out 31).trans rfl; have hcz10_32 : w8.cell? ⟨gb116, 32, none⟩ = some (.int .i64 ((rd_T38 l0_0 x20_1).f0.f1)) := (blk_cell BK116.out 32).trans rfl; have hcz10_33 : w8.cell? ⟨gb116, 33, none⟩ = some (.int .i64 ((rd_T38 l0_0 x20_1).f1)) := (blk_cell BK116.out 33).trans rfl; have hcz10_34 : w8.cell? ⟨gb116, 34, none⟩ = some (.int .i64 ((rd_T38 l0_0 x20_1).f2.f0)) := (blk_cell BK116.out 34).trans rfl; have hcz10_35 : w8.cell? ⟨gb116, 35, none⟩ = some (.int .i64 ((rd_T38 l0_0 x20_1).f2.f1)) := (blk_cell BK116.out 35).trans rfl; have hcz10_36 : w8.cell? ⟨gb116, 36, none⟩ = some (.string ((rd_T38 l0_0 x20_1).f2.f2)) := (blk_cell BK116.out 36).trans rfl; have hwz10_0_32 := Go.Proofs.Ytiodebjjbgcbhaa.Wide.mk32 (a := ⟨gb116, 0, none⟩) hcz10_0 hcz10_1 hcz10_2 hcz10_3 hcz10_4 hcz10_5 hcz10_6 hcz10_7 hcz10_8 hcz10_9 hcz10_10 hcz10_11 hcz10_12 hcz10_13 hcz10_14 hcz10_15 hcz10_16 hcz10_17 hcz10_18 hcz10_19 hcz10_20 hcz10_21 hcz10_22 hcz10_23 hcz10_24 hcz10_25 hcz10_26 hcz10_27 hcz10_28 hcz10_29 hcz10_30 hcz10_31; have hwz10_0_33 := Go.Proofs.Ytiodebjjbgcbhaa.Wide.mk33 (a := ⟨gb116, 0, none⟩) hcz10_0 hcz10_1 hcz10_2 hcz10_3 hcz10_4 hcz10_5 hcz10_6 hcz10_7 hcz10_8 hcz10_9 hcz10_10 hcz10_11 hcz10_12 hcz10_13 hcz10_14 hcz10_15 hcz10_16 hcz10_17 hcz10_18 hcz10_19 hcz10_20 hcz10_21 hcz10_22 hcz10_23 hcz10_24 hcz10_25 hcz10_26 hcz10_27 hcz10_28 hcz10_29 hcz10_30 hcz10_31 hcz10_32; have hwz10_0_37 := Go.Proofs.Ytiodebjjbgcbhaa.Wide.mk37 (a := ⟨gb116, 0, none⟩) hcz10_0 hcz10_1 hcz10_2 hcz10_3 hcz10_4 hcz10_5 hcz10_6 hcz10_7 hcz10_8 hcz10_9 hcz10_10 hcz10_11 hcz10_12 hcz10_13 hcz10_14 hcz10_15 hcz10_16 hcz10_17 hcz10_18 hcz10_19 hcz10_20 hcz10_21 hcz10_22 hcz10_23 hcz10_24 hcz10_25 hcz10_26 hcz10_27 hcz10_28 hcz10_29 hcz10_30 hcz10_31 hcz10_32 hcz10_33 hcz10_34 hcz10_35 hcz10_36; have hfz10_0 := blk_frozen BK116.out 0; have hfz10_1 := blk_frozen BK116.out 1; have hfz10_2 := blk_frozen BK116.out 2; have hfz10_3 := blk_frozen BK116.out 3; have hfz10_4 := blk_frozen BK116.out 4; have hfz10_5 := blk_frozen BK116.out 5; have hfz10_6 := blk_frozen BK116.out 6; have hfz10_7 := blk_frozen BK116.out 7; have hfz10_8 := blk_frozen BK116.out 8; have hfz10_9 := blk_frozen BK116.out 9; have hfz10_10 := blk_frozen BK116.out 10; have hfz10_11 := blk_frozen BK116.out 11; have hfz10_12 := blk_frozen BK116.out 12; have hfz10_13 := blk_frozen BK116.out 13; have hfz10_14 := blk_frozen BK116.out 14; have hfz10_15 := blk_frozen BK116.out 15; have hfz10_16 := blk_frozen BK116.out 16; have hfz10_17 := blk_frozen BK116.out 17; have hfz10_18 := blk_frozen BK116.out 18; have hfz10_19 := blk_frozen BK116.out 19; have hfz10_20 := blk_frozen BK116.out 20; have hfz10_21 := blk_frozen BK116.out 21; have hfz10_22 := blk_frozen BK116.out 22; have hfz10_23 := blk_frozen BK116.out 23; have hfz10_24 := blk_frozen BK116.out 24; have hfz10_25 := blk_frozen BK116.out 25; have hfz10_26 := blk_frozen BK116.out 26; have hfz10_27 := blk_frozen BK116.out 27; have hfz10_28 := blk_frozen BK116.out 28; have hfz10_29 := blk_frozen BK116.out 29; have hfz10_30 := blk_frozen BK116.out 30; have hfz10_31 := blk_frozen BK116.out 31; have hfz10_32 := blk_frozen BK116.out 32; have hfz10_33 := blk_frozen BK116.out 33; have hfz10_34 := blk_frozen BK116.out 34; have hfz10_35 := blk_frozen BK116.out 35; have hfz10_36 := blk_frozen BK116.out 36) | ((with_reducible refine gate_callee (f := 47) rfl ?_); refine goesL_ (some 28) rfl rfl Try.func47 (by kernel_rfl) rfl #[.int .i64 ((rd_T38 l0_0 x20_1).f2.f0)] rfl (by (try simp only [List.map_toArray, List.map_cons, List.map_nil]); first | done | rfl | (simp only [List.length_drop, List.length_take]; rfl)) ?_; (with_reducible refine (tx_Wit.calls ((rd_T38 l0_0 x20_1).f2.f0) t117 _ A7.out).mono ?_); rintro e w' ⟨rfl, ⟨nd, rfl⟩⟩; refine ⟨_, rfl, ?_⟩))
       go_roundg k1
       case measure => have := HK1.out; omega
       case rel => exact ⟨(wrap64 (x3_1 + t117)), (wrap64 (x20_1 + 1)), (by first | rfl | (simp; done) | (simp [*]; done)), (by first | rfl | (simp; done) | (simp [*]; done)), H', ⟨by have := HK1.out; omega⟩, ⟨by (with_reducible repeat (first | refine blk_drewN ?_ _ | refine blk_drew ?_ | refine blk_alloc ?_ _)); exact BK114.out⟩, ⟨by repeat (first | (with_reducible first | exact HB.out | apply below_alloc | apply pw_below_drewN | apply below_drew1 | refine below_set ?_ GE114.out | refine below_set ?_ GE116.out) | exact HB.out)⟩⟩
     ·
      rw [if_neg c6] at H
      exact absurd H (by simp)
    ·
     rw [if_neg c5] at H
     exact absurd H (by simp)
   ·
    rw [if_neg c4] at H
    have c4b0 : decide (x20_1 < (l0_0.length : Int)) = false := decide_eq_false c4
    clear c4
    as_aux_lemma =>
     obtain rfl := Option.some.inj H
     go_wp2
     go_ret
     exact ⟨by first | rfl | (simp [errW_none, errW_some] <;> rfl) | (simp [*, errW_none, errW_some] <;> rfl), by repeat (first | (with_reducible first | exact HB.out | apply below_alloc | apply pw_below_drewN | apply below_drew1 | refine below_set ?_ GE114.out) | exact HB.out)⟩

/-! ### amount_within: function 57 -/
def amount_within.f (a0 : Int) (a1 : Int) (a2 : Int) : Option (Bool) := if a0 ≥ a1 then (some (decide (a0 ≤ a2))) else (some false)
set_option maxHeartbeats 8000000 in
set_option maxRecDepth 100000 in
theorem amount_within.calls (a0 : Int) (a1 : Int) (a2 : Int) (r : Bool) (w : World) (h : amount_within.f a0 a1 a2 = some r) :
  Calls Try.prog 57 #[.int .i64 a0, .int .i64 a1, .int .i64 a2] w fun e w' => e = .returned (.bool r) ∧ Drawn0 w w' := by
 have H : (if a0 ≥ a1 then (some (decide (a0 ≤ a2))) else (some false)) = some r := h
 clear h
 by_cases c4 : a0 ≥ a1
 ·
  rw [if_pos c4] at H
  have c4b0 : decide (a1 ≤ a0) = true := decide_eq_true c4
  clear c4
  obtain rfl := Option.some.inj H
  go_enter Try.func57, Try.ntmps57
  go_wp2
  go_ret
  exact ⟨by first | rfl | (simp; done) | (simp [*]; done), by repeat (first | exact Drawn0.refl _ | apply Drawn0.step)⟩
 ·
  rw [if_neg c4] at H
  have c4b0 : decide (a1 ≤ a0) = false := decide_eq_false c4
  clear c4
  obtain rfl := Option.some.inj H
  go_enter Try.func57, Try.ntmps57
  go_wp2
  go_ret
  exact ⟨by first | rfl | (simp; done) | (simp [*]; done), by repeat (first | exact Drawn0.refl _ | apply Drawn0.step)⟩

/-! ### amount_Valid: function 81 -/
def amount_Valid.f (a0 : Int) : Option (Bool) := if a0 ≥ 0 then (some (decide (a0 ≤ 2100000000000000))) else (some false)
set_option maxHeartbeats 8000000 in
set_option maxRecDepth 100000 in
theorem amount_Valid.calls (a0 : Int) (r : Bool) (w : World) (h : amount_Valid.f a0 = some r) :
  Calls Try.prog 81 #[.int .i64 a0] w fun e w' => e = .returned (.bool r) ∧ Drawn0 w w' := by
 have H : (if a0 ≥ 0 then (some (decide (a0 ≤ 2100000000000000))) else (some false)) = some r := h
 clear h
 by_cases c2 : a0 ≥ 0
 ·
  rw [if_pos c2] at H
  have c2b0 : decide (0 ≤ a0) = true := decide_eq_true c2
  clear c2
  obtain rfl := Option.some.inj H
  go_enter Try.func81, Try.ntmps81
  go_wp2
  go_ret
  exact ⟨by first | rfl | (simp; done) | (simp [*]; done), by repeat (first | exact Drawn0.refl _ | apply Drawn0.step)⟩
 ·
  rw [if_neg c2] at H
  have c2b0 : decide (0 ≤ a0) = false := decide_eq_false c2
  clear c2
  obtain rfl := Option.some.inj H
  go_enter Try.func81, Try.ntmps81
  go_wp2
  go_ret
  exact ⟨by first | rfl | (simp; done) | (simp [*]; done), by repeat (first | exact Drawn0.refl _ | apply Drawn0.step)⟩

/-! ### amount_held: function 58 -/
def amount_held.f (a0 : Int) (a1 : Bool) : Option (Int × Int) := if a1 = true then ((amount_Valid.f a0).bind fun t118 => (if t118 = true then (some (a0, 0)) else (some (0, 11)))) else (some (0, 11))
set_option maxHeartbeats 8000000 in
set_option maxRecDepth 100000 in
theorem amount_held.calls (a0 : Int) (a1 : Bool) (r1 : Int) (r2 : Int) (w : World) (h : amount_held.f a0 a1 = some (r1, r2)) :
  Calls Try.prog 58 #[.int .i64 a0, .bool a1] w fun e w' => e = .returned (.tuple #[.int .i64 r1, .int .i64 r2]) ∧ Drawn0 w w' := by
 have H : (if a1 = true then ((amount_Valid.f a0).bind fun t118 => (if t118 = true then (some (a0, 0)) else (some (0, 11)))) else (some (0, 11))) = some (r1, r2) := h
 clear h
 by_cases c3 : a1 = true
 ·
  subst c3
  have H1 : ((amount_Valid.f a0).bind fun t118 => (if t118 = true then (some (a0, 0)) else (some (0, 11)))) = some (r1, r2) := by rw [if_pos rfl] at H; exact H
  clear H
  have H := H1
  clear H1
  replace H := Option.bind_eq_some_iff.mp H
  obtain ⟨t118, A40, H⟩ := H
  replace H : (if t118 = true then (some (a0, 0)) else (some (0, 11))) = some (r1, r2) := H
  have A4 := Aside0.mk A40
  clear A40
  by_cases c5 : t118 = true
  ·
   subst c5
   have H1 : (some (a0, 0)) = some (r1, r2) := by rw [if_pos rfl] at H; exact H
   clear H
   have H := H1
   clear H1
   simp only [Option.some.injEq, Prod.mk.injEq] at H
   obtain ⟨rfl, rfl⟩ := H
   go_enter Try.func58, Try.ntmps58
   go_wp2_with (first | (go_at_call 81; (with_reducible refine (amount_Valid.calls a0 true _ A4.out).mono ?_); rintro e w' ⟨rfl, ⟨nd, rfl⟩⟩))
   go_ret2
   exact ⟨by first | rfl | (simp; done) | (simp [*]; done), by repeat (first | exact Drawn0.refl _ | apply Drawn0.step)⟩
  ·
   replace c5 := Bool.eq_false_iff.mpr c5
   subst c5
   have H1 : (some (0, 11)) = some (r1, r2) := by rw [if_neg (show ¬ (false = true) by decide)] at H; exact H
   clear H
   have H := H1
   clear H1
   simp only [Option.some.injEq, Prod.mk.injEq] at H
   obtain ⟨rfl, rfl⟩ := H
   go_enter Try.func58, Try.ntmps58
   go_wp2_with (first | (go_at_call 81; (with_reducible refine (amount_Valid.calls a0 false _ A4.out).mono ?_); rintro e w' ⟨rfl, ⟨nd, rfl⟩⟩))
   go_ret2
   exact ⟨by first | rfl | (simp; done) | (simp [*]; done), by repeat (first | exact Drawn0.refl _ | apply Drawn0.step)⟩
 ·
  replace c3 := Bool.eq_false_iff.mpr c3
  subst c3
  have H1 : (some (0, 11)) = some (r1, r2) := by rw [if_neg (show ¬ (false = true) by decide)] at H; exact H
  clear H
  have H := H1
  clear H1
  simp only [Option.some.injEq, Prod.mk.injEq] at H
  obtain ⟨rfl, rfl⟩ := H
  go_enter Try.func58, Try.ntmps58
  go_wp2
  go_ret2
  exact ⟨by first | rfl | (simp; done) | (simp [*]; done), by repeat (first | exact Drawn0.refl _ | apply Drawn0.step)⟩

/-! ### amount_Fee: function 29 -/
def amount_Fee.f (a0 : Int) (a1 : Int) : Option (Int × Int) := (amount_within.f a0 0 4000000).bind fun t119 => (if t119 = true then ((amount_within.f a1 0 1000000000).bind fun t120 => (if t120 = true then ((amount_held.f (wrap64 (Int.tdiv (wrap64 ((wrap64 ((wrap64 (a0 * a1)) + 1000)) - 1)) 1000)) true).bind fun bt121 => (some (bt121.1, bt121.2))) else (some (0, 11)))) else (some (0, 11)))
set_option maxHeartbeats 8000000 in
set_option maxRecDepth 100000 in
theorem amount_Fee.calls (a0 : Int) (a1 : Int) (r1 : Int) (r2 : Int) (w : World) (h : amount_Fee.f a0 a1 = some (r1, r2)) :
  Calls Try.prog 29 #[.int .i64 a0, .int .i64 a1] w fun e w' => e = .returned (.tuple #[.int .i64 r1, .int .i64 r2]) ∧ Drawn0 w w' := by
 have H : ((amount_within.f a0 0 4000000).bind fun t119 => (if t119 = true then ((amount_within.f a1 0 1000000000).bind fun t120 => (if t120 = true then ((amount_held.f (wrap64 (Int.tdiv (wrap64 ((wrap64 ((wrap64 (a0 * a1)) + 1000)) - 1)) 1000)) true).bind fun bt121 => (some (bt121.1, bt121.2))) else (some (0, 11)))) else (some (0, 11)))) = some (r1, r2) := h
 clear h
 replace H := Option.bind_eq_some_iff.mp H
 obtain ⟨t119, A30, H⟩ := H
 replace H : (if t119 = true then ((amount_within.f a1 0 1000000000).bind fun t120 => (if t120 = true then ((amount_held.f (wrap64 (Int.tdiv (wrap64 ((wrap64 ((wrap64 (a0 * a1)) + 1000)) - 1)) 1000)) true).bind fun bt121 => (some (bt121.1, bt121.2))) else (some (0, 11)))) else (some (0, 11))) = some (r1, r2) := H
 have A3 := Aside0.mk A30
 clear A30
 by_cases c4 : t119 = true
 ·
  subst c4
  have H1 : ((amount_within.f a1 0 1000000000).bind fun t120 => (if t120 = true then ((amount_held.f (wrap64 (Int.tdiv (wrap64 ((wrap64 ((wrap64 (a0 * a1)) + 1000)) - 1)) 1000)) true).bind fun bt121 => (some (bt121.1, bt121.2))) else (some (0, 11)))) = some (r1, r2) := by rw [if_pos rfl] at H; exact H
  clear H
  have H := H1
  clear H1
  replace H := Option.bind_eq_some_iff.mp H
  obtain ⟨t120, A50, H⟩ := H
  replace H : (if t120 = true then ((amount_held.f (wrap64 (Int.tdiv (wrap64 ((wrap64 ((wrap64 (a0 * a1)) + 1000)) - 1)) 1000)) true).bind fun bt121 => (some (bt121.1, bt121.2))) else (some (0, 11))) = some (r1, r2) := H
  have A5 := Aside0.mk A50
  clear A50
  by_cases c6 : t120 = true
  ·
   subst c6
   have H1 : ((amount_held.f (wrap64 (Int.tdiv (wrap64 ((wrap64 ((wrap64 (a0 * a1)) + 1000)) - 1)) 1000)) true).bind fun bt121 => (some (bt121.1, bt121.2))) = some (r1, r2) := by rw [if_pos rfl] at H; exact H
   clear H
   have H := H1
   clear H1
   replace H := Option.bind_eq_some_iff.mp H
   obtain ⟨⟨t121, t122⟩, A70, H⟩ := H
   replace H : (some (t121, t122)) = some (r1, r2) := H
   have A7 := Aside0.mk A70
   clear A70
   simp only [Option.some.injEq, Prod.mk.injEq] at H
   obtain ⟨rfl, rfl⟩ := H
   go_enter Try.func29, Try.ntmps29
   go_wp2_with (first | ((with_reducible refine gate_callee (f := 57) rfl ?_); refine goesL_ (some 7) rfl rfl Try.func57 (by kernel_rfl) rfl #[.int .i64 a0, .int .i64 0, .int .i64 4000000] rfl (by (try simp only [List.map_toArray, List.map_cons, List.map_nil]); first | done | rfl | (simp only [List.length_drop, List.length_take]; rfl)) ?_; (with_reducible refine (amount_within.calls a0 0 4000000 true _ A3.out).mono ?_); rintro e w' ⟨rfl, ⟨nd, rfl⟩⟩; refine ⟨_, rfl, ?_⟩) | (go_at_call 57; (with_reducible refine (amount_within.calls a1 0 1000000000 true _ A5.out).mono ?_); rintro e w' ⟨rfl, ⟨nd, rfl⟩⟩) | ((with_reducible refine gate_callee (f := 58) rfl ?_); refine goesL_ (some 20) rfl rfl Try.func58 (by kernel_rfl) rfl #[.int .i64 (wrap64 (Int.tdiv (wrap64 ((wrap64 ((wrap64 (a0 * a1)) + 1000)) - 1)) 1000)), .bool true] rfl (by (try simp only [List.map_toArray, List.map_cons, List.map_nil]); first | done | rfl | (simp only [List.length_drop, List.length_take]; rfl)) ?_; (with_reducible refine (amount_held.calls (wrap64 (Int.tdiv (wrap64 ((wrap64 ((wrap64 (a0 * a1)) + 1000)) - 1)) 1000)) true t121 t122 _ A7.out).mono ?_); rintro e w' ⟨rfl, ⟨nd, rfl⟩⟩; refine ⟨_, rfl, ?_⟩))
   go_ret2
   exact ⟨by first | rfl | (simp; done) | (simp [*]; done), by repeat (first | exact Drawn0.refl _ | apply Drawn0.step)⟩
  ·
   replace c6 := Bool.eq_false_iff.mpr c6
   subst c6
   have H1 : (some (0, 11)) = some (r1, r2) := by rw [if_neg (show ¬ (false = true) by decide)] at H; exact H
   clear H
   have H := H1
   clear H1
   simp only [Option.some.injEq, Prod.mk.injEq] at H
   obtain ⟨rfl, rfl⟩ := H
   go_enter Try.func29, Try.ntmps29
   go_wp2_with (first | ((with_reducible refine gate_callee (f := 57) rfl ?_); refine goesL_ (some 7) rfl rfl Try.func57 (by kernel_rfl) rfl #[.int .i64 a0, .int .i64 0, .int .i64 4000000] rfl (by (try simp only [List.map_toArray, List.map_cons, List.map_nil]); first | done | rfl | (simp only [List.length_drop, List.length_take]; rfl)) ?_; (with_reducible refine (amount_within.calls a0 0 4000000 true _ A3.out).mono ?_); rintro e w' ⟨rfl, ⟨nd, rfl⟩⟩; refine ⟨_, rfl, ?_⟩) | (go_at_call 57; (with_reducible refine (amount_within.calls a1 0 1000000000 false _ A5.out).mono ?_); rintro e w' ⟨rfl, ⟨nd, rfl⟩⟩))
   go_ret2
   exact ⟨by first | rfl | (simp; done) | (simp [*]; done), by repeat (first | exact Drawn0.refl _ | apply Drawn0.step)⟩
 ·
  replace c4 := Bool.eq_false_iff.mpr c4
  subst c4
  have H1 : (some (0, 11)) = some (r1, r2) := by rw [if_neg (show ¬ (false = true) by decide)] at H; exact H
  clear H
  have H := H1
  clear H1
  simp only [Option.some.injEq, Prod.mk.injEq] at H
  obtain ⟨rfl, rfl⟩ := H
  go_enter Try.func29, Try.ntmps29
  go_wp2_with (first | ((with_reducible refine gate_callee (f := 57) rfl ?_); refine goesL_ (some 7) rfl rfl Try.func57 (by kernel_rfl) rfl #[.int .i64 a0, .int .i64 0, .int .i64 4000000] rfl (by (try simp only [List.map_toArray, List.map_cons, List.map_nil]); first | done | rfl | (simp only [List.length_drop, List.length_take]; rfl)) ?_; (with_reducible refine (amount_within.calls a0 0 4000000 false _ A3.out).mono ?_); rintro e w' ⟨rfl, ⟨nd, rfl⟩⟩; refine ⟨_, rfl, ?_⟩))
  go_ret2
  exact ⟨by first | rfl | (simp; done) | (simp [*]; done), by repeat (first | exact Drawn0.refl _ | apply Drawn0.step)⟩

/-! ### amount_Add: function 59 -/
def amount_Add.f (a0 : Int) (a1 : Int) : Option (Int × Int) := (amount_Valid.f a0).bind fun t123 => (if t123 = true then ((amount_Valid.f a1).bind fun t124 => ((amount_held.f (wrap64 (a0 + a1)) t124).bind fun bt125 => (some (bt125.1, bt125.2)))) else ((amount_held.f (wrap64 (a0 + a1)) false).bind fun bt127 => (some (bt127.1, bt127.2))))
set_option maxHeartbeats 8000000 in
set_option maxRecDepth 100000 in
theorem amount_Add.calls (a0 : Int) (a1 : Int) (r1 : Int) (r2 : Int) (w : World) (h : amount_Add.f a0 a1 = some (r1, r2)) :
  Calls Try.prog 59 #[.int .i64 a0, .int .i64 a1] w fun e w' => e = .returned (.tuple #[.int .i64 r1, .int .i64 r2]) ∧ Drawn0 w w' := by
 have H : ((amount_Valid.f a0).bind fun t123 => (if t123 = true then ((amount_Valid.f a1).bind fun t124 => ((amount_held.f (wrap64 (a0 + a1)) t124).bind fun bt125 => (some (bt125.1, bt125.2)))) else ((amount_held.f (wrap64 (a0 + a1)) false).bind fun bt127 => (some (bt127.1, bt127.2))))) = some (r1, r2) := h
 clear h
 replace H := Option.bind_eq_some_iff.mp H
 obtain ⟨t123, A30, H⟩ := H
 replace H : (if t123 = true then ((amount_Valid.f a1).bind fun t124 => ((amount_held.f (wrap64 (a0 + a1)) t124).bind fun bt125 => (some (bt125.1, bt125.2)))) else ((amount_held.f (wrap64 (a0 + a1)) false).bind fun bt127 => (some (bt127.1, bt127.2)))) = some (r1, r2) := H
 have A3 := Aside0.mk A30
 clear A30
 by_cases c4 : t123 = true
 ·
  subst c4
  have H1 : ((amount_Valid.f a1).bind fun t124 => ((amount_held.f (wrap64 (a0 + a1)) t124).bind fun bt125 => (some (bt125.1, bt125.2)))) = some (r1, r2) := by rw [if_pos rfl] at H; exact H
  clear H
  have H := H1
  clear H1
  replace H := Option.bind_eq_some_iff.mp H
  obtain ⟨t124, A50, H⟩ := H
  replace H : ((amount_held.f (wrap64 (a0 + a1)) t124).bind fun bt125 => (some (bt125.1, bt125.2))) = some (r1, r2) := H
  have A5 := Aside0.mk A50
  clear A50
  replace H := Option.bind_eq_some_iff.mp H
  obtain ⟨⟨t125, t126⟩, A60, H⟩ := H
  replace H : (some (t125, t126)) = some (r1, r2) := H
  have A6 := Aside0.mk A60
  clear A60
  simp only [Option.some.injEq, Prod.mk.injEq] at H
  obtain ⟨rfl, rfl⟩ := H
  go_enter Try.func59, Try.ntmps59
  go_wp2_with (first | ((with_reducible refine gate_callee (f := 81) rfl ?_); refine goesL_ (some 10) rfl rfl Try.func81 (by kernel_rfl) rfl #[.int .i64 a0] rfl (by (try simp only [List.map_toArray, List.map_cons, List.map_nil]); first | done | rfl | (simp only [List.length_drop, List.length_take]; rfl)) ?_; (with_reducible refine (amount_Valid.calls a0 true _ A3.out).mono ?_); rintro e w' ⟨rfl, ⟨nd, rfl⟩⟩; refine ⟨_, rfl, ?_⟩) | (go_at_call 81; (with_reducible refine (amount_Valid.calls a1 t124 _ A5.out).mono ?_); rintro e w' ⟨rfl, ⟨nd, rfl⟩⟩) | ((with_reducible refine gate_callee (f := 58) rfl ?_); refine goesL_ (some 15) rfl rfl Try.func58 (by kernel_rfl) rfl #[.int .i64 (wrap64 (a0 + a1)), .bool t124] rfl (by (try simp only [List.map_toArray, List.map_cons, List.map_nil]); first | done | rfl | (simp only [List.length_drop, List.length_take]; rfl)) ?_; (with_reducible refine (amount_held.calls (wrap64 (a0 + a1)) t124 t125 t126 _ A6.out).mono ?_); rintro e w' ⟨rfl, ⟨nd, rfl⟩⟩; refine ⟨_, rfl, ?_⟩))
  go_ret2
  exact ⟨by first | rfl | (simp; done) | (simp [*]; done), by repeat (first | exact Drawn0.refl _ | apply Drawn0.step)⟩
 ·
  replace c4 := Bool.eq_false_iff.mpr c4
  subst c4
  have H1 : ((amount_held.f (wrap64 (a0 + a1)) false).bind fun bt127 => (some (bt127.1, bt127.2))) = some (r1, r2) := by rw [if_neg (show ¬ (false = true) by decide)] at H; exact H
  clear H
  have H := H1
  clear H1
  replace H := Option.bind_eq_some_iff.mp H
  obtain ⟨⟨t127, t128⟩, A70, H⟩ := H
  replace H : (some (t127, t128)) = some (r1, r2) := H
  have A7 := Aside0.mk A70
  clear A70
  simp only [Option.some.injEq, Prod.mk.injEq] at H
  obtain ⟨rfl, rfl⟩ := H
  go_enter Try.func59, Try.ntmps59
  go_wp2_with (first | ((with_reducible refine gate_callee (f := 81) rfl ?_); refine goesL_ (some 10) rfl rfl Try.func81 (by kernel_rfl) rfl #[.int .i64 a0] rfl (by (try simp only [List.map_toArray, List.map_cons, List.map_nil]); first | done | rfl | (simp only [List.length_drop, List.length_take]; rfl)) ?_; (with_reducible refine (amount_Valid.calls a0 false _ A3.out).mono ?_); rintro e w' ⟨rfl, ⟨nd, rfl⟩⟩; refine ⟨_, rfl, ?_⟩) | ((with_reducible refine gate_callee (f := 58) rfl ?_); refine goesL_ (some 15) rfl rfl Try.func58 (by kernel_rfl) rfl #[.int .i64 (wrap64 (a0 + a1)), .bool false] rfl (by (try simp only [List.map_toArray, List.map_cons, List.map_nil]); first | done | rfl | (simp only [List.length_drop, List.length_take]; rfl)) ?_; (with_reducible refine (amount_held.calls (wrap64 (a0 + a1)) false t127 t128 _ A7.out).mono ?_); rintro e w' ⟨rfl, ⟨nd, rfl⟩⟩; refine ⟨_, rfl, ?_⟩))
  go_ret2
  exact ⟨by first | rfl | (simp; done) | (simp [*]; done), by repeat (first | exact Drawn0.refl _ | apply Drawn0.step)⟩

/-! ### amount_Total: function 30 -/
def amount_Total.l0 : Nat → Int → Int → List Int → Int → Int → Option (Int × Int)
  | 0, _, _, _, _, _ => none
  | k + 1, x2, x3, x6, x7, x8 => if x8 < x7 then (if 0 ≤ x8 then (if x8 < (x6.length : Int) then ((amount_Add.f x2 (rd x6 x8)).bind fun bt130 => (if bt130.2 = 0 then (amount_Total.l0 k bt130.1 bt130.2 x6 x7 (wrap64 (x8 + 1))) else (some (bt130.1, bt130.2)))) else (none)) else (none)) else (some (x2, x3))
def amount_Total.f (k : Nat) (l0 : List Int) : Option (Int × Int) := amount_Total.l0 k 0 0 l0 (l0.length : Int) 0
theorem amount_Total.mono_l : ∀ k, (∀ y0 y1 y2 y3 y4, LeO (amount_Total.l0 k y0 y1 y2 y3 y4) (amount_Total.l0 (k + 1) y0 y1 y2 y3 y4))
  | 0 => fun _ _ _ _ _ r h => by simp [amount_Total.l0] at h
  | k + 1 => by
    have ih0 := amount_Total.mono_l k
    · intro y0 y1 y2 y3 y4
      unfold amount_Total.l0
      repeat' first
      | (with_reducible exact ih0 _ _ _ _ _)
      | (with_reducible exact LeO.refl _)
      | (with_reducible exact LeO.none _)
      | (with_reducible refine LeO.ite ?_ ?_)
      | (with_reducible refine LeO.bind ?_ (fun _ => ?_))
      | exact ih0 _ _ _ _ _
      | exact LeO.none _
      | refine LeO.ite ?_ ?_
      | refine LeO.bind ?_ (fun _ => ?_)
theorem amount_Total.mono : ∀ a0 k, LeO (amount_Total.f k a0) (amount_Total.f (k + 1) a0) := by
  intro a0 k
  have ih0 := amount_Total.mono_l k
  unfold amount_Total.f
  repeat' first
      | (with_reducible exact ih0 _ _ _ _ _)
      | (with_reducible exact LeO.refl _)
      | (with_reducible exact LeO.none _)
      | (with_reducible refine LeO.ite ?_ ?_)
      | (with_reducible refine LeO.bind ?_ (fun _ => ?_))
      | exact ih0 _ _ _ _ _
      | exact LeO.none _
      | refine LeO.ite ?_ ?_
      | refine LeO.bind ?_ (fun _ => ?_)
set_option maxHeartbeats 8000000 in
set_option maxRecDepth 100000 in
theorem amount_Total.calls (k : Nat) (A0 : Option Addr) (c0 : Nat) (l0 : List Int) (r1 : Int) (r2 : Int) (w : World) (hr0 : Kd.C (Kd.int .i64) w A0 l0.length l0) (hc0 : l0.length ≤ c0) (h : amount_Total.f k l0 = some (r1, r2)) :
  Calls Try.prog 30 #[.slice A0 l0.length c0] w fun e w' => e = .returned (.tuple #[.int .i64 r1, .int .i64 r2]) ∧ Drawn0 w w' := by
 have HR0 := Aside0.mk hr0
 have HC0 := Aside0.mk hc0
 clear hr0 hc0
 have H : (amount_Total.l0 k 0 0 l0 (l0.length : Int) 0) = some (r1, r2) := h
 clear h
 have H' := Aside0.mk H
 clear H
 go_enter Try.func30, Try.ntmps30
 go_wp2_with (first | ((with_reducible refine wp_scope_land 8 ?_)) | ((with_reducible refine wp_label ?_); (try simp only [land_normal])) | ((with_reducible refine wp_goto ?_); (try simp only []); refine land_goto rfl ?_))
 go_loopg [2, 3, 8] k (fun kq v2 v3 v8 w' => ∃ (x2_1 : Int) (x3_1 : Int) (x8_1 : Int), v2 = .int .i64 x2_1 ∧ v3 = .int .i64 x3_1 ∧ v8 = .int .i64 x8_1 ∧ Aside0 (amount_Total.l0 kq x2_1 x3_1 l0 (l0.length : Int) x8_1 = some (r1, r2)) ∧ Aside0 (kq ≤ k) ∧ Drawn0 w w')
 case atStart => exact ⟨(0), (0), (0), (by first | rfl | (simp; done) | (simp [*]; done)), (by first | rfl | (simp; done) | (simp [*]; done)), (by first | rfl | (simp; done) | (simp [*]; done)), H', ⟨Nat.le_refl _⟩, by repeat (first | exact Drawn0.refl _ | apply Drawn0.step)⟩
 case round =>
  clear H'
  obtain ⟨x2_1, x3_1, x8_1, rfl, rfl, rfl, HA, HK1, ⟨m1, rfl⟩⟩ := hrel
  cases gk with
  | zero => exact absurd HA.out (by simp [amount_Total.l0])
  | succ k1 =>
   have H := HA.out
   clear HA
   simp only [amount_Total.l0] at H
   by_cases c2 : x8_1 < (l0.length : Int)
   ·
    rw [if_pos c2] at H
    have c2b0 : decide (x8_1 < (l0.length : Int)) = true := decide_eq_true c2
    clear c2
    by_cases c3 : 0 ≤ x8_1
    ·
     rw [if_pos c3] at H
     have c3b0 : decide (0 ≤ x8_1) = true := decide_eq_true c3
     clear c3
     by_cases c4 : x8_1 < (l0.length : Int)
     ·
      rw [if_pos c4] at H
      have c4b0 : decide (x8_1 < (l0.length : Int)) = true := decide_eq_true c4
      clear c4
      replace H := Option.bind_eq_some_iff.mp H
      obtain ⟨⟨t130, t131⟩, A50, H⟩ := H
      replace H : (if t131 = 0 then (amount_Total.l0 k1 t130 t131 l0 (l0.length : Int) (wrap64 (x8_1 + 1))) else (some (t130, t131))) = some (r1, r2) := H
      have A5 := Aside0.mk A50
      clear A50
      by_cases c6 : t131 = 0
      ·
       rw [if_pos c6] at H
       have c6b0 : (t131 == 0) = true := beq_iff_eq.mpr c6
       have c6b1 : (t131 != 0) = false := bne_eq_false_iff_eq.mpr c6
       clear c6
       have H' := Aside0.mk H
       clear H
       have p129 : 0 ≤ (x8_1 : Int) := of_decide_eq_true (by first | (with_reducible assumption) | assumption)
       have q129 : x8_1 < (l0.length : Int) := of_decide_eq_true (by first | (with_reducible assumption) | assumption)
       obtain ⟨ad129, e129, hx129_0⟩ := Kd.at_int HR0.out x8_1 p129 q129
       cases e129
       replace p129 := eq_true p129
       replace q129 := eq_true q129
       go_wp2_with (first | ((with_reducible refine wp_scope_land 8 ?_)) | ((with_reducible refine wp_label ?_); (try simp only [land_normal])) | ((with_reducible refine wp_goto ?_); (try simp only []); refine land_goto rfl ?_) | ((with_reducible refine gate_callee (f := 59) rfl ?_); refine goesL_ (some 15) rfl rfl Try.func59 (by kernel_rfl) rfl #[.int .i64 x2_1, .int .i64 (rd l0 x8_1)] rfl (by (try simp only [List.map_toArray, List.map_cons, List.map_nil]); first | done | rfl | (simp only [List.length_drop, List.length_take]; rfl)) ?_; (with_reducible refine (amount_Add.calls x2_1 (rd l0 x8_1) t130 t131 _ A5.out).mono ?_); rintro e w' ⟨rfl, ⟨nd, rfl⟩⟩; refine ⟨_, rfl, ?_⟩))
       go_roundg k1
       case measure => have := HK1.out; omega
       case rel => exact ⟨(t130), (t131), (wrap64 (x8_1 + 1)), (by first | rfl | (simp; done) | (simp [*]; done)), (by first | rfl | (simp; done) | (simp [*]; done)), (by first | rfl | (simp; done) | (simp [*]; done)), H', ⟨by have := HK1.out; omega⟩, by repeat (first | exact Drawn0.refl _ | apply Drawn0.step)⟩
      ·
       rw [if_neg c6] at H
       have c6b0 : (t131 == 0) = false := beq_eq_false_iff_ne.mpr c6
       have c6b1 : (t131 != 0) = true := bne_iff_ne.mpr c6
       simp only [Option.some.injEq, Prod.mk.injEq] at H
       obtain ⟨rfl, rfl⟩ := H
       have p129 : 0 ≤ (x8_1 : Int) := of_decide_eq_true (by first | (with_reducible assumption) | assumption)
       have q129 : x8_1 < (l0.length : Int) := of_decide_eq_true (by first | (with_reducible assumption) | assumption)
       obtain ⟨ad129, e129, hx129_0⟩ := Kd.at_int HR0.out x8_1 p129 q129
       cases e129
       replace p129 := eq_true p129
       replace q129 := eq_true q129
       go_wp2_with (first | ((with_reducible refine wp_scope_land 8 ?_)) | ((with_reducible refine wp_label ?_); (try simp only [land_normal])) | ((with_reducible refine wp_goto ?_); (try simp only []); refine land_goto rfl ?_) | ((with_reducible refine gate_callee (f := 59) rfl ?_); refine goesL_ (some 15) rfl rfl Try.func59 (by kernel_rfl) rfl #[.int .i64 x2_1, .int .i64 (rd l0 x8_1)] rfl (by (try simp only [List.map_toArray, List.map_cons, List.map_nil]); first | done | rfl | (simp only [List.length_drop, List.length_take]; rfl)) ?_; (with_reducible refine (amount_Add.calls x2_1 (rd l0 x8_1) t130 t131 _ A5.out).mono ?_); rintro e w' ⟨rfl, ⟨nd, rfl⟩⟩; refine ⟨_, rfl, ?_⟩))
       (try simp only [land_ret])
       go_ret2
       exact ⟨by first | rfl | (simp; done) | (simp [*]; done), by repeat (first | exact Drawn0.refl _ | apply Drawn0.step)⟩
     ·
      rw [if_neg c4] at H
      exact absurd H (by simp)
    ·
     rw [if_neg c3] at H
     exact absurd H (by simp)
   ·
    rw [if_neg c2] at H
    have c2b0 : decide (x8_1 < (l0.length : Int)) = false := decide_eq_false c2
    clear c2
    simp only [Option.some.injEq, Prod.mk.injEq] at H
    obtain ⟨rfl, rfl⟩ := H
    go_wp2_with (first | ((with_reducible refine wp_scope_land 8 ?_)) | ((with_reducible refine wp_label ?_); (try simp only [land_normal])) | ((with_reducible refine wp_goto ?_); (try simp only []); refine land_goto rfl ?_))
    (try simp only [land_ret])
    go_ret2
    exact ⟨by first | rfl | (simp; done) | (simp [*]; done), by repeat (first | exact Drawn0.refl _ | apply Drawn0.step)⟩

end Go.Proofs.Ytiodebjjbgcbhaa.QRep
