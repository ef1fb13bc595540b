/- Functions of the program as plain Lean functions, and that its calls come to what these tell: written by a program of this session; Lean checks it. -/
import Derived.Test.YtmoecidfmgeafaaDoorQPntx0
import Derived.Test.YtmoecidfmgeafaaDoorQPntx4
namespace Go.Proofs.YtmoecidfmgeafaaDoor.QPnt
open Go.RowKit Go.Proofs.YtmoecidfmgeafaaDoorW.PrintWords Go.Proofs.YtmoecidfmgeafaaDoorW.PrintLast Go.Proofs.YtmoecidfmgeafaaDoorW.PrintMore
attribute [local go_sem] max2_int min2_int max_two min_two max_three min_three max_four min_four  run_fop run_feq run_fne run_flt run_fle run_fgt run_fge run_fint run_toi run_real' run_imag' run_complex' run_ceq run_cne run_cadd run_csub run_cmul Go.Proofs.YtmoecidfmgeafaaDoor.Wide.cellsAt_drewN Go.Proofs.YtmoecidfmgeafaaDoor.Wide.cellsAt_drew Go.Proofs.YtmoecidfmgeafaaDoor.Wide.lw32 Go.Proofs.YtmoecidfmgeafaaDoor.Wide.lw33
attribute [local go_sem ↓ high] Go.Proofs.YtmoecidfmgeafaaDoor.Wide.hv32 Go.Proofs.YtmoecidfmgeafaaDoor.Wide.hv33
set_option linter.unusedVariables false
set_option linter.unusedSimpArgs false

/-! ### coracleref1_Alike: function 19 -/
def coracleref1_Alike.l0 : Nat → List (S25) → List (S25) → Int → Option (Bool)
  | 0, _, _, _ => none
  | k + 1, x0, x1, x5 => if x5 < (x0.length : Int) then (if 0 ≤ x5 then ((coracleref1_Times.f k x0 ((rd_T25 x0 x5).f0.f0) ((rd_T25 x0 x5).f0.f1) ((rd_T25 x0 x5).f0.f2) ((rd_T25 x0 x5).f0.f3) ((rd_T25 x0 x5).f0.f4) ((rd_T25 x0 x5).f0.f5) ((rd_T25 x0 x5).f0.f6) ((rd_T25 x0 x5).f0.f7) ((rd_T25 x0 x5).f0.f8) ((rd_T25 x0 x5).f0.f9) ((rd_T25 x0 x5).f0.f10) ((rd_T25 x0 x5).f0.f11) ((rd_T25 x0 x5).f0.f12) ((rd_T25 x0 x5).f0.f13) ((rd_T25 x0 x5).f0.f14) ((rd_T25 x0 x5).f0.f15) ((rd_T25 x0 x5).f0.f16) ((rd_T25 x0 x5).f0.f17) ((rd_T25 x0 x5).f0.f18) ((rd_T25 x0 x5).f0.f19) ((rd_T25 x0 x5).f0.f20) ((rd_T25 x0 x5).f0.f21) ((rd_T25 x0 x5).f0.f22) ((rd_T25 x0 x5).f0.f23) ((rd_T25 x0 x5).f0.f24) ((rd_T25 x0 x5).f0.f25) ((rd_T25 x0 x5).f0.f26) ((rd_T25 x0 x5).f0.f27) ((rd_T25 x0 x5).f0.f28) ((rd_T25 x0 x5).f0.f29) ((rd_T25 x0 x5).f0.f30) ((rd_T25 x0 x5).f0.f31) ((rd_T25 x0 x5).f1)).bind fun t252 => ((coracleref1_Times.f k x1 ((rd_T25 x0 x5).f0.f0) ((rd_T25 x0 x5).f0.f1) ((rd_T25 x0 x5).f0.f2) ((rd_T25 x0 x5).f0.f3) ((rd_T25 x0 x5).f0.f4) ((rd_T25 x0 x5).f0.f5) ((rd_T25 x0 x5).f0.f6) ((rd_T25 x0 x5).f0.f7) ((rd_T25 x0 x5).f0.f8) ((rd_T25 x0 x5).f0.f9) ((rd_T25 x0 x5).f0.f10) ((rd_T25 x0 x5).f0.f11) ((rd_T25 x0 x5).f0.f12) ((rd_T25 x0 x5).f0.f13) ((rd_T25 x0 x5).f0.f14) ((rd_T25 x0 x5).f0.f15) ((rd_T25 x0 x5).f0.f16) ((rd_T25 x0 x5).f0.f17) ((rd_T25 x0 x5).f0.f18) ((rd_T25 x0 x5).f0.f19) ((rd_T25 x0 x5).f0.f20) ((rd_T25 x0 x5).f0.f21) ((rd_T25 x0 x5).f0.f22) ((rd_T25 x0 x5).f0.f23) ((rd_T25 x0 x5).f0.f24) ((rd_T25 x0 x5).f0.f25) ((rd_T25 x0 x5).f0.f26) ((rd_T25 x0 x5).f0.f27) ((rd_T25 x0 x5).f0.f28) ((rd_T25 x0 x5).f0.f29) ((rd_T25 x0 x5).f0.f30) ((rd_T25 x0 x5).f0.f31) ((rd_T25 x0 x5).f1)).bind fun t254 => (if t252 = t254 then (coracleref1_Alike.l0 k x0 x1 (wrap64 (x5 + 1))) else (some false)))) else (none)) else (some ((x0.length : Int) == (x1.length : Int)))
def coracleref1_Alike.f (k : Nat) (l0 : List (S25)) (l1 : List (S25)) : Option (Bool) := coracleref1_Alike.l0 k l0 l1 0
theorem coracleref1_Alike.mono_l : ∀ k, (∀ y0 y1 y2, LeO (coracleref1_Alike.l0 k y0 y1 y2) (coracleref1_Alike.l0 (k + 1) y0 y1 y2))
  | 0 => fun _ _ _ r h => by simp [coracleref1_Alike.l0] at h
  | k + 1 => by
    have ih0 := coracleref1_Alike.mono_l k
    · intro y0 y1 y2
      unfold coracleref1_Alike.l0
      repeat' first
      | (with_reducible exact ih0 _ _ _)
      | (with_reducible exact coracleref1_Times.mono _ _ _ _ _ _ _ _ _ _ _ _ _ _ _ _ _ _ _ _ _ _ _ _ _ _ _ _ _ _ _ _ _ _ _)
      | (with_reducible exact LeO.refl _)
      | (with_reducible exact LeO.none _)
      | (with_reducible refine LeO.ite ?_ ?_)
      | (with_reducible refine LeO.bind ?_ (fun _ => ?_))
      | exact ih0 _ _ _
      | exact coracleref1_Times.mono _ _ _ _ _ _ _ _ _ _ _ _ _ _ _ _ _ _ _ _ _ _ _ _ _ _ _ _ _ _ _ _ _ _ _
      | exact LeO.none _
      | refine LeO.ite ?_ ?_
      | refine LeO.bind ?_ (fun _ => ?_)
theorem coracleref1_Alike.mono : ∀ a0 a1 k, LeO (coracleref1_Alike.f k a0 a1) (coracleref1_Alike.f (k + 1) a0 a1) := by
  intro a0 a1 k
  have ih0 := coracleref1_Alike.mono_l k
  unfold coracleref1_Alike.f
  repeat' first
      | (with_reducible exact ih0 _ _ _)
      | (with_reducible exact coracleref1_Times.mono _ _ _ _ _ _ _ _ _ _ _ _ _ _ _ _ _ _ _ _ _ _ _ _ _ _ _ _ _ _ _ _ _ _ _)
      | (with_reducible exact LeO.refl _)
      | (with_reducible exact LeO.none _)
      | (with_reducible refine LeO.ite ?_ ?_)
      | (with_reducible refine LeO.bind ?_ (fun _ => ?_))
      | exact ih0 _ _ _
      | exact coracleref1_Times.mono _ _ _ _ _ _ _ _ _ _ _ _ _ _ _ _ _ _ _ _ _ _ _ _ _ _ _ _ _ _ _ _ _ _ _
      | exact LeO.none _
      | refine LeO.ite ?_ ?_
      | refine LeO.bind ?_ (fun _ => ?_)
def coracleref1_Alike.T4 : Bool × List (List Nat × List Nat) := (true, [([], []), ([], []), ([], []), ([1, 2], [1, 2]), ([3], [3]), ([0, 4], [0, 4]), ([], []), ([], []), ([], []), ([7, 8], [7, 8]), ([9], [9]), ([6, 10, 5], [6, 10]), ([5, 11], [5, 11])])
def coracleref1_Alike.B4 : List Nat := [0, 0, 0, 6, 14, 31, 0, 0, 0, 384, 896, 2047, 4095]
theorem coracleref1_Alike.tab4 : rtab .any (opsOf Tryd.f19 4) = coracleref1_Alike.T4 := by kernel_rfl
theorem coracleref1_Alike.bits4 : waitsOk coracleref1_Alike.T4.2 coracleref1_Alike.B4 = true := by kernel_rfl
set_option maxHeartbeats 8000000 in
set_option maxRecDepth 100000 in
theorem coracleref1_Alike.calls (k : Nat) (A0 : Option Addr) (c0 : Nat) (l0 : List (S25)) (A1 : Option Addr) (c1 : Nat) (l1 : List (S25)) (r : Bool) (w : World) (hr0 : Kd.C k25 w A0 l0.length l0) (hc0 : l0.length ≤ c0) (hr1 : Kd.C k25 w A1 l1.length l1) (hc1 : l1.length ≤ c1) (h : coracleref1_Alike.f k l0 l1 = some r) :
    Calls Tryd.prog 19 #[.slice A0 l0.length c0, .slice A1 l1.length c1] w fun e w' => e = .returned (.bool r) ∧ Below w.heap.size w w' := by
  have hu25 := Tryd.underlying25
  have HR0 := Aside0.mk hr0
  have HC0 := Aside0.mk hc0
  clear hr0 hc0
  have HR1 := Aside0.mk hr1
  have HC1 := Aside0.mk hc1
  clear hr1 hc1
  have HB := Aside0.mk (Below.refl w.heap.size w)
  have H : (coracleref1_Alike.l0 k l0 l1 0) = some r := h
  clear h
  have H' := Aside0.mk H
  clear H
  go_enter Tryd.func19, Tryd.ntmps19
  go_wp2
  go_loopg [5] k (fun kq v5 w' => ∃ (x5_1 : Int), v5 = .int .i64 x5_1 ∧ Aside0 (coracleref1_Alike.l0 kq l0 l1 x5_1 = some r) ∧ Aside0 (kq ≤ k) ∧ Aside0 (Below w.heap.size w w'))
  case atStart => exact ⟨(0), (by first | rfl | (simp; done) | (simp [*]; done)), H', ⟨Nat.le_refl _⟩, ⟨by repeat (first | (with_reducible first | exact HB.out | apply below_alloc | apply pw_below_drewN | apply below_drew1) | exact HB.out)⟩⟩
  case round =>
    clear H'
    try clear c1
    try clear p2
    obtain ⟨x5_1, rfl, HA, HK1, HB⟩ := hrel
    cases gk with
    | zero => exact absurd HA.out (by simp [coracleref1_Alike.l0])
    | succ k1 =>
      have H := HA.out
      clear HA
      simp only [coracleref1_Alike.l0] at H
      by_cases c3 : x5_1 < (l0.length : Int)
      · rw [if_pos c3] at H
        have c3b0 : decide (x5_1 < (l0.length : Int)) = true := decide_eq_true c3
        clear c3
        by_cases c4 : 0 ≤ x5_1
        · rw [if_pos c4] at H
          have c4b0 : decide (0 ≤ x5_1) = true := decide_eq_true c4
          clear c4
          replace H := Option.bind_eq_some_iff.mp H
          obtain ⟨t252, A50, H⟩ := H
          replace H : ((coracleref1_Times.f k1 l1 ((rd_T25 l0 x5_1).f0.f0) ((rd_T25 l0 x5_1).f0.f1) ((rd_T25 l0 x5_1).f0.f2) ((rd_T25 l0 x5_1).f0.f3) ((rd_T25 l0 x5_1).f0.f4) ((rd_T25 l0 x5_1).f0.f5) ((rd_T25 l0 x5_1).f0.f6) ((rd_T25 l0 x5_1).f0.f7) ((rd_T25 l0 x5_1).f0.f8) ((rd_T25 l0 x5_1).f0.f9) ((rd_T25 l0 x5_1).f0.f10) ((rd_T25 l0 x5_1).f0.f11) ((rd_T25 l0 x5_1).f0.f12) ((rd_T25 l0 x5_1).f0.f13) ((rd_T25 l0 x5_1).f0.f14) ((rd_T25 l0 x5_1).f0.f15) ((rd_T25 l0 x5_1).f0.f16) ((rd_T25 l0 x5_1).f0.f17) ((rd_T25 l0 x5_1).f0.f18) ((rd_T25 l0 x5_1).f0.f19) ((rd_T25 l0 x5_1).f0.f20) ((rd_T25 l0 x5_1).f0.f21) ((rd_T25 l0 x5_1).f0.f22) ((rd_T25 l0 x5_1).f0.f23) ((rd_T25 l0 x5_1).f0.f24) ((rd_T25 l0 x5_1).f0.f25) ((rd_T25 l0 x5_1).f0.f26) ((rd_T25 l0 x5_1).f0.f27) ((rd_T25 l0 x5_1).f0.f28) ((rd_T25 l0 x5_1).f0.f29) ((rd_T25 l0 x5_1).f0.f30) ((rd_T25 l0 x5_1).f0.f31) ((rd_T25 l0 x5_1).f1)).bind fun t254 => (if t252 = t254 then (coracleref1_Alike.l0 k1 l0 l1 (wrap64 (x5_1 + 1))) else (some false))) = some r := H
          have A5 := Aside0.mk A50
          clear A50
          replace H := Option.bind_eq_some_iff.mp H
          obtain ⟨t254, A60, H⟩ := H
          replace H : (if t252 = t254 then (coracleref1_Alike.l0 k1 l0 l1 (wrap64 (x5_1 + 1))) else (some false)) = some r := H
          have A6 := Aside0.mk A60
          clear A60
          by_cases c7 : t252 = t254
          · rw [if_pos c7] at H
            have c7b0 : (t252 == t254) = true := beq_iff_eq.mpr c7
            have c7b1 : (t252 != t254) = false := bne_eq_false_iff_eq.mpr c7
            clear c7
            have H' := Aside0.mk H
            clear H
            try go_wp2
            have n0_ := Aside0.mk (below_drew1 HB.out)
            clear HB
            have HB := n0_
            clear n0_
            have p251 : 0 ≤ (x5_1 : Int) := of_decide_eq_true (by first | (with_reducible assumption) | assumption)
            have q251 : x5_1 < (l0.length : Int) := of_decide_eq_true (by first | (with_reducible assumption) | assumption)
            obtain ⟨ad251, e251, hx251_0, hx251_1, hx251_2, hx251_3, hx251_4, hx251_5, hx251_6, hx251_7, hx251_8, hx251_9, hx251_10, hx251_11, hx251_12, hx251_13, hx251_14, hx251_15, hx251_16, hx251_17, hx251_18, hx251_19, hx251_20, hx251_21, hx251_22, hx251_23, hx251_24, hx251_25, hx251_26, hx251_27, hx251_28, hx251_29, hx251_30, hx251_31, hx251_32⟩ := at_T25 HR0.out x5_1 p251 q251
            have hw251_0_32 := Go.Proofs.YtmoecidfmgeafaaDoor.Wide.mk32 hx251_0 hx251_1 hx251_2 hx251_3 hx251_4 hx251_5 hx251_6 hx251_7 hx251_8 hx251_9 hx251_10 hx251_11 hx251_12 hx251_13 hx251_14 hx251_15 hx251_16 hx251_17 hx251_18 hx251_19 hx251_20 hx251_21 hx251_22 hx251_23 hx251_24 hx251_25 hx251_26 hx251_27 hx251_28 hx251_29 hx251_30 hx251_31
            have hw251_0_33 := Go.Proofs.YtmoecidfmgeafaaDoor.Wide.mk33 hx251_0 hx251_1 hx251_2 hx251_3 hx251_4 hx251_5 hx251_6 hx251_7 hx251_8 hx251_9 hx251_10 hx251_11 hx251_12 hx251_13 hx251_14 hx251_15 hx251_16 hx251_17 hx251_18 hx251_19 hx251_20 hx251_21 hx251_22 hx251_23 hx251_24 hx251_25 hx251_26 hx251_27 hx251_28 hx251_29 hx251_30 hx251_31 hx251_32
            have hw251_32 := hx251_32
            have hw251_31 := hx251_31
            have hw251_30 := hx251_30
            have hw251_29 := hx251_29
            have hw251_28 := hx251_28
            have hw251_27 := hx251_27
            have hw251_26 := hx251_26
            have hw251_25 := hx251_25
            have hw251_24 := hx251_24
            have hw251_23 := hx251_23
            have hw251_22 := hx251_22
            have hw251_21 := hx251_21
            have hw251_20 := hx251_20
            have hw251_19 := hx251_19
            have hw251_18 := hx251_18
            have hw251_17 := hx251_17
            have hw251_16 := hx251_16
            have hw251_15 := hx251_15
            have hw251_14 := hx251_14
            have hw251_13 := hx251_13
            have hw251_12 := hx251_12
            have hw251_11 := hx251_11
            have hw251_10 := hx251_10
            have hw251_9 := hx251_9
            have hw251_8 := hx251_8
            have hw251_7 := hx251_7
            have hw251_6 := hx251_6
            have hw251_5 := hx251_5
            have hw251_4 := hx251_4
            have hw251_3 := hx251_3
            have hw251_2 := hx251_2
            have hw251_1 := hx251_1
            have hw251_0 := hx251_0
            cases e251
            replace hx251_0 := (HB.out.cell (World.block_lt_of_cell? w _ hx251_0)).trans hx251_0
            replace hx251_1 := (HB.out.cell (World.block_lt_of_cell? w _ hx251_1)).trans hx251_1
            replace hx251_2 := (HB.out.cell (World.block_lt_of_cell? w _ hx251_2)).trans hx251_2
            replace hx251_3 := (HB.out.cell (World.block_lt_of_cell? w _ hx251_3)).trans hx251_3
            replace hx251_4 := (HB.out.cell (World.block_lt_of_cell? w _ hx251_4)).trans hx251_4
            replace hx251_5 := (HB.out.cell (World.block_lt_of_cell? w _ hx251_5)).trans hx251_5
            replace hx251_6 := (HB.out.cell (World.block_lt_of_cell? w _ hx251_6)).trans hx251_6
            replace hx251_7 := (HB.out.cell (World.block_lt_of_cell? w _ hx251_7)).trans hx251_7
            replace hx251_8 := (HB.out.cell (World.block_lt_of_cell? w _ hx251_8)).trans hx251_8
            replace hx251_9 := (HB.out.cell (World.block_lt_of_cell? w _ hx251_9)).trans hx251_9
            replace hx251_10 := (HB.out.cell (World.block_lt_of_cell? w _ hx251_10)).trans hx251_10
            replace hx251_11 := (HB.out.cell (World.block_lt_of_cell? w _ hx251_11)).trans hx251_11
            replace hx251_12 := (HB.out.cell (World.block_lt_of_cell? w _ hx251_12)).trans hx251_12
            replace hx251_13 := (HB.out.cell (World.block_lt_of_cell? w _ hx251_13)).trans hx251_13
            replace hx251_14 := (HB.out.cell (World.block_lt_of_cell? w _ hx251_14)).trans hx251_14
            replace hx251_15 := (HB.out.cell (World.block_lt_of_cell? w _ hx251_15)).trans hx251_15
            replace hx251_16 := (HB.out.cell (World.block_lt_of_cell? w _ hx251_16)).trans hx251_16
            replace hx251_17 := (HB.out.cell (World.block_lt_of_cell? w _ hx251_17)).trans hx251_17
            replace hx251_18 := (HB.out.cell (World.block_lt_of_cell? w _ hx251_18)).trans hx251_18
            replace hx251_19 := (HB.out.cell (World.block_lt_of_cell? w _ hx251_19)).trans hx251_19
            replace hx251_20 := (HB.out.cell (World.block_lt_of_cell? w _ hx251_20)).trans hx251_20
            replace hx251_21 := (HB.out.cell (World.block_lt_of_cell? w _ hx251_21)).trans hx251_21
            replace hx251_22 := (HB.out.cell (World.block_lt_of_cell? w _ hx251_22)).trans hx251_22
            replace hx251_23 := (HB.out.cell (World.block_lt_of_cell? w _ hx251_23)).trans hx251_23
            replace hx251_24 := (HB.out.cell (World.block_lt_of_cell? w _ hx251_24)).trans hx251_24
            replace hx251_25 := (HB.out.cell (World.block_lt_of_cell? w _ hx251_25)).trans hx251_25
            replace hx251_26 := (HB.out.cell (World.block_lt_of_cell? w _ hx251_26)).trans hx251_26
            replace hx251_27 := (HB.out.cell (World.block_lt_of_cell? w _ hx251_27)).trans hx251_27
            replace hx251_28 := (HB.out.cell (World.block_lt_of_cell? w _ hx251_28)).trans hx251_28
            replace hx251_29 := (HB.out.cell (World.block_lt_of_cell? w _ hx251_29)).trans hx251_29
            replace hx251_30 := (HB.out.cell (World.block_lt_of_cell? w _ hx251_30)).trans hx251_30
            replace hx251_31 := (HB.out.cell (World.block_lt_of_cell? w _ hx251_31)).trans hx251_31
            replace hx251_32 := (HB.out.cell (World.block_lt_of_cell? w _ hx251_32)).trans hx251_32
            replace p251 := eq_true p251
            replace q251 := eq_true q251
            have p253 : 0 ≤ (x5_1 : Int) := of_decide_eq_true (by first | (with_reducible assumption) | assumption)
            have q253 : x5_1 < (l0.length : Int) := of_decide_eq_true (by first | (with_reducible assumption) | assumption)
            obtain ⟨ad253, e253, hx253_0, hx253_1, hx253_2, hx253_3, hx253_4, hx253_5, hx253_6, hx253_7, hx253_8, hx253_9, hx253_10, hx253_11, hx253_12, hx253_13, hx253_14, hx253_15, hx253_16, hx253_17, hx253_18, hx253_19, hx253_20, hx253_21, hx253_22, hx253_23, hx253_24, hx253_25, hx253_26, hx253_27, hx253_28, hx253_29, hx253_30, hx253_31, hx253_32⟩ := at_T25 HR0.out x5_1 p253 q253
            have hw253_0_32 := Go.Proofs.YtmoecidfmgeafaaDoor.Wide.mk32 hx253_0 hx253_1 hx253_2 hx253_3 hx253_4 hx253_5 hx253_6 hx253_7 hx253_8 hx253_9 hx253_10 hx253_11 hx253_12 hx253_13 hx253_14 hx253_15 hx253_16 hx253_17 hx253_18 hx253_19 hx253_20 hx253_21 hx253_22 hx253_23 hx253_24 hx253_25 hx253_26 hx253_27 hx253_28 hx253_29 hx253_30 hx253_31
            have hw253_0_33 := Go.Proofs.YtmoecidfmgeafaaDoor.Wide.mk33 hx253_0 hx253_1 hx253_2 hx253_3 hx253_4 hx253_5 hx253_6 hx253_7 hx253_8 hx253_9 hx253_10 hx253_11 hx253_12 hx253_13 hx253_14 hx253_15 hx253_16 hx253_17 hx253_18 hx253_19 hx253_20 hx253_21 hx253_22 hx253_23 hx253_24 hx253_25 hx253_26 hx253_27 hx253_28 hx253_29 hx253_30 hx253_31 hx253_32
            have hw253_32 := hx253_32
            have hw253_31 := hx253_31
            have hw253_30 := hx253_30
            have hw253_29 := hx253_29
            have hw253_28 := hx253_28
            have hw253_27 := hx253_27
            have hw253_26 := hx253_26
            have hw253_25 := hx253_25
            have hw253_24 := hx253_24
            have hw253_23 := hx253_23
            have hw253_22 := hx253_22
            have hw253_21 := hx253_21
            have hw253_20 := hx253_20
            have hw253_19 := hx253_19
            have hw253_18 := hx253_18
            have hw253_17 := hx253_17
            have hw253_16 := hx253_16
            have hw253_15 := hx253_15
            have hw253_14 := hx253_14
            have hw253_13 := hx253_13
            have hw253_12 := hx253_12
            have hw253_11 := hx253_11
            have hw253_10 := hx253_10
            have hw253_9 := hx253_9
            have hw253_8 := hx253_8
            have hw253_7 := hx253_7
            have hw253_6 := hx253_6
            have hw253_5 := hx253_5
            have hw253_4 := hx253_4
            have hw253_3 := hx253_3
            have hw253_2 := hx253_2
            have hw253_1 := hx253_1
            have hw253_0 := hx253_0
            obtain rfl : ad251 = ad253 := (by injection e253)
            replace hx253_0 := (HB.out.cell (World.block_lt_of_cell? w _ hx253_0)).trans hx253_0
            replace hx253_1 := (HB.out.cell (World.block_lt_of_cell? w _ hx253_1)).trans hx253_1
            replace hx253_2 := (HB.out.cell (World.block_lt_of_cell? w _ hx253_2)).trans hx253_2
            replace hx253_3 := (HB.out.cell (World.block_lt_of_cell? w _ hx253_3)).trans hx253_3
            replace hx253_4 := (HB.out.cell (World.block_lt_of_cell? w _ hx253_4)).trans hx253_4
            replace hx253_5 := (HB.out.cell (World.block_lt_of_cell? w _ hx253_5)).trans hx253_5
            replace hx253_6 := (HB.out.cell (World.block_lt_of_cell? w _ hx253_6)).trans hx253_6
            replace hx253_7 := (HB.out.cell (World.block_lt_of_cell? w _ hx253_7)).trans hx253_7
            replace hx253_8 := (HB.out.cell (World.block_lt_of_cell? w _ hx253_8)).trans hx253_8
            replace hx253_9 := (HB.out.cell (World.block_lt_of_cell? w _ hx253_9)).trans hx253_9
            replace hx253_10 := (HB.out.cell (World.block_lt_of_cell? w _ hx253_10)).trans hx253_10
            replace hx253_11 := (HB.out.cell (World.block_lt_of_cell? w _ hx253_11)).trans hx253_11
            replace hx253_12 := (HB.out.cell (World.block_lt_of_cell? w _ hx253_12)).trans hx253_12
            replace hx253_13 := (HB.out.cell (World.block_lt_of_cell? w _ hx253_13)).trans hx253_13
            replace hx253_14 := (HB.out.cell (World.block_lt_of_cell? w _ hx253_14)).trans hx253_14
            replace hx253_15 := (HB.out.cell (World.block_lt_of_cell? w _ hx253_15)).trans hx253_15
            replace hx253_16 := (HB.out.cell (World.block_lt_of_cell? w _ hx253_16)).trans hx253_16
            replace hx253_17 := (HB.out.cell (World.block_lt_of_cell? w _ hx253_17)).trans hx253_17
            replace hx253_18 := (HB.out.cell (World.block_lt_of_cell? w _ hx253_18)).trans hx253_18
            replace hx253_19 := (HB.out.cell (World.block_lt_of_cell? w _ hx253_19)).trans hx253_19
            replace hx253_20 := (HB.out.cell (World.block_lt_of_cell? w _ hx253_20)).trans hx253_20
            replace hx253_21 := (HB.out.cell (World.block_lt_of_cell? w _ hx253_21)).trans hx253_21
            replace hx253_22 := (HB.out.cell (World.block_lt_of_cell? w _ hx253_22)).trans hx253_22
            replace hx253_23 := (HB.out.cell (World.block_lt_of_cell? w _ hx253_23)).trans hx253_23
            replace hx253_24 := (HB.out.cell (World.block_lt_of_cell? w _ hx253_24)).trans hx253_24
            replace hx253_25 := (HB.out.cell (World.block_lt_of_cell? w _ hx253_25)).trans hx253_25
            replace hx253_26 := (HB.out.cell (World.block_lt_of_cell? w _ hx253_26)).trans hx253_26
            replace hx253_27 := (HB.out.cell (World.block_lt_of_cell? w _ hx253_27)).trans hx253_27
            replace hx253_28 := (HB.out.cell (World.block_lt_of_cell? w _ hx253_28)).trans hx253_28
            replace hx253_29 := (HB.out.cell (World.block_lt_of_cell? w _ hx253_29)).trans hx253_29
            replace hx253_30 := (HB.out.cell (World.block_lt_of_cell? w _ hx253_30)).trans hx253_30
            replace hx253_31 := (HB.out.cell (World.block_lt_of_cell? w _ hx253_31)).trans hx253_31
            replace hx253_32 := (HB.out.cell (World.block_lt_of_cell? w _ hx253_32)).trans hx253_32
            replace p253 := eq_true p253
            replace q253 := eq_true q253
            refine start_ (n := 13) (S := fun w' => Go.Proofs.YtmoecidfmgeafaaDoor.Wide.cellsAt w' (ad251.add ((x5_1).toNat * 33)) 33 = some (.int .u8 ((rd_T25 l0 x5_1).f0.f0) :: .int .u8 ((rd_T25 l0 x5_1).f0.f1) :: .int .u8 ((rd_T25 l0 x5_1).f0.f2) :: .int .u8 ((rd_T25 l0 x5_1).f0.f3) :: .int .u8 ((rd_T25 l0 x5_1).f0.f4) :: .int .u8 ((rd_T25 l0 x5_1).f0.f5) :: .int .u8 ((rd_T25 l0 x5_1).f0.f6) :: .int .u8 ((rd_T25 l0 x5_1).f0.f7) :: .int .u8 ((rd_T25 l0 x5_1).f0.f8) :: .int .u8 ((rd_T25 l0 x5_1).f0.f9) :: .int .u8 ((rd_T25 l0 x5_1).f0.f10) :: .int .u8 ((rd_T25 l0 x5_1).f0.f11) :: .int .u8 ((rd_T25 l0 x5_1).f0.f12) :: .int .u8 ((rd_T25 l0 x5_1).f0.f13) :: .int .u8 ((rd_T25 l0 x5_1).f0.f14) :: .int .u8 ((rd_T25 l0 x5_1).f0.f15) :: .int .u8 ((rd_T25 l0 x5_1).f0.f16) :: .int .u8 ((rd_T25 l0 x5_1).f0.f17) :: .int .u8 ((rd_T25 l0 x5_1).f0.f18) :: .int .u8 ((rd_T25 l0 x5_1).f0.f19) :: .int .u8 ((rd_T25 l0 x5_1).f0.f20) :: .int .u8 ((rd_T25 l0 x5_1).f0.f21) :: .int .u8 ((rd_T25 l0 x5_1).f0.f22) :: .int .u8 ((rd_T25 l0 x5_1).f0.f23) :: .int .u8 ((rd_T25 l0 x5_1).f0.f24) :: .int .u8 ((rd_T25 l0 x5_1).f0.f25) :: .int .u8 ((rd_T25 l0 x5_1).f0.f26) :: .int .u8 ((rd_T25 l0 x5_1).f0.f27) :: .int .u8 ((rd_T25 l0 x5_1).f0.f28) :: .int .u8 ((rd_T25 l0 x5_1).f0.f29) :: .int .u8 ((rd_T25 l0 x5_1).f0.f30) :: .int .u8 ((rd_T25 l0 x5_1).f0.f31) :: .int .i64 ((rd_T25 l0 x5_1).f1) :: [])) (ds := []) #[false, false, false, false, false, false, false, false, false, false, false, false, false] (by kernel_rfl) rfl rfl (Go.Proofs.YtmoecidfmgeafaaDoor.Wide.mk33 (((HB.out.cell (World.block_lt_of_cell? w _ hw251_0)).trans hw251_0)) (((HB.out.cell (World.block_lt_of_cell? w _ hw251_1)).trans hw251_1)) (((HB.out.cell (World.block_lt_of_cell? w _ hw251_2)).trans hw251_2)) (((HB.out.cell (World.block_lt_of_cell? w _ hw251_3)).trans hw251_3)) (((HB.out.cell (World.block_lt_of_cell? w _ hw251_4)).trans hw251_4)) (((HB.out.cell (World.block_lt_of_cell? w _ hw251_5)).trans hw251_5)) (((HB.out.cell (World.block_lt_of_cell? w _ hw251_6)).trans hw251_6)) (((HB.out.cell (World.block_lt_of_cell? w _ hw251_7)).trans hw251_7)) (((HB.out.cell (World.block_lt_of_cell? w _ hw251_8)).trans hw251_8)) (((HB.out.cell (World.block_lt_of_cell? w _ hw251_9)).trans hw251_9)) (((HB.out.cell (World.block_lt_of_cell? w _ hw251_10)).trans hw251_10)) (((HB.out.cell (World.block_lt_of_cell? w _ hw251_11)).trans hw251_11)) (((HB.out.cell (World.block_lt_of_cell? w _ hw251_12)).trans hw251_12)) (((HB.out.cell (World.block_lt_of_cell? w _ hw251_13)).trans hw251_13)) (((HB.out.cell (World.block_lt_of_cell? w _ hw251_14)).trans hw251_14)) (((HB.out.cell (World.block_lt_of_cell? w _ hw251_15)).trans hw251_15)) (((HB.out.cell (World.block_lt_of_cell? w _ hw251_16)).trans hw251_16)) (((HB.out.cell (World.block_lt_of_cell? w _ hw251_17)).trans hw251_17)) (((HB.out.cell (World.block_lt_of_cell? w _ hw251_18)).trans hw251_18)) (((HB.out.cell (World.block_lt_of_cell? w _ hw251_19)).trans hw251_19)) (((HB.out.cell (World.block_lt_of_cell? w _ hw251_20)).trans hw251_20)) (((HB.out.cell (World.block_lt_of_cell? w _ hw251_21)).trans hw251_21)) (((HB.out.cell (World.block_lt_of_cell? w _ hw251_22)).trans hw251_22)) (((HB.out.cell (World.block_lt_of_cell? w _ hw251_23)).trans hw251_23)) (((HB.out.cell (World.block_lt_of_cell? w _ hw251_24)).trans hw251_24)) (((HB.out.cell (World.block_lt_of_cell? w _ hw251_25)).trans hw251_25)) (((HB.out.cell (World.block_lt_of_cell? w _ hw251_26)).trans hw251_26)) (((HB.out.cell (World.block_lt_of_cell? w _ hw251_27)).trans hw251_27)) (((HB.out.cell (World.block_lt_of_cell? w _ hw251_28)).trans hw251_28)) (((HB.out.cell (World.block_lt_of_cell? w _ hw251_29)).trans hw251_29)) (((HB.out.cell (World.block_lt_of_cell? w _ hw251_30)).trans hw251_30)) (((HB.out.cell (World.block_lt_of_cell? w _ hw251_31)).trans hw251_31)) (((HB.out.cell (World.block_lt_of_cell? w _ hw251_32)).trans hw251_32))) (fun hHeld => ?_); refine with_tabW coracleref1_Alike.tab4 coracleref1_Alike.bits4 (fun HT_ HW_ => ?_)
            generalize wr.drew = w8 at HB hx251_0 hx251_1 hx251_10 hx251_11 hx251_12 hx251_13 hx251_14 hx251_15 hx251_16 hx251_17 hx251_18 hx251_19 hx251_2 hx251_20 hx251_21 hx251_22 hx251_23 hx251_24 hx251_25 hx251_26 hx251_27 hx251_28 hx251_29 hx251_3 hx251_30 hx251_31 hx251_32 hx251_4 hx251_5 hx251_6 hx251_7 hx251_8 hx251_9 hx253_0 hx253_1 hx253_10 hx253_11 hx253_12 hx253_13 hx253_14 hx253_15 hx253_16 hx253_17 hx253_18 hx253_19 hx253_2 hx253_20 hx253_21 hx253_22 hx253_23 hx253_24 hx253_25 hx253_26 hx253_27 hx253_28 hx253_29 hx253_3 hx253_30 hx253_31 hx253_32 hx253_4 hx253_5 hx253_6 hx253_7 hx253_8 hx253_9 hHeld ⊢
            refine pure_ (i := 0) (N := some 12) (v := ?_) (a' := ?_) #[true, false, false, false, false, false, false, false, false, false, false, false, false] rfl rfl (any_of HT_.out (by kernel_rfl)) (fun _ _ _ h => h) (Or.inl ⟨by rfl, ?_⟩) ?_ ?_
            rotate_left
            · intro w'
              go_simp
              with_reducible rfl
            rotate_left
            · simp only [Act.put, List.setIfInBounds_toArray, List.set_cons_zero, List.set_cons_succ, i64_w, i32_w]
              rfl
            refine pure_ (i := 1) (N := some 13) (v := ?_) (a' := ?_) #[true, true, false, false, false, false, false, false, false, false, false, false, false] rfl rfl (any_of HT_.out (by kernel_rfl)) (fun _ _ _ h => h) (Or.inl ⟨by rfl, ?_⟩) ?_ ?_
            rotate_left
            · intro w'
              go_simp
              with_reducible rfl
            rotate_left
            · simp only [Act.put, List.setIfInBounds_toArray, List.set_cons_zero, List.set_cons_succ, i64_w, i32_w]
              rfl
            refine pure_ (i := 2) (N := some 14) (v := ?_) (a' := ?_) #[true, true, true, false, false, false, false, false, false, false, false, false, false] rfl rfl (any_of HT_.out (by kernel_rfl)) (fun _ _ _ h => h) (Or.inl ⟨by rfl, ?_⟩) ?_ ?_
            rotate_left
            · intro w'
              go_simp
              with_reducible rfl
            rotate_left
            · simp only [Act.put, List.setIfInBounds_toArray, List.set_cons_zero, List.set_cons_succ, i64_w, i32_w]
              rfl
            refine pure_ (i := 3) (N := some 15) (v := ?_) (a' := ?_) #[true, true, true, true, false, false, false, false, false, false, false, false, false] rfl rfl (any_of HT_.out (by kernel_rfl)) (fun _ _ _ h => h) (Or.inl ⟨by rfl, ?_⟩) ?_ ?_
            rotate_left
            · intro w'
              go_simp
              with_reducible rfl
            rotate_left
            · simp only [Act.put, List.setIfInBounds_toArray, List.set_cons_zero, List.set_cons_succ, i64_w, i32_w]
              rfl
            refine pure_ (i := 6) (N := some 18) (v := ?_) (a' := ?_) #[true, true, true, true, false, false, true, false, false, false, false, false, false] rfl rfl (any_of HT_.out (by kernel_rfl)) (fun _ _ _ h => h) (Or.inl ⟨by rfl, ?_⟩) ?_ ?_
            rotate_left
            · intro w'
              go_simp
              with_reducible rfl
            rotate_left
            · simp only [Act.put, List.setIfInBounds_toArray, List.set_cons_zero, List.set_cons_succ, i64_w, i32_w]
              rfl
            refine pure_ (i := 7) (N := some 19) (v := ?_) (a' := ?_) #[true, true, true, true, false, false, true, true, false, false, false, false, false] rfl rfl (any_of HT_.out (by kernel_rfl)) (fun _ _ _ h => h) (Or.inl ⟨by rfl, ?_⟩) ?_ ?_
            rotate_left
            · intro w'
              go_simp
              with_reducible rfl
            rotate_left
            · simp only [Act.put, List.setIfInBounds_toArray, List.set_cons_zero, List.set_cons_succ, i64_w, i32_w]
              rfl
            refine pure_ (i := 8) (N := some 20) (v := ?_) (a' := ?_) #[true, true, true, true, false, false, true, true, true, false, false, false, false] rfl rfl (any_of HT_.out (by kernel_rfl)) (fun _ _ _ h => h) (Or.inl ⟨by rfl, ?_⟩) ?_ ?_
            rotate_left
            · intro w'
              go_simp
              with_reducible rfl
            rotate_left
            · simp only [Act.put, List.setIfInBounds_toArray, List.set_cons_zero, List.set_cons_succ, i64_w, i32_w]
              rfl
            refine pure_ (i := 9) (N := some 21) (v := ?_) (a' := ?_) #[true, true, true, true, false, false, true, true, true, true, false, false, false] rfl rfl (any_of HT_.out (by kernel_rfl)) (fun _ _ _ h => h) (Or.inl ⟨by rfl, ?_⟩) ?_ ?_
            rotate_left
            · intro w'
              go_simp
              with_reducible rfl
            rotate_left
            · simp only [Act.put, List.setIfInBounds_toArray, List.set_cons_zero, List.set_cons_succ, i64_w, i32_w]
              rfl
            refine take_ (i := 4) (N := some 16) (v := ?_) (a' := ?_) #[true, true, true, true, true, false, true, true, true, true, false, false, false] rfl rfl (take_ofW HT_.out HW_.out (by kernel_rfl)) (fun _ _ _ h => h) (Or.inl ⟨by rfl, ?_⟩) hHeld ?_ ?_
            rotate_left
            · rintro w' s0
              go_simp
              with_reducible rfl
            rotate_left
            · simp only [Act.put, List.setIfInBounds_toArray, List.set_cons_zero, List.set_cons_succ, i64_w, i32_w]
              rfl
            refine take_ (i := 10) (N := some 22) (v := ?_) (a' := ?_) #[true, true, true, true, true, false, true, true, true, true, true, false, false] rfl rfl (take_ofW HT_.out HW_.out (by kernel_rfl)) (fun _ _ _ h => h) (Or.inl ⟨by rfl, ?_⟩) hHeld ?_ ?_
            rotate_left
            · rintro w' s0
              go_simp
              with_reducible rfl
            rotate_left
            · simp only [Act.put, List.setIfInBounds_toArray, List.set_cons_zero, List.set_cons_succ, i64_w, i32_w]
              rfl
            refine one_ (i := 5) (N := some 17) #[true, true, true, true, true, true, true, true, true, true, true, false, false] rfl rfl (one_of HT_.out (by kernel_rfl)) (by decide) (fun K hK => ?_)
            refine goes_ Tryd.func21 (by kernel_rfl) rfl #[.slice (some ad251) l0.length c0, .agg #[.int .u8 ((rd_T25 l0 x5_1).f0.f0), .int .u8 ((rd_T25 l0 x5_1).f0.f1), .int .u8 ((rd_T25 l0 x5_1).f0.f2), .int .u8 ((rd_T25 l0 x5_1).f0.f3), .int .u8 ((rd_T25 l0 x5_1).f0.f4), .int .u8 ((rd_T25 l0 x5_1).f0.f5), .int .u8 ((rd_T25 l0 x5_1).f0.f6), .int .u8 ((rd_T25 l0 x5_1).f0.f7), .int .u8 ((rd_T25 l0 x5_1).f0.f8), .int .u8 ((rd_T25 l0 x5_1).f0.f9), .int .u8 ((rd_T25 l0 x5_1).f0.f10), .int .u8 ((rd_T25 l0 x5_1).f0.f11), .int .u8 ((rd_T25 l0 x5_1).f0.f12), .int .u8 ((rd_T25 l0 x5_1).f0.f13), .int .u8 ((rd_T25 l0 x5_1).f0.f14), .int .u8 ((rd_T25 l0 x5_1).f0.f15), .int .u8 ((rd_T25 l0 x5_1).f0.f16), .int .u8 ((rd_T25 l0 x5_1).f0.f17), .int .u8 ((rd_T25 l0 x5_1).f0.f18), .int .u8 ((rd_T25 l0 x5_1).f0.f19), .int .u8 ((rd_T25 l0 x5_1).f0.f20), .int .u8 ((rd_T25 l0 x5_1).f0.f21), .int .u8 ((rd_T25 l0 x5_1).f0.f22), .int .u8 ((rd_T25 l0 x5_1).f0.f23), .int .u8 ((rd_T25 l0 x5_1).f0.f24), .int .u8 ((rd_T25 l0 x5_1).f0.f25), .int .u8 ((rd_T25 l0 x5_1).f0.f26), .int .u8 ((rd_T25 l0 x5_1).f0.f27), .int .u8 ((rd_T25 l0 x5_1).f0.f28), .int .u8 ((rd_T25 l0 x5_1).f0.f29), .int .u8 ((rd_T25 l0 x5_1).f0.f30), .int .u8 ((rd_T25 l0 x5_1).f0.f31), .int .i64 ((rd_T25 l0 x5_1).f1)]] (by rfl) rfl rfl (by (try simp only [List.map_toArray, List.map_cons, List.map_nil]); first | done | rfl | (simp only [List.length_drop, List.length_take]; rfl)) ?_
            with_reducible refine (coracleref1_Times.calls k1 _ _ l0 ((rd_T25 l0 x5_1).f0.f0) ((rd_T25 l0 x5_1).f0.f1) ((rd_T25 l0 x5_1).f0.f2) ((rd_T25 l0 x5_1).f0.f3) ((rd_T25 l0 x5_1).f0.f4) ((rd_T25 l0 x5_1).f0.f5) ((rd_T25 l0 x5_1).f0.f6) ((rd_T25 l0 x5_1).f0.f7) ((rd_T25 l0 x5_1).f0.f8) ((rd_T25 l0 x5_1).f0.f9) ((rd_T25 l0 x5_1).f0.f10) ((rd_T25 l0 x5_1).f0.f11) ((rd_T25 l0 x5_1).f0.f12) ((rd_T25 l0 x5_1).f0.f13) ((rd_T25 l0 x5_1).f0.f14) ((rd_T25 l0 x5_1).f0.f15) ((rd_T25 l0 x5_1).f0.f16) ((rd_T25 l0 x5_1).f0.f17) ((rd_T25 l0 x5_1).f0.f18) ((rd_T25 l0 x5_1).f0.f19) ((rd_T25 l0 x5_1).f0.f20) ((rd_T25 l0 x5_1).f0.f21) ((rd_T25 l0 x5_1).f0.f22) ((rd_T25 l0 x5_1).f0.f23) ((rd_T25 l0 x5_1).f0.f24) ((rd_T25 l0 x5_1).f0.f25) ((rd_T25 l0 x5_1).f0.f26) ((rd_T25 l0 x5_1).f0.f27) ((rd_T25 l0 x5_1).f0.f28) ((rd_T25 l0 x5_1).f0.f29) ((rd_T25 l0 x5_1).f0.f30) ((rd_T25 l0 x5_1).f0.f31) ((rd_T25 l0 x5_1).f1) t252 _ ?side1 ?side2 A5.out).mono ?_
            (case side1 => repeat (first | exact (Kd.C_below HR0.out HB.out) | (with_reducible refine Kd.C_alloc ?_ _) | (with_reducible refine Kd.C_drewN ?_ _) | (with_reducible refine Kd.C_drew ?_)))
            (case side2 => exact HC0.out)
            rintro e w9 ⟨rfl, hb⟩
            refine ⟨_, rfl, ?_⟩
            have n0_ := Aside0.mk (below_step (by repeat (first | (with_reducible first | exact HB.out | apply below_alloc | apply pw_below_drewN | apply below_drew1) | exact HB.out)) hb)
            clear HB
            have HB := n0_
            clear n0_
            (try clear hb)
            (try clear hb2)
            (try clear hk)
            (try clear hi)
            refine hK.out _ _ (Go.Proofs.YtmoecidfmgeafaaDoor.Wide.mk33 (((HB.out.cell (World.block_lt_of_cell? w _ hw251_0)).trans hw251_0)) (((HB.out.cell (World.block_lt_of_cell? w _ hw251_1)).trans hw251_1)) (((HB.out.cell (World.block_lt_of_cell? w _ hw251_2)).trans hw251_2)) (((HB.out.cell (World.block_lt_of_cell? w _ hw251_3)).trans hw251_3)) (((HB.out.cell (World.block_lt_of_cell? w _ hw251_4)).trans hw251_4)) (((HB.out.cell (World.block_lt_of_cell? w _ hw251_5)).trans hw251_5)) (((HB.out.cell (World.block_lt_of_cell? w _ hw251_6)).trans hw251_6)) (((HB.out.cell (World.block_lt_of_cell? w _ hw251_7)).trans hw251_7)) (((HB.out.cell (World.block_lt_of_cell? w _ hw251_8)).trans hw251_8)) (((HB.out.cell (World.block_lt_of_cell? w _ hw251_9)).trans hw251_9)) (((HB.out.cell (World.block_lt_of_cell? w _ hw251_10)).trans hw251_10)) (((HB.out.cell (World.block_lt_of_cell? w _ hw251_11)).trans hw251_11)) (((HB.out.cell (World.block_lt_of_cell? w _ hw251_12)).trans hw251_12)) (((HB.out.cell (World.block_lt_of_cell? w _ hw251_13)).trans hw251_13)) (((HB.out.cell (World.block_lt_of_cell? w _ hw251_14)).trans hw251_14)) (((HB.out.cell (World.block_lt_of_cell? w _ hw251_15)).trans hw251_15)) (((HB.out.cell (World.block_lt_of_cell? w _ hw251_16)).trans hw251_16)) (((HB.out.cell (World.block_lt_of_cell? w _ hw251_17)).trans hw251_17)) (((HB.out.cell (World.block_lt_of_cell? w _ hw251_18)).trans hw251_18)) (((HB.out.cell (World.block_lt_of_cell? w _ hw251_19)).trans hw251_19)) (((HB.out.cell (World.block_lt_of_cell? w _ hw251_20)).trans hw251_20)) (((HB.out.cell (World.block_lt_of_cell? w _ hw251_21)).trans hw251_21)) (((HB.out.cell (World.block_lt_of_cell? w _ hw251_22)).trans hw251_22)) (((HB.out.cell (World.block_lt_of_cell? w _ hw251_23)).trans hw251_23)) (((HB.out.cell (World.block_lt_of_cell? w _ hw251_24)).trans hw251_24)) (((HB.out.cell (World.block_lt_of_cell? w _ hw251_25)).trans hw251_25)) (((HB.out.cell (World.block_lt_of_cell? w _ hw251_26)).trans hw251_26)) (((HB.out.cell (World.block_lt_of_cell? w _ hw251_27)).trans hw251_27)) (((HB.out.cell (World.block_lt_of_cell? w _ hw251_28)).trans hw251_28)) (((HB.out.cell (World.block_lt_of_cell? w _ hw251_29)).trans hw251_29)) (((HB.out.cell (World.block_lt_of_cell? w _ hw251_30)).trans hw251_30)) (((HB.out.cell (World.block_lt_of_cell? w _ hw251_31)).trans hw251_31)) (((HB.out.cell (World.block_lt_of_cell? w _ hw251_32)).trans hw251_32))) (fun hHeld => ?_)
            clear hK K
            refine norm_ (a' := ?_) ?_ ?_
            rotate_left
            · show Act.put _ (some 17) _ = _
              simp only [Act.put, List.setIfInBounds_toArray, List.set_cons_zero, List.set_cons_succ, i64_w, i32_w]
              rfl
            refine one_ (i := 11) (N := some 23) #[true, true, true, true, true, true, true, true, true, true, true, true, false] rfl rfl (one_of HT_.out (by kernel_rfl)) (by decide) (fun K hK => ?_)
            refine goes_ Tryd.func21 (by kernel_rfl) rfl #[.slice A1 l1.length c1, .agg #[.int .u8 ((rd_T25 l0 x5_1).f0.f0), .int .u8 ((rd_T25 l0 x5_1).f0.f1), .int .u8 ((rd_T25 l0 x5_1).f0.f2), .int .u8 ((rd_T25 l0 x5_1).f0.f3), .int .u8 ((rd_T25 l0 x5_1).f0.f4), .int .u8 ((rd_T25 l0 x5_1).f0.f5), .int .u8 ((rd_T25 l0 x5_1).f0.f6), .int .u8 ((rd_T25 l0 x5_1).f0.f7), .int .u8 ((rd_T25 l0 x5_1).f0.f8), .int .u8 ((rd_T25 l0 x5_1).f0.f9), .int .u8 ((rd_T25 l0 x5_1).f0.f10), .int .u8 ((rd_T25 l0 x5_1).f0.f11), .int .u8 ((rd_T25 l0 x5_1).f0.f12), .int .u8 ((rd_T25 l0 x5_1).f0.f13), .int .u8 ((rd_T25 l0 x5_1).f0.f14), .int .u8 ((rd_T25 l0 x5_1).f0.f15), .int .u8 ((rd_T25 l0 x5_1).f0.f16), .int .u8 ((rd_T25 l0 x5_1).f0.f17), .int .u8 ((rd_T25 l0 x5_1).f0.f18), .int .u8 ((rd_T25 l0 x5_1).f0.f19), .int .u8 ((rd_T25 l0 x5_1).f0.f20), .int .u8 ((rd_T25 l0 x5_1).f0.f21), .int .u8 ((rd_T25 l0 x5_1).f0.f22), .int .u8 ((rd_T25 l0 x5_1).f0.f23), .int .u8 ((rd_T25 l0 x5_1).f0.f24), .int .u8 ((rd_T25 l0 x5_1).f0.f25), .int .u8 ((rd_T25 l0 x5_1).f0.f26), .int .u8 ((rd_T25 l0 x5_1).f0.f27), .int .u8 ((rd_T25 l0 x5_1).f0.f28), .int .u8 ((rd_T25 l0 x5_1).f0.f29), .int .u8 ((rd_T25 l0 x5_1).f0.f30), .int .u8 ((rd_T25 l0 x5_1).f0.f31), .int .i64 ((rd_T25 l0 x5_1).f1)]] (by rfl) rfl rfl (by (try simp only [List.map_toArray, List.map_cons, List.map_nil]); first | done | rfl | (simp only [List.length_drop, List.length_take]; rfl)) ?_
            with_reducible refine (coracleref1_Times.calls k1 _ _ l1 ((rd_T25 l0 x5_1).f0.f0) ((rd_T25 l0 x5_1).f0.f1) ((rd_T25 l0 x5_1).f0.f2) ((rd_T25 l0 x5_1).f0.f3) ((rd_T25 l0 x5_1).f0.f4) ((rd_T25 l0 x5_1).f0.f5) ((rd_T25 l0 x5_1).f0.f6) ((rd_T25 l0 x5_1).f0.f7) ((rd_T25 l0 x5_1).f0.f8) ((rd_T25 l0 x5_1).f0.f9) ((rd_T25 l0 x5_1).f0.f10) ((rd_T25 l0 x5_1).f0.f11) ((rd_T25 l0 x5_1).f0.f12) ((rd_T25 l0 x5_1).f0.f13) ((rd_T25 l0 x5_1).f0.f14) ((rd_T25 l0 x5_1).f0.f15) ((rd_T25 l0 x5_1).f0.f16) ((rd_T25 l0 x5_1).f0.f17) ((rd_T25 l0 x5_1).f0.f18) ((rd_T25 l0 x5_1).f0.f19) ((rd_T25 l0 x5_1).f0.f20) ((rd_T25 l0 x5_1).f0.f21) ((rd_T25 l0 x5_1).f0.f22) ((rd_T25 l0 x5_1).f0.f23) ((rd_T25 l0 x5_1).f0.f24) ((rd_T25 l0 x5_1).f0.f25) ((rd_T25 l0 x5_1).f0.f26) ((rd_T25 l0 x5_1).f0.f27) ((rd_T25 l0 x5_1).f0.f28) ((rd_T25 l0 x5_1).f0.f29) ((rd_T25 l0 x5_1).f0.f30) ((rd_T25 l0 x5_1).f0.f31) ((rd_T25 l0 x5_1).f1) t254 _ ?side1 ?side2 A6.out).mono ?_
            (case side1 => repeat (first | exact (Kd.C_below HR1.out HB.out) | (with_reducible refine Kd.C_alloc ?_ _) | (with_reducible refine Kd.C_drewN ?_ _) | (with_reducible refine Kd.C_drew ?_)))
            (case side2 => exact HC1.out)
            rintro e w10 ⟨rfl, hb⟩
            refine ⟨_, rfl, ?_⟩
            have n0_ := Aside0.mk (below_step (by repeat (first | (with_reducible first | exact HB.out | apply below_alloc | apply pw_below_drewN | apply below_drew1) | exact HB.out)) hb)
            clear HB
            have HB := n0_
            clear n0_
            (try clear hb)
            (try clear hb2)
            (try clear hk)
            (try clear hi)
            refine hK.out _ _ (Go.Proofs.YtmoecidfmgeafaaDoor.Wide.mk33 (((HB.out.cell (World.block_lt_of_cell? w _ hw251_0)).trans hw251_0)) (((HB.out.cell (World.block_lt_of_cell? w _ hw251_1)).trans hw251_1)) (((HB.out.cell (World.block_lt_of_cell? w _ hw251_2)).trans hw251_2)) (((HB.out.cell (World.block_lt_of_cell? w _ hw251_3)).trans hw251_3)) (((HB.out.cell (World.block_lt_of_cell? w _ hw251_4)).trans hw251_4)) (((HB.out.cell (World.block_lt_of_cell? w _ hw251_5)).trans hw251_5)) (((HB.out.cell (World.block_lt_of_cell? w _ hw251_6)).trans hw251_6)) (((HB.out.cell (World.block_lt_of_cell? w _ hw251_7)).trans hw251_7)) (((HB.out.cell (World.block_lt_of_cell? w _ hw251_8)).trans hw251_8)) (((HB.out.cell (World.block_lt_of_cell? w _ hw251_9)).trans hw251_9)) (((HB.out.cell (World.block_lt_of_cell? w _ hw251_10)).trans hw251_10)) (((HB.out.cell (World.block_lt_of_cell? w _ hw251_11)).trans hw251_11)) (((HB.out.cell (World.block_lt_of_cell? w _ hw251_12)).trans hw251_12)) (((HB.out.cell (World.block_lt_of_cell? w _ hw251_13)).trans hw251_13)) (((HB.out.cell (World.block_lt_of_cell? w _ hw251_14)).trans hw251_14)) (((HB.out.cell (World.block_lt_of_cell? w _ hw251_15)).trans hw251_15)) (((HB.out.cell (World.block_lt_of_cell? w _ hw251_16)).trans hw251_16)) (((HB.out.cell (World.block_lt_of_cell? w _ hw251_17)).trans hw251_17)) (((HB.out.cell (World.block_lt_of_cell? w _ hw251_18)).trans hw251_18)) (((HB.out.cell (World.block_lt_of_cell? w _ hw251_19)).trans hw251_19)) (((HB.out.cell (World.block_lt_of_cell? w _ hw251_20)).trans hw251_20)) (((HB.out.cell (World.block_lt_of_cell? w _ hw251_21)).trans hw251_21)) (((HB.out.cell (World.block_lt_of_cell? w _ hw251_22)).trans hw251_22)) (((HB.out.cell (World.block_lt_of_cell? w _ hw251_23)).trans hw251_23)) (((HB.out.cell (World.block_lt_of_cell? w _ hw251_24)).trans hw251_24)) (((HB.out.cell (World.block_lt_of_cell? w _ hw251_25)).trans hw251_25)) (((HB.out.cell (World.block_lt_of_cell? w _ hw251_26)).trans hw251_26)) (((HB.out.cell (World.block_lt_of_cell? w _ hw251_27)).trans hw251_27)) (((HB.out.cell (World.block_lt_of_cell? w _ hw251_28)).trans hw251_28)) (((HB.out.cell (World.block_lt_of_cell? w _ hw251_29)).trans hw251_29)) (((HB.out.cell (World.block_lt_of_cell? w _ hw251_30)).trans hw251_30)) (((HB.out.cell (World.block_lt_of_cell? w _ hw251_31)).trans hw251_31)) (((HB.out.cell (World.block_lt_of_cell? w _ hw251_32)).trans hw251_32))) (fun hHeld => ?_)
            clear hK K
            refine norm_ (a' := ?_) ?_ ?_
            rotate_left
            · show Act.put _ (some 23) _ = _
              simp only [Act.put, List.setIfInBounds_toArray, List.set_cons_zero, List.set_cons_succ, i64_w, i32_w]
              rfl
            refine pure_ (i := 12) (N := some 24) (v := ?_) (a' := ?_) #[true, true, true, true, true, true, true, true, true, true, true, true, true] rfl rfl (any_of HT_.out (by kernel_rfl)) (fun _ _ _ h => h) (Or.inl ⟨by rfl, ?_⟩) ?_ ?_
            rotate_left
            · intro w'
              go_simp
              with_reducible rfl
            rotate_left
            · simp only [Act.put, List.setIfInBounds_toArray, List.set_cons_zero, List.set_cons_succ, i64_w, i32_w]
              rfl
            refine done_ (done_of HT_.out (by kernel_rfl)) ?_
            try go_wp2
            go_roundg k1
            case measure => have := HK1.out; omega
            case rel => exact ⟨(wrap64 (x5_1 + 1)), (by first | rfl | (simp; done) | (simp [*]; done)), H', ⟨by have := HK1.out; omega⟩, ⟨by repeat (first | (with_reducible first | exact HB.out | apply below_alloc | apply pw_below_drewN | apply below_drew1) | exact HB.out)⟩⟩
          · rw [if_neg c7] at H
            have c7b0 : (t252 == t254) = false := beq_eq_false_iff_ne.mpr c7
            have c7b1 : (t252 != t254) = true := bne_iff_ne.mpr c7
            obtain rfl := Option.some.inj H
            try go_wp2
            have n0_ := Aside0.mk (below_drew1 HB.out)
            clear HB
            have HB := n0_
            clear n0_
            have p251 : 0 ≤ (x5_1 : Int) := of_decide_eq_true (by first | (with_reducible assumption) | assumption)
            have q251 : x5_1 < (l0.length : Int) := of_decide_eq_true (by first | (with_reducible assumption) | assumption)
            obtain ⟨ad251, e251, hx251_0, hx251_1, hx251_2, hx251_3, hx251_4, hx251_5, hx251_6, hx251_7, hx251_8, hx251_9, hx251_10, hx251_11, hx251_12, hx251_13, hx251_14, hx251_15, hx251_16, hx251_17, hx251_18, hx251_19, hx251_20, hx251_21, hx251_22, hx251_23, hx251_24, hx251_25, hx251_26, hx251_27, hx251_28, hx251_29, hx251_30, hx251_31, hx251_32⟩ := at_T25 HR0.out x5_1 p251 q251
            have hw251_0_32 := Go.Proofs.YtmoecidfmgeafaaDoor.Wide.mk32 hx251_0 hx251_1 hx251_2 hx251_3 hx251_4 hx251_5 hx251_6 hx251_7 hx251_8 hx251_9 hx251_10 hx251_11 hx251_12 hx251_13 hx251_14 hx251_15 hx251_16 hx251_17 hx251_18 hx251_19 hx251_20 hx251_21 hx251_22 hx251_23 hx251_24 hx251_25 hx251_26 hx251_27 hx251_28 hx251_29 hx251_30 hx251_31
            have hw251_0_33 := Go.Proofs.YtmoecidfmgeafaaDoor.Wide.mk33 hx251_0 hx251_1 hx251_2 hx251_3 hx251_4 hx251_5 hx251_6 hx251_7 hx251_8 hx251_9 hx251_10 hx251_11 hx251_12 hx251_13 hx251_14 hx251_15 hx251_16 hx251_17 hx251_18 hx251_19 hx251_20 hx251_21 hx251_22 hx251_23 hx251_24 hx251_25 hx251_26 hx251_27 hx251_28 hx251_29 hx251_30 hx251_31 hx251_32
            have hw251_32 := hx251_32
            have hw251_31 := hx251_31
            have hw251_30 := hx251_30
            have hw251_29 := hx251_29
            have hw251_28 := hx251_28
            have hw251_27 := hx251_27
            have hw251_26 := hx251_26
            have hw251_25 := hx251_25
            have hw251_24 := hx251_24
            have hw251_23 := hx251_23
            have hw251_22 := hx251_22
            have hw251_21 := hx251_21
            have hw251_20 := hx251_20
            have hw251_19 := hx251_19
            have hw251_18 := hx251_18
            have hw251_17 := hx251_17
            have hw251_16 := hx251_16
            have hw251_15 := hx251_15
            have hw251_14 := hx251_14
            have hw251_13 := hx251_13
            have hw251_12 := hx251_12
            have hw251_11 := hx251_11
            have hw251_10 := hx251_10
            have hw251_9 := hx251_9
            have hw251_8 := hx251_8
            have hw251_7 := hx251_7
            have hw251_6 := hx251_6
            have hw251_5 := hx251_5
            have hw251_4 := hx251_4
            have hw251_3 := hx251_3
            have hw251_2 := hx251_2
            have hw251_1 := hx251_1
            have hw251_0 := hx251_0
            cases e251
            replace hx251_0 := (HB.out.cell (World.block_lt_of_cell? w _ hx251_0)).trans hx251_0
            replace hx251_1 := (HB.out.cell (World.block_lt_of_cell? w _ hx251_1)).trans hx251_1
            replace hx251_2 := (HB.out.cell (World.block_lt_of_cell? w _ hx251_2)).trans hx251_2
            replace hx251_3 := (HB.out.cell (World.block_lt_of_cell? w _ hx251_3)).trans hx251_3
            replace hx251_4 := (HB.out.cell (World.block_lt_of_cell? w _ hx251_4)).trans hx251_4
            replace hx251_5 := (HB.out.cell (World.block_lt_of_cell? w _ hx251_5)).trans hx251_5
            replace hx251_6 := (HB.out.cell (World.block_lt_of_cell? w _ hx251_6)).trans hx251_6
            replace hx251_7 := (HB.out.cell (World.block_lt_of_cell? w _ hx251_7)).trans hx251_7
            replace hx251_8 := (HB.out.cell (World.block_lt_of_cell? w _ hx251_8)).trans hx251_8
            replace hx251_9 := (HB.out.cell (World.block_lt_of_cell? w _ hx251_9)).trans hx251_9
            replace hx251_10 := (HB.out.cell (World.block_lt_of_cell? w _ hx251_10)).trans hx251_10
            replace hx251_11 := (HB.out.cell (World.block_lt_of_cell? w _ hx251_11)).trans hx251_11
            replace hx251_12 := (HB.out.cell (World.block_lt_of_cell? w _ hx251_12)).trans hx251_12
            replace hx251_13 := (HB.out.cell (World.block_lt_of_cell? w _ hx251_13)).trans hx251_13
            replace hx251_14 := (HB.out.cell (World.block_lt_of_cell? w _ hx251_14)).trans hx251_14
            replace hx251_15 := (HB.out.cell (World.block_lt_of_cell? w _ hx251_15)).trans hx251_15
            replace hx251_16 := (HB.out.cell (World.block_lt_of_cell? w _ hx251_16)).trans hx251_16
            replace hx251_17 := (HB.out.cell (World.block_lt_of_cell? w _ hx251_17)).trans hx251_17
            replace hx251_18 := (HB.out.cell (World.block_lt_of_cell? w _ hx251_18)).trans hx251_18
            replace hx251_19 := (HB.out.cell (World.block_lt_of_cell? w _ hx251_19)).trans hx251_19
            replace hx251_20 := (HB.out.cell (World.block_lt_of_cell? w _ hx251_20)).trans hx251_20
            replace hx251_21 := (HB.out.cell (World.block_lt_of_cell? w _ hx251_21)).trans hx251_21
            replace hx251_22 := (HB.out.cell (World.block_lt_of_cell? w _ hx251_22)).trans hx251_22
            replace hx251_23 := (HB.out.cell (World.block_lt_of_cell? w _ hx251_23)).trans hx251_23
            replace hx251_24 := (HB.out.cell (World.block_lt_of_cell? w _ hx251_24)).trans hx251_24
            replace hx251_25 := (HB.out.cell (World.block_lt_of_cell? w _ hx251_25)).trans hx251_25
            replace hx251_26 := (HB.out.cell (World.block_lt_of_cell? w _ hx251_26)).trans hx251_26
            replace hx251_27 := (HB.out.cell (World.block_lt_of_cell? w _ hx251_27)).trans hx251_27
            replace hx251_28 := (HB.out.cell (World.block_lt_of_cell? w _ hx251_28)).trans hx251_28
            replace hx251_29 := (HB.out.cell (World.block_lt_of_cell? w _ hx251_29)).trans hx251_29
            replace hx251_30 := (HB.out.cell (World.block_lt_of_cell? w _ hx251_30)).trans hx251_30
            replace hx251_31 := (HB.out.cell (World.block_lt_of_cell? w _ hx251_31)).trans hx251_31
            replace hx251_32 := (HB.out.cell (World.block_lt_of_cell? w _ hx251_32)).trans hx251_32
            replace p251 := eq_true p251
            replace q251 := eq_true q251
            have p253 : 0 ≤ (x5_1 : Int) := of_decide_eq_true (by first | (with_reducible assumption) | assumption)
            have q253 : x5_1 < (l0.length : Int) := of_decide_eq_true (by first | (with_reducible assumption) | assumption)
            obtain ⟨ad253, e253, hx253_0, hx253_1, hx253_2, hx253_3, hx253_4, hx253_5, hx253_6, hx253_7, hx253_8, hx253_9, hx253_10, hx253_11, hx253_12, hx253_13, hx253_14, hx253_15, hx253_16, hx253_17, hx253_18, hx253_19, hx253_20, hx253_21, hx253_22, hx253_23, hx253_24, hx253_25, hx253_26, hx253_27, hx253_28, hx253_29, hx253_30, hx253_31, hx253_32⟩ := at_T25 HR0.out x5_1 p253 q253
            have hw253_0_32 := Go.Proofs.YtmoecidfmgeafaaDoor.Wide.mk32 hx253_0 hx253_1 hx253_2 hx253_3 hx253_4 hx253_5 hx253_6 hx253_7 hx253_8 hx253_9 hx253_10 hx253_11 hx253_12 hx253_13 hx253_14 hx253_15 hx253_16 hx253_17 hx253_18 hx253_19 hx253_20 hx253_21 hx253_22 hx253_23 hx253_24 hx253_25 hx253_26 hx253_27 hx253_28 hx253_29 hx253_30 hx253_31
            have hw253_0_33 := Go.Proofs.YtmoecidfmgeafaaDoor.Wide.mk33 hx253_0 hx253_1 hx253_2 hx253_3 hx253_4 hx253_5 hx253_6 hx253_7 hx253_8 hx253_9 hx253_10 hx253_11 hx253_12 hx253_13 hx253_14 hx253_15 hx253_16 hx253_17 hx253_18 hx253_19 hx253_20 hx253_21 hx253_22 hx253_23 hx253_24 hx253_25 hx253_26 hx253_27 hx253_28 hx253_29 hx253_30 hx253_31 hx253_32
            have hw253_32 := hx253_32
            have hw253_31 := hx253_31
            have hw253_30 := hx253_30
            have hw253_29 := hx253_29
            have hw253_28 := hx253_28
            have hw253_27 := hx253_27
            have hw253_26 := hx253_26
            have hw253_25 := hx253_25
            have hw253_24 := hx253_24
            have hw253_23 := hx253_23
            have hw253_22 := hx253_22
            have hw253_21 := hx253_21
            have hw253_20 := hx253_20
            have hw253_19 := hx253_19
            have hw253_18 := hx253_18
            have hw253_17 := hx253_17
            have hw253_16 := hx253_16
            have hw253_15 := hx253_15
            have hw253_14 := hx253_14
            have hw253_13 := hx253_13
            have hw253_12 := hx253_12
            have hw253_11 := hx253_11
            have hw253_10 := hx253_10
            have hw253_9 := hx253_9
            have hw253_8 := hx253_8
            have hw253_7 := hx253_7
            have hw253_6 := hx253_6
            have hw253_5 := hx253_5
            have hw253_4 := hx253_4
            have hw253_3 := hx253_3
            have hw253_2 := hx253_2
            have hw253_1 := hx253_1
            have hw253_0 := hx253_0
            obtain rfl : ad251 = ad253 := (by injection e253)
            replace hx253_0 := (HB.out.cell (World.block_lt_of_cell? w _ hx253_0)).trans hx253_0
            replace hx253_1 := (HB.out.cell (World.block_lt_of_cell? w _ hx253_1)).trans hx253_1
            replace hx253_2 := (HB.out.cell (World.block_lt_of_cell? w _ hx253_2)).trans hx253_2
            replace hx253_3 := (HB.out.cell (World.block_lt_of_cell? w _ hx253_3)).trans hx253_3
            replace hx253_4 := (HB.out.cell (World.block_lt_of_cell? w _ hx253_4)).trans hx253_4
            replace hx253_5 := (HB.out.cell (World.block_lt_of_cell? w _ hx253_5)).trans hx253_5
            replace hx253_6 := (HB.out.cell (World.block_lt_of_cell? w _ hx253_6)).trans hx253_6
            replace hx253_7 := (HB.out.cell (World.block_lt_of_cell? w _ hx253_7)).trans hx253_7
            replace hx253_8 := (HB.out.cell (World.block_lt_of_cell? w _ hx253_8)).trans hx253_8
            replace hx253_9 := (HB.out.cell (World.block_lt_of_cell? w _ hx253_9)).trans hx253_9
            replace hx253_10 := (HB.out.cell (World.block_lt_of_cell? w _ hx253_10)).trans hx253_10
            replace hx253_11 := (HB.out.cell (World.block_lt_of_cell? w _ hx253_11)).trans hx253_11
            replace hx253_12 := (HB.out.cell (World.block_lt_of_cell? w _ hx253_12)).trans hx253_12
            replace hx253_13 := (HB.out.cell (World.block_lt_of_cell? w _ hx253_13)).trans hx253_13
            replace hx253_14 := (HB.out.cell (World.block_lt_of_cell? w _ hx253_14)).trans hx253_14
            replace hx253_15 := (HB.out.cell (World.block_lt_of_cell? w _ hx253_15)).trans hx253_15
            replace hx253_16 := (HB.out.cell (World.block_lt_of_cell? w _ hx253_16)).trans hx253_16
            replace hx253_17 := (HB.out.cell (World.block_lt_of_cell? w _ hx253_17)).trans hx253_17
            replace hx253_18 := (HB.out.cell (World.block_lt_of_cell? w _ hx253_18)).trans hx253_18
            replace hx253_19 := (HB.out.cell (World.block_lt_of_cell? w _ hx253_19)).trans hx253_19
            replace hx253_20 := (HB.out.cell (World.block_lt_of_cell? w _ hx253_20)).trans hx253_20
            replace hx253_21 := (HB.out.cell (World.block_lt_of_cell? w _ hx253_21)).trans hx253_21
            replace hx253_22 := (HB.out.cell (World.block_lt_of_cell? w _ hx253_22)).trans hx253_22
            replace hx253_23 := (HB.out.cell (World.block_lt_of_cell? w _ hx253_23)).trans hx253_23
            replace hx253_24 := (HB.out.cell (World.block_lt_of_cell? w _ hx253_24)).trans hx253_24
            replace hx253_25 := (HB.out.cell (World.block_lt_of_cell? w _ hx253_25)).trans hx253_25
            replace hx253_26 := (HB.out.cell (World.block_lt_of_cell? w _ hx253_26)).trans hx253_26
            replace hx253_27 := (HB.out.cell (World.block_lt_of_cell? w _ hx253_27)).trans hx253_27
            replace hx253_28 := (HB.out.cell (World.block_lt_of_cell? w _ hx253_28)).trans hx253_28
            replace hx253_29 := (HB.out.cell (World.block_lt_of_cell? w _ hx253_29)).trans hx253_29
            replace hx253_30 := (HB.out.cell (World.block_lt_of_cell? w _ hx253_30)).trans hx253_30
            replace hx253_31 := (HB.out.cell (World.block_lt_of_cell? w _ hx253_31)).trans hx253_31
            replace hx253_32 := (HB.out.cell (World.block_lt_of_cell? w _ hx253_32)).trans hx253_32
            replace p253 := eq_true p253
            replace q253 := eq_true q253
            refine start_ (n := 13) (S := fun w' => Go.Proofs.YtmoecidfmgeafaaDoor.Wide.cellsAt w' (ad251.add ((x5_1).toNat * 33)) 33 = some (.int .u8 ((rd_T25 l0 x5_1).f0.f0) :: .int .u8 ((rd_T25 l0 x5_1).f0.f1) :: .int .u8 ((rd_T25 l0 x5_1).f0.f2) :: .int .u8 ((rd_T25 l0 x5_1).f0.f3) :: .int .u8 ((rd_T25 l0 x5_1).f0.f4) :: .int .u8 ((rd_T25 l0 x5_1).f0.f5) :: .int .u8 ((rd_T25 l0 x5_1).f0.f6) :: .int .u8 ((rd_T25 l0 x5_1).f0.f7) :: .int .u8 ((rd_T25 l0 x5_1).f0.f8) :: .int .u8 ((rd_T25 l0 x5_1).f0.f9) :: .int .u8 ((rd_T25 l0 x5_1).f0.f10) :: .int .u8 ((rd_T25 l0 x5_1).f0.f11) :: .int .u8 ((rd_T25 l0 x5_1).f0.f12) :: .int .u8 ((rd_T25 l0 x5_1).f0.f13) :: .int .u8 ((rd_T25 l0 x5_1).f0.f14) :: .int .u8 ((rd_T25 l0 x5_1).f0.f15) :: .int .u8 ((rd_T25 l0 x5_1).f0.f16) :: .int .u8 ((rd_T25 l0 x5_1).f0.f17) :: .int .u8 ((rd_T25 l0 x5_1).f0.f18) :: .int .u8 ((rd_T25 l0 x5_1).f0.f19) :: .int .u8 ((rd_T25 l0 x5_1).f0.f20) :: .int .u8 ((rd_T25 l0 x5_1).f0.f21) :: .int .u8 ((rd_T25 l0 x5_1).f0.f22) :: .int .u8 ((rd_T25 l0 x5_1).f0.f23) :: .int .u8 ((rd_T25 l0 x5_1).f0.f24) :: .int .u8 ((rd_T25 l0 x5_1).f0.f25) :: .int .u8 ((rd_T25 l0 x5_1).f0.f26) :: .int .u8 ((rd_T25 l0 x5_1).f0.f27) :: .int .u8 ((rd_T25 l0 x5_1).f0.f28) :: .int .u8 ((rd_T25 l0 x5_1).f0.f29) :: .int .u8 ((rd_T25 l0 x5_1).f0.f30) :: .int .u8 ((rd_T25 l0 x5_1).f0.f31) :: .int .i64 ((rd_T25 l0 x5_1).f1) :: [])) (ds := []) #[false, false, false, false, false, false, false, false, false, false, false, false, false] (by kernel_rfl) rfl rfl (Go.Proofs.YtmoecidfmgeafaaDoor.Wide.mk33 (((HB.out.cell (World.block_lt_of_cell? w _ hw251_0)).trans hw251_0)) (((HB.out.cell (World.block_lt_of_cell? w _ hw251_1)).trans hw251_1)) (((HB.out.cell (World.block_lt_of_cell? w _ hw251_2)).trans hw251_2)) (((HB.out.cell (World.block_lt_of_cell? w _ hw251_3)).trans hw251_3)) (((HB.out.cell (World.block_lt_of_cell? w _ hw251_4)).trans hw251_4)) (((HB.out.cell (World.block_lt_of_cell? w _ hw251_5)).trans hw251_5)) (((HB.out.cell (World.block_lt_of_cell? w _ hw251_6)).trans hw251_6)) (((HB.out.cell (World.block_lt_of_cell? w _ hw251_7)).trans hw251_7)) (((HB.out.cell (World.block_lt_of_cell? w _ hw251_8)).trans hw251_8)) (((HB.out.cell (World.block_lt_of_cell? w _ hw251_9)).trans hw251_9)) (((HB.out.cell (World.block_lt_of_cell? w _ hw251_10)).trans hw251_10)) (((HB.out.cell (World.block_lt_of_cell? w _ hw251_11)).trans hw251_11)) (((HB.out.cell (World.block_lt_of_cell? w _ hw251_12)).trans hw251_12)) (((HB.out.cell (World.block_lt_of_cell? w _ hw251_13)).trans hw251_13)) (((HB.out.cell (World.block_lt_of_cell? w _ hw251_14)).trans hw251_14)) (((HB.out.cell (World.block_lt_of_cell? w _ hw251_15)).trans hw251_15)) (((HB.out.cell (World.block_lt_of_cell? w _ hw251_16)).trans hw251_16)) (((HB.out.cell (World.block_lt_of_cell? w _ hw251_17)).trans hw251_17)) (((HB.out.cell (World.block_lt_of_cell? w _ hw251_18)).trans hw251_18)) (((HB.out.cell (World.block_lt_of_cell? w _ hw251_19)).trans hw251_19)) (((HB.out.cell (World.block_lt_of_cell? w _ hw251_20)).trans hw251_20)) (((HB.out.cell (World.block_lt_of_cell? w _ hw251_21)).trans hw251_21)) (((HB.out.cell (World.block_lt_of_cell? w _ hw251_22)).trans hw251_22)) (((HB.out.cell (World.block_lt_of_cell? w _ hw251_23)).trans hw251_23)) (((HB.out.cell (World.block_lt_of_cell? w _ hw251_24)).trans hw251_24)) (((HB.out.cell (World.block_lt_of_cell? w _ hw251_25)).trans hw251_25)) (((HB.out.cell (World.block_lt_of_cell? w _ hw251_26)).trans hw251_26)) (((HB.out.cell (World.block_lt_of_cell? w _ hw251_27)).trans hw251_27)) (((HB.out.cell (World.block_lt_of_cell? w _ hw251_28)).trans hw251_28)) (((HB.out.cell (World.block_lt_of_cell? w _ hw251_29)).trans hw251_29)) (((HB.out.cell (World.block_lt_of_cell? w _ hw251_30)).trans hw251_30)) (((HB.out.cell (World.block_lt_of_cell? w _ hw251_31)).trans hw251_31)) (((HB.out.cell (World.block_lt_of_cell? w _ hw251_32)).trans hw251_32))) (fun hHeld => ?_); refine with_tabW coracleref1_Alike.tab4 coracleref1_Alike.bits4 (fun HT_ HW_ => ?_)
            generalize wr.drew = w11 at HB hx251_0 hx251_1 hx251_10 hx251_11 hx251_12 hx251_13 hx251_14 hx251_15 hx251_16 hx251_17 hx251_18 hx251_19 hx251_2 hx251_20 hx251_21 hx251_22 hx251_23 hx251_24 hx251_25 hx251_26 hx251_27 hx251_28 hx251_29 hx251_3 hx251_30 hx251_31 hx251_32 hx251_4 hx251_5 hx251_6 hx251_7 hx251_8 hx251_9 hx253_0 hx253_1 hx253_10 hx253_11 hx253_12 hx253_13 hx253_14 hx253_15 hx253_16 hx253_17 hx253_18 hx253_19 hx253_2 hx253_20 hx253_21 hx253_22 hx253_23 hx253_24 hx253_25 hx253_26 hx253_27 hx253_28 hx253_29 hx253_3 hx253_30 hx253_31 hx253_32 hx253_4 hx253_5 hx253_6 hx253_7 hx253_8 hx253_9 hHeld ⊢
            refine pure_ (i := 0) (N := some 12) (v := ?_) (a' := ?_) #[true, false, false, false, false, false, false, false, false, false, false, false, false] rfl rfl (any_of HT_.out (by kernel_rfl)) (fun _ _ _ h => h) (Or.inl ⟨by rfl, ?_⟩) ?_ ?_
            rotate_left
            · intro w'
              go_simp
              with_reducible rfl
            rotate_left
            · simp only [Act.put, List.setIfInBounds_toArray, List.set_cons_zero, List.set_cons_succ, i64_w, i32_w]
              rfl
            refine pure_ (i := 1) (N := some 13) (v := ?_) (a' := ?_) #[true, true, false, false, false, false, false, false, false, false, false, false, false] rfl rfl (any_of HT_.out (by kernel_rfl)) (fun _ _ _ h => h) (Or.inl ⟨by rfl, ?_⟩) ?_ ?_
            rotate_left
            · intro w'
              go_simp
              with_reducible rfl
            rotate_left
            · simp only [Act.put, List.setIfInBounds_toArray, List.set_cons_zero, List.set_cons_succ, i64_w, i32_w]
              rfl
            refine pure_ (i := 2) (N := some 14) (v := ?_) (a' := ?_) #[true, true, true, false, false, false, false, false, false, false, false, false, false] rfl rfl (any_of HT_.out (by kernel_rfl)) (fun _ _ _ h => h) (Or.inl ⟨by rfl, ?_⟩) ?_ ?_
            rotate_left
            · intro w'
              go_simp
              with_reducible rfl
            rotate_left
            · simp only [Act.put, List.setIfInBounds_toArray, List.set_cons_zero, List.set_cons_succ, i64_w, i32_w]
              rfl
            refine pure_ (i := 3) (N := some 15) (v := ?_) (a' := ?_) #[true, true, true, true, false, false, false, false, false, false, false, false, false] rfl rfl (any_of HT_.out (by kernel_rfl)) (fun _ _ _ h => h) (Or.inl ⟨by rfl, ?_⟩) ?_ ?_
            rotate_left
            · intro w'
              go_simp
              with_reducible rfl
            rotate_left
            · simp only [Act.put, List.setIfInBounds_toArray, List.set_cons_zero, List.set_cons_succ, i64_w, i32_w]
              rfl
            refine pure_ (i := 6) (N := some 18) (v := ?_) (a' := ?_) #[true, true, true, true, false, false, true, false, false, false, false, false, false] rfl rfl (any_of HT_.out (by kernel_rfl)) (fun _ _ _ h => h) (Or.inl ⟨by rfl, ?_⟩) ?_ ?_
            rotate_left
            · intro w'
              go_simp
              with_reducible rfl
            rotate_left
            · simp only [Act.put, List.setIfInBounds_toArray, List.set_cons_zero, List.set_cons_succ, i64_w, i32_w]
              rfl
            refine pure_ (i := 7) (N := some 19) (v := ?_) (a' := ?_) #[true, true, true, true, false, false, true, true, false, false, false, false, false] rfl rfl (any_of HT_.out (by kernel_rfl)) (fun _ _ _ h => h) (Or.inl ⟨by rfl, ?_⟩) ?_ ?_
            rotate_left
            · intro w'
              go_simp
              with_reducible rfl
            rotate_left
            · simp only [Act.put, List.setIfInBounds_toArray, List.set_cons_zero, List.set_cons_succ, i64_w, i32_w]
              rfl
            refine pure_ (i := 8) (N := some 20) (v := ?_) (a' := ?_) #[true, true, true, true, false, false, true, true, true, false, false, false, false] rfl rfl (any_of HT_.out (by kernel_rfl)) (fun _ _ _ h => h) (Or.inl ⟨by rfl, ?_⟩) ?_ ?_
            rotate_left
            · intro w'
              go_simp
              with_reducible rfl
            rotate_left
            · simp only [Act.put, List.setIfInBounds_toArray, List.set_cons_zero, List.set_cons_succ, i64_w, i32_w]
              rfl
            refine pure_ (i := 9) (N := some 21) (v := ?_) (a' := ?_) #[true, true, true, true, false, false, true, true, true, true, false, false, false] rfl rfl (any_of HT_.out (by kernel_rfl)) (fun _ _ _ h => h) (Or.inl ⟨by rfl, ?_⟩) ?_ ?_
            rotate_left
            · intro w'
              go_simp
              with_reducible rfl
            rotate_left
            · simp only [Act.put, List.setIfInBounds_toArray, List.set_cons_zero, List.set_cons_succ, i64_w, i32_w]
              rfl
            refine take_ (i := 4) (N := some 16) (v := ?_) (a' := ?_) #[true, true, true, true, true, false, true, true, true, true, false, false, false] rfl rfl (take_ofW HT_.out HW_.out (by kernel_rfl)) (fun _ _ _ h => h) (Or.inl ⟨by rfl, ?_⟩) hHeld ?_ ?_
            rotate_left
            · rintro w' s0
              go_simp
              with_reducible rfl
            rotate_left
            · simp only [Act.put, List.setIfInBounds_toArray, List.set_cons_zero, List.set_cons_succ, i64_w, i32_w]
              rfl
            refine take_ (i := 10) (N := some 22) (v := ?_) (a' := ?_) #[true, true, true, true, true, false, true, true, true, true, true, false, false] rfl rfl (take_ofW HT_.out HW_.out (by kernel_rfl)) (fun _ _ _ h => h) (Or.inl ⟨by rfl, ?_⟩) hHeld ?_ ?_
            rotate_left
            · rintro w' s0
              go_simp
              with_reducible rfl
            rotate_left
            · simp only [Act.put, List.setIfInBounds_toArray, List.set_cons_zero, List.set_cons_succ, i64_w, i32_w]
              rfl
            refine one_ (i := 5) (N := some 17) #[true, true, true, true, true, true, true, true, true, true, true, false, false] rfl rfl (one_of HT_.out (by kernel_rfl)) (by decide) (fun K hK => ?_)
            refine goes_ Tryd.func21 (by kernel_rfl) rfl #[.slice (some ad251) l0.length c0, .agg #[.int .u8 ((rd_T25 l0 x5_1).f0.f0), .int .u8 ((rd_T25 l0 x5_1).f0.f1), .int .u8 ((rd_T25 l0 x5_1).f0.f2), .int .u8 ((rd_T25 l0 x5_1).f0.f3), .int .u8 ((rd_T25 l0 x5_1).f0.f4), .int .u8 ((rd_T25 l0 x5_1).f0.f5), .int .u8 ((rd_T25 l0 x5_1).f0.f6), .int .u8 ((rd_T25 l0 x5_1).f0.f7), .int .u8 ((rd_T25 l0 x5_1).f0.f8), .int .u8 ((rd_T25 l0 x5_1).f0.f9), .int .u8 ((rd_T25 l0 x5_1).f0.f10), .int .u8 ((rd_T25 l0 x5_1).f0.f11), .int .u8 ((rd_T25 l0 x5_1).f0.f12), .int .u8 ((rd_T25 l0 x5_1).f0.f13), .int .u8 ((rd_T25 l0 x5_1).f0.f14), .int .u8 ((rd_T25 l0 x5_1).f0.f15), .int .u8 ((rd_T25 l0 x5_1).f0.f16), .int .u8 ((rd_T25 l0 x5_1).f0.f17), .int .u8 ((rd_T25 l0 x5_1).f0.f18), .int .u8 ((rd_T25 l0 x5_1).f0.f19), .int .u8 ((rd_T25 l0 x5_1).f0.f20), .int .u8 ((rd_T25 l0 x5_1).f0.f21), .int .u8 ((rd_T25 l0 x5_1).f0.f22), .int .u8 ((rd_T25 l0 x5_1).f0.f23), .int .u8 ((rd_T25 l0 x5_1).f0.f24), .int .u8 ((rd_T25 l0 x5_1).f0.f25), .int .u8 ((rd_T25 l0 x5_1).f0.f26), .int .u8 ((rd_T25 l0 x5_1).f0.f27), .int .u8 ((rd_T25 l0 x5_1).f0.f28), .int .u8 ((rd_T25 l0 x5_1).f0.f29), .int .u8 ((rd_T25 l0 x5_1).f0.f30), .int .u8 ((rd_T25 l0 x5_1).f0.f31), .int .i64 ((rd_T25 l0 x5_1).f1)]] (by rfl) rfl rfl (by (try simp only [List.map_toArray, List.map_cons, List.map_nil]); first | done | rfl | (simp only [List.length_drop, List.length_take]; rfl)) ?_
            with_reducible refine (coracleref1_Times.calls k1 _ _ l0 ((rd_T25 l0 x5_1).f0.f0) ((rd_T25 l0 x5_1).f0.f1) ((rd_T25 l0 x5_1).f0.f2) ((rd_T25 l0 x5_1).f0.f3) ((rd_T25 l0 x5_1).f0.f4) ((rd_T25 l0 x5_1).f0.f5) ((rd_T25 l0 x5_1).f0.f6) ((rd_T25 l0 x5_1).f0.f7) ((rd_T25 l0 x5_1).f0.f8) ((rd_T25 l0 x5_1).f0.f9) ((rd_T25 l0 x5_1).f0.f10) ((rd_T25 l0 x5_1).f0.f11) ((rd_T25 l0 x5_1).f0.f12) ((rd_T25 l0 x5_1).f0.f13) ((rd_T25 l0 x5_1).f0.f14) ((rd_T25 l0 x5_1).f0.f15) ((rd_T25 l0 x5_1).f0.f16) ((rd_T25 l0 x5_1).f0.f17) ((rd_T25 l0 x5_1).f0.f18) ((rd_T25 l0 x5_1).f0.f19) ((rd_T25 l0 x5_1).f0.f20) ((rd_T25 l0 x5_1).f0.f21) ((rd_T25 l0 x5_1).f0.f22) ((rd_T25 l0 x5_1).f0.f23) ((rd_T25 l0 x5_1).f0.f24) ((rd_T25 l0 x5_1).f0.f25) ((rd_T25 l0 x5_1).f0.f26) ((rd_T25 l0 x5_1).f0.f27) ((rd_T25 l0 x5_1).f0.f28) ((rd_T25 l0 x5_1).f0.f29) ((rd_T25 l0 x5_1).f0.f30) ((rd_T25 l0 x5_1).f0.f31) ((rd_T25 l0 x5_1).f1) t252 _ ?side1 ?side2 A5.out).mono ?_
            (case side1 => repeat (first | exact (Kd.C_below HR0.out HB.out) | (with_reducible refine Kd.C_alloc ?_ _) | (with_reducible refine Kd.C_drewN ?_ _) | (with_reducible refine Kd.C_drew ?_)))
            (case side2 => exact HC0.out)
            rintro e w12 ⟨rfl, hb⟩
            refine ⟨_, rfl, ?_⟩
            have n0_ := Aside0.mk (below_step (by repeat (first | (with_reducible first | exact HB.out | apply below_alloc | apply pw_below_drewN | apply below_drew1) | exact HB.out)) hb)
            clear HB
            have HB := n0_
            clear n0_
            (try clear hb)
            (try clear hb2)
            (try clear hk)
            (try clear hi)
            refine hK.out _ _ (Go.Proofs.YtmoecidfmgeafaaDoor.Wide.mk33 (((HB.out.cell (World.block_lt_of_cell? w _ hw251_0)).trans hw251_0)) (((HB.out.cell (World.block_lt_of_cell? w _ hw251_1)).trans hw251_1)) (((HB.out.cell (World.block_lt_of_cell? w _ hw251_2)).trans hw251_2)) (((HB.out.cell (World.block_lt_of_cell? w _ hw251_3)).trans hw251_3)) (((HB.out.cell (World.block_lt_of_cell? w _ hw251_4)).trans hw251_4)) (((HB.out.cell (World.block_lt_of_cell? w _ hw251_5)).trans hw251_5)) (((HB.out.cell (World.block_lt_of_cell? w _ hw251_6)).trans hw251_6)) (((HB.out.cell (World.block_lt_of_cell? w _ hw251_7)).trans hw251_7)) (((HB.out.cell (World.block_lt_of_cell? w _ hw251_8)).trans hw251_8)) (((HB.out.cell (World.block_lt_of_cell? w _ hw251_9)).trans hw251_9)) (((HB.out.cell (World.block_lt_of_cell? w _ hw251_10)).trans hw251_10)) (((HB.out.cell (World.block_lt_of_cell? w _ hw251_11)).trans hw251_11)) (((HB.out.cell (World.block_lt_of_cell? w _ hw251_12)).trans hw251_12)) (((HB.out.cell (World.block_lt_of_cell? w _ hw251_13)).trans hw251_13)) (((HB.out.cell (World.block_lt_of_cell? w _ hw251_14)).trans hw251_14)) (((HB.out.cell (World.block_lt_of_cell? w _ hw251_15)).trans hw251_15)) (((HB.out.cell (World.block_lt_of_cell? w _ hw251_16)).trans hw251_16)) (((HB.out.cell (World.block_lt_of_cell? w _ hw251_17)).trans hw251_17)) (((HB.out.cell (World.block_lt_of_cell? w _ hw251_18)).trans hw251_18)) (((HB.out.cell (World.block_lt_of_cell? w _ hw251_19)).trans hw251_19)) (((HB.out.cell (World.block_lt_of_cell? w _ hw251_20)).trans hw251_20)) (((HB.out.cell (World.block_lt_of_cell? w _ hw251_21)).trans hw251_21)) (((HB.out.cell (World.block_lt_of_cell? w _ hw251_22)).trans hw251_22)) (((HB.out.cell (World.block_lt_of_cell? w _ hw251_23)).trans hw251_23)) (((HB.out.cell (World.block_lt_of_cell? w _ hw251_24)).trans hw251_24)) (((HB.out.cell (World.block_lt_of_cell? w _ hw251_25)).trans hw251_25)) (((HB.out.cell (World.block_lt_of_cell? w _ hw251_26)).trans hw251_26)) (((HB.out.cell (World.block_lt_of_cell? w _ hw251_27)).trans hw251_27)) (((HB.out.cell (World.block_lt_of_cell? w _ hw251_28)).trans hw251_28)) (((HB.out.cell (World.block_lt_of_cell? w _ hw251_29)).trans hw251_29)) (((HB.out.cell (World.block_lt_of_cell? w _ hw251_30)).trans hw251_30)) (((HB.out.cell (World.block_lt_of_cell? w _ hw251_31)).trans hw251_31)) (((HB.out.cell (World.block_lt_of_cell? w _ hw251_32)).trans hw251_32))) (fun hHeld => ?_)
            clear hK K
            refine norm_ (a' := ?_) ?_ ?_
            rotate_left
            · show Act.put _ (some 17) _ = _
              simp only [Act.put, List.setIfInBounds_toArray, List.set_cons_zero, List.set_cons_succ, i64_w, i32_w]
              rfl
            refine one_ (i := 11) (N := some 23) #[true, true, true, true, true, true, true, true, true, true, true, true, false] rfl rfl (one_of HT_.out (by kernel_rfl)) (by decide) (fun K hK => ?_)
            refine goes_ Tryd.func21 (by kernel_rfl) rfl #[.slice A1 l1.length c1, .agg #[.int .u8 ((rd_T25 l0 x5_1).f0.f0), .int .u8 ((rd_T25 l0 x5_1).f0.f1), .int .u8 ((rd_T25 l0 x5_1).f0.f2), .int .u8 ((rd_T25 l0 x5_1).f0.f3), .int .u8 ((rd_T25 l0 x5_1).f0.f4), .int .u8 ((rd_T25 l0 x5_1).f0.f5), .int .u8 ((rd_T25 l0 x5_1).f0.f6), .int .u8 ((rd_T25 l0 x5_1).f0.f7), .int .u8 ((rd_T25 l0 x5_1).f0.f8), .int .u8 ((rd_T25 l0 x5_1).f0.f9), .int .u8 ((rd_T25 l0 x5_1).f0.f10), .int .u8 ((rd_T25 l0 x5_1).f0.f11), .int .u8 ((rd_T25 l0 x5_1).f0.f12), .int .u8 ((rd_T25 l0 x5_1).f0.f13), .int .u8 ((rd_T25 l0 x5_1).f0.f14), .int .u8 ((rd_T25 l0 x5_1).f0.f15), .int .u8 ((rd_T25 l0 x5_1).f0.f16), .int .u8 ((rd_T25 l0 x5_1).f0.f17), .int .u8 ((rd_T25 l0 x5_1).f0.f18), .int .u8 ((rd_T25 l0 x5_1).f0.f19), .int .u8 ((rd_T25 l0 x5_1).f0.f20), .int .u8 ((rd_T25 l0 x5_1).f0.f21), .int .u8 ((rd_T25 l0 x5_1).f0.f22), .int .u8 ((rd_T25 l0 x5_1).f0.f23), .int .u8 ((rd_T25 l0 x5_1).f0.f24), .int .u8 ((rd_T25 l0 x5_1).f0.f25), .int .u8 ((rd_T25 l0 x5_1).f0.f26), .int .u8 ((rd_T25 l0 x5_1).f0.f27), .int .u8 ((rd_T25 l0 x5_1).f0.f28), .int .u8 ((rd_T25 l0 x5_1).f0.f29), .int .u8 ((rd_T25 l0 x5_1).f0.f30), .int .u8 ((rd_T25 l0 x5_1).f0.f31), .int .i64 ((rd_T25 l0 x5_1).f1)]] (by rfl) rfl rfl (by (try simp only [List.map_toArray, List.map_cons, List.map_nil]); first | done | rfl | (simp only [List.length_drop, List.length_take]; rfl)) ?_
            with_reducible refine (coracleref1_Times.calls k1 _ _ l1 ((rd_T25 l0 x5_1).f0.f0) ((rd_T25 l0 x5_1).f0.f1) ((rd_T25 l0 x5_1).f0.f2) ((rd_T25 l0 x5_1).f0.f3) ((rd_T25 l0 x5_1).f0.f4) ((rd_T25 l0 x5_1).f0.f5) ((rd_T25 l0 x5_1).f0.f6) ((rd_T25 l0 x5_1).f0.f7) ((rd_T25 l0 x5_1).f0.f8) ((rd_T25 l0 x5_1).f0.f9) ((rd_T25 l0 x5_1).f0.f10) ((rd_T25 l0 x5_1).f0.f11) ((rd_T25 l0 x5_1).f0.f12) ((rd_T25 l0 x5_1).f0.f13) ((rd_T25 l0 x5_1).f0.f14) ((rd_T25 l0 x5_1).f0.f15) ((rd_T25 l0 x5_1).f0.f16) ((rd_T25 l0 x5_1).f0.f17) ((rd_T25 l0 x5_1).f0.f18) ((rd_T25 l0 x5_1).f0.f19) ((rd_T25 l0 x5_1).f0.f20) ((rd_T25 l0 x5_1).f0.f21) ((rd_T25 l0 x5_1).f0.f22) ((rd_T25 l0 x5_1).f0.f23) ((rd_T25 l0 x5_1).f0.f24) ((rd_T25 l0 x5_1).f0.f25) ((rd_T25 l0 x5_1).f0.f26) ((rd_T25 l0 x5_1).f0.f27) ((rd_T25 l0 x5_1).f0.f28) ((rd_T25 l0 x5_1).f0.f29) ((rd_T25 l0 x5_1).f0.f30) ((rd_T25 l0 x5_1).f0.f31) ((rd_T25 l0 x5_1).f1) t254 _ ?side1 ?side2 A6.out).mono ?_
            (case side1 => repeat (first | exact (Kd.C_below HR1.out HB.out) | (with_reducible refine Kd.C_alloc ?_ _) | (with_reducible refine Kd.C_drewN ?_ _) | (with_reducible refine Kd.C_drew ?_)))
            (case side2 => exact HC1.out)
            rintro e w13 ⟨rfl, hb⟩
            refine ⟨_, rfl, ?_⟩
            have n0_ := Aside0.mk (below_step (by repeat (first | (with_reducible first | exact HB.out | apply below_alloc | apply pw_below_drewN | apply below_drew1) | exact HB.out)) hb)
            clear HB
            have HB := n0_
            clear n0_
            (try clear hb)
            (try clear hb2)
            (try clear hk)
            (try clear hi)
            refine hK.out _ _ (Go.Proofs.YtmoecidfmgeafaaDoor.Wide.mk33 (((HB.out.cell (World.block_lt_of_cell? w _ hw251_0)).trans hw251_0)) (((HB.out.cell (World.block_lt_of_cell? w _ hw251_1)).trans hw251_1)) (((HB.out.cell (World.block_lt_of_cell? w _ hw251_2)).trans hw251_2)) (((HB.out.cell (World.block_lt_of_cell? w _ hw251_3)).trans hw251_3)) (((HB.out.cell (World.block_lt_of_cell? w _ hw251_4)).trans hw251_4)) (((HB.out.cell (World.block_lt_of_cell? w _ hw251_5)).trans hw251_5)) (((HB.out.cell (World.block_lt_of_cell? w _ hw251_6)).trans hw251_6)) (((HB.out.cell (World.block_lt_of_cell? w _ hw251_7)).trans hw251_7)) (((HB.out.cell (World.block_lt_of_cell? w _ hw251_8)).trans hw251_8)) (((HB.out.cell (World.block_lt_of_cell? w _ hw251_9)).trans hw251_9)) (((HB.out.cell (World.block_lt_of_cell? w _ hw251_10)).trans hw251_10)) (((HB.out.cell (World.block_lt_of_cell? w _ hw251_11)).trans hw251_11)) (((HB.out.cell (World.block_lt_of_cell? w _ hw251_12)).trans hw251_12)) (((HB.out.cell (World.block_lt_of_cell? w _ hw251_13)).trans hw251_13)) (((HB.out.cell (World.block_lt_of_cell? w _ hw251_14)).trans hw251_14)) (((HB.out.cell (World.block_lt_of_cell? w _ hw251_15)).trans hw251_15)) (((HB.out.cell (World.block_lt_of_cell? w _ hw251_16)).trans hw251_16)) (((HB.out.cell (World.block_lt_of_cell? w _ hw251_17)).trans hw251_17)) (((HB.out.cell (World.block_lt_of_cell? w _ hw251_18)).trans hw251_18)) (((HB.out.cell (World.block_lt_of_cell? w _ hw251_19)).trans hw251_19)) (((HB.out.cell (World.block_lt_of_cell? w _ hw251_20)).trans hw251_20)) (((HB.out.cell (World.block_lt_of_cell? w _ hw251_21)).trans hw251_21)) (((HB.out.cell (World.block_lt_of_cell? w _ hw251_22)).trans hw251_22)) (((HB.out.cell (World.block_lt_of_cell? w _ hw251_23)).trans hw251_23)) (((HB.out.cell (World.block_lt_of_cell? w _ hw251_24)).trans hw251_24)) (((HB.out.cell (World.block_lt_of_cell? w _ hw251_25)).trans hw251_25)) (((HB.out.cell (World.block_lt_of_cell? w _ hw251_26)).trans hw251_26)) (((HB.out.cell (World.block_lt_of_cell? w _ hw251_27)).trans hw251_27)) (((HB.out.cell (World.block_lt_of_cell? w _ hw251_28)).trans hw251_28)) (((HB.out.cell (World.block_lt_of_cell? w _ hw251_29)).trans hw251_29)) (((HB.out.cell (World.block_lt_of_cell? w _ hw251_30)).trans hw251_30)) (((HB.out.cell (World.block_lt_of_cell? w _ hw251_31)).trans hw251_31)) (((HB.out.cell (World.block_lt_of_cell? w _ hw251_32)).trans hw251_32))) (fun hHeld => ?_)
            clear hK K
            refine norm_ (a' := ?_) ?_ ?_
            rotate_left
            · show Act.put _ (some 23) _ = _
              simp only [Act.put, List.setIfInBounds_toArray, List.set_cons_zero, List.set_cons_succ, i64_w, i32_w]
              rfl
            refine pure_ (i := 12) (N := some 24) (v := ?_) (a' := ?_) #[true, true, true, true, true, true, true, true, true, true, true, true, true] rfl rfl (any_of HT_.out (by kernel_rfl)) (fun _ _ _ h => h) (Or.inl ⟨by rfl, ?_⟩) ?_ ?_
            rotate_left
            · intro w'
              go_simp
              with_reducible rfl
            rotate_left
            · simp only [Act.put, List.setIfInBounds_toArray, List.set_cons_zero, List.set_cons_succ, i64_w, i32_w]
              rfl
            refine done_ (done_of HT_.out (by kernel_rfl)) ?_
            try go_wp2
            go_ret
            exact ⟨by first | rfl | (simp [errW_none, errW_some] <;> rfl) | (simp [*, errW_none, errW_some] <;> rfl), by repeat (first | (with_reducible first | exact HB.out | apply below_alloc | apply pw_below_drewN | apply below_drew1) | exact HB.out)⟩
        · rw [if_neg c4] at H
          exact absurd H (by simp)
      · rw [if_neg c3] at H
        have c3b0 : decide (x5_1 < (l0.length : Int)) = false := decide_eq_false c3
        clear c3
        obtain rfl := Option.some.inj H
        go_wp2
        go_ret
        exact ⟨by first | rfl | (simp [errW_none, errW_some] <;> rfl) | (simp [*, errW_none, errW_some] <;> rfl), by repeat (first | (with_reducible first | exact HB.out | apply below_alloc | apply pw_below_drewN | apply below_drew1) | exact HB.out)⟩

-- NOT PRINTED: function 4 (coraclelaw3_PointSets)

/-! ### coraclealike_Round: function 22 -/
def coraclealike_Round.f (a0 : Int) (a1 : Int) : Option (Int) := if a1 = 0 then (none) else (some (Int.tmod (wrap64 ((Int.tmod a0 a1) + a1)) a1))
set_option maxHeartbeats 8000000 in
set_option maxRecDepth 100000 in
theorem coraclealike_Round.calls (a0 : Int) (a1 : Int) (r : Int) (w : World) (h : coraclealike_Round.f a0 a1 = some r) :
    Calls Tryd.prog 22 #[.int .i64 a0, .int .i64 a1] w fun e w' => e = .returned (.int .i64 r) ∧ Drawn0 w w' := by
  have H : (if a1 = 0 then (none) else (some (Int.tmod (wrap64 ((Int.tmod a0 a1) + a1)) a1))) = some r := h
  clear h
  by_cases c3 : a1 = 0
  · rw [if_pos c3] at H
    exact absurd H (by simp)
  · rw [if_neg c3] at H
    have c3b0 : (a1 == 0) = false := beq_eq_false_iff_ne.mpr c3
    have c3b1 : (a1 != 0) = true := bne_iff_ne.mpr c3
    obtain rfl := Option.some.inj H
    go_enter Tryd.func22, Tryd.ntmps22
    go_wp2
    go_ret
    exact ⟨by first | rfl | (simp; done) | (simp [*]; done), by repeat (first | exact Drawn0.refl _ | apply Drawn0.step)⟩

end Go.Proofs.YtmoecidfmgeafaaDoor.QPnt
