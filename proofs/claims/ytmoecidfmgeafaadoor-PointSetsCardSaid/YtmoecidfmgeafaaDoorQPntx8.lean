/- Functions of the program as plain Lean functions, and that its calls come to what these tell: written by a program of this session; Lean checks it. -/
import Derived.Test.YtmoecidfmgeafaaDoorQPntx0
import Derived.Test.YtmoecidfmgeafaaDoorQPntx4
namespace Go.Proofs.YtmoecidfmgeafaaDoor.QPnt
open Go.RowKit Go.Proofs.YtmoecidfmgeafaaDoorW.PrintWords Go.Proofs.YtmoecidfmgeafaaDoorW.PrintLast Go.Proofs.YtmoecidfmgeafaaDoorW.PrintMore
attribute [local go_sem] max2_int min2_int max_two min_two max_three min_three max_four min_four  run_fop run_feq run_fne run_flt run_fle run_fgt run_fge run_fint run_toi run_real' run_imag' run_complex' run_ceq run_cne run_cadd run_csub run_cmul Go.Proofs.YtmoecidfmgeafaaDoor.Wide.cellsAt_drewN Go.Proofs.YtmoecidfmgeafaaDoor.Wide.cellsAt_drew Go.Proofs.YtmoecidfmgeafaaDoor.Wide.lw32 Go.Proofs.YtmoecidfmgeafaaDoor.Wide.lw33
attribute [local go_sem ↓ high] Go.Proofs.YtmoecidfmgeafaaDoor.Wide.hv32 Go.Proofs.YtmoecidfmgeafaaDoor.Wide.hv33
set_option linter.unusedVariables false
set_option linter.unusedSimpArgs false

/-! ### coracleref1_Alike: function 19 -/
def coracleref1_Alike.l0 : Nat → List (S25) → List (S25) → Int → Option (Bool)
  | 0, _, _, _ => none
  | k + 1, x0, x1, x5 => if x5 < (x0.length : Int) then (if 0 ≤ x5 then ((coracleref1_Times.f k x0 ((rd_T25 x0 x5).f0.f0) ((rd_T25 x0 x5).f0.f1) ((rd_T25 x0 x5).f0.f2) ((rd_T25 x0 x5).f0.f3) ((rd_T25 x0 x5).f0.f4) ((rd_T25 x0 x5).f0.f5) ((rd_T25 x0 x5).f0.f6) ((rd_T25 x0 x5).f0.f7) ((rd_T25 x0 x5).f0.f8) ((rd_T25 x0 x5).f0.f9) ((rd_T25 x0 x5).f0.f10) ((rd_T25 x0 x5).f0.f11) ((rd_T25 x0 x5).f0.f12) ((rd_T25 x0 x5).f0.f13) ((rd_T25 x0 x5).f0.f14) ((rd_T25 x0 x5).f0.f15) ((rd_T25 x0 x5).f0.f16) ((rd_T25 x0 x5).f0.f17) ((rd_T25 x0 x5).f0.f18) ((rd_T25 x0 x5).f0.f19) ((rd_T25 x0 x5).f0.f20) ((rd_T25 x0 x5).f0.f21) ((rd_T25 x0 x5).f0.f22) ((rd_T25 x0 x5).f0.f23) ((rd_T25 x0 x5).f0.f24) ((rd_T25 x0 x5).f0.f25) ((rd_T25 x0 x5).f0.f26) ((rd_T25 x0 x5).f0.f27) ((rd_T25 x0 x5).f0.f28) ((rd_T25 x0 x5).f0.f29) ((rd_T25 x0 x5).f0.f30) ((rd_T25 x0 x5).f0.f31) ((rd_T25 x0 x5).f1)).bind fun t193 => ((coracleref1_Times.f k x1 ((rd_T25 x0 x5).f0.f0) ((rd_T25 x0 x5).f0.f1) ((rd_T25 x0 x5).f0.f2) ((rd_T25 x0 x5).f0.f3) ((rd_T25 x0 x5).f0.f4) ((rd_T25 x0 x5).f0.f5) ((rd_T25 x0 x5).f0.f6) ((rd_T25 x0 x5).f0.f7) ((rd_T25 x0 x5).f0.f8) ((rd_T25 x0 x5).f0.f9) ((rd_T25 x0 x5).f0.f10) ((rd_T25 x0 x5).f0.f11) ((rd_T25 x0 x5).f0.f12) ((rd_T25 x0 x5).f0.f13) ((rd_T25 x0 x5).f0.f14) ((rd_T25 x0 x5).f0.f15) ((rd_T25 x0 x5).f0.f16) ((rd_T25 x0 x5).f0.f17) ((rd_T25 x0 x5).f0.f18) ((rd_T25 x0 x5).f0.f19) ((rd_T25 x0 x5).f0.f20) ((rd_T25 x0 x5).f0.f21) ((rd_T25 x0 x5).f0.f22) ((rd_T25 x0 x5).f0.f23) ((rd_T25 x0 x5).f0.f24) ((rd_T25 x0 x5).f0.f25) ((rd_T25 x0 x5).f0.f26) ((rd_T25 x0 x5).f0.f27) ((rd_T25 x0 x5).f0.f28) ((rd_T25 x0 x5).f0.f29) ((rd_T25 x0 x5).f0.f30) ((rd_T25 x0 x5).f0.f31) ((rd_T25 x0 x5).f1)).bind fun t195 => (if t193 = t195 then (coracleref1_Alike.l0 k x0 x1 (wrap64 (x5 + 1))) else (some false)))) else (none)) else (some ((x0.length : Int) == (x1.length : Int)))
def coracleref1_Alike.f (k : Nat) (l0 : List (S25)) (l1 : List (S25)) : Option (Bool) := coracleref1_Alike.l0 k l0 l1 0
theorem coracleref1_Alike.mono_l : ∀ k, (∀ y0 y1 y2, LeO (coracleref1_Alike.l0 k y0 y1 y2) (coracleref1_Alike.l0 (k + 1) y0 y1 y2))
  | 0 => fun _ _ _ r h => by simp [coracleref1_Alike.l0] at h
  | k + 1 => by
    have ih0 := coracleref1_Alike.mono_l k
    · intro y0 y1 y2
      unfold coracleref1_Alike.l0
      repeat' first
      | (with_reducible exact ih0 _ _ _)
      | (with_reducible exact coracleref1_Times.mono _ _ _ _ _ _ _ _ _ _ _ _ _ _ _ _ _ _ _ _ _ _ _ _ _ _ _ _ _ _ _ _ _ _ _)
      | (with_reducible exact LeO.refl _)
      | (with_reducible exact LeO.none _)
      | (with_reducible refine LeO.ite ?_ ?_)
      | (with_reducible refine LeO.bind ?_ (fun _ => ?_))
      | exact ih0 _ _ _
      | exact coracleref1_Times.mono _ _ _ _ _ _ _ _ _ _ _ _ _ _ _ _ _ _ _ _ _ _ _ _ _ _ _ _ _ _ _ _ _ _ _
      | exact LeO.none _
      | refine LeO.ite ?_ ?_
      | refine LeO.bind ?_ (fun _ => ?_)
theorem coracleref1_Alike.mono : ∀ a0 a1 k, LeO (coracleref1_Alike.f k a0 a1) (coracleref1_Alike.f (k + 1) a0 a1) := by
  intro a0 a1 k
  have ih0 := coracleref1_Alike.mono_l k
  unfold coracleref1_Alike.f
  repeat' first
      | (with_reducible exact ih0 _ _ _)
      | (with_reducible exact coracleref1_Times.mono _ _ _ _ _ _ _ _ _ _ _ _ _ _ _ _ _ _ _ _ _ _ _ _ _ _ _ _ _ _ _ _ _ _ _)
      | (with_reducible exact LeO.refl _)
      | (with_reducible exact LeO.none _)
      | (with_reducible refine LeO.ite ?_ ?_)
      | (with_reducible refine LeO.bind ?_ (fun _ => ?_))
      | exact ih0 _ _ _
      | exact coracleref1_Times.mono _ _ _ _ _ _ _ _ _ _ _ _ _ _ _ _ _ _ _ _ _ _ _ _ _ _ _ _ _ _ _ _ _ _ _
      | exact LeO.none _
      | refine LeO.ite ?_ ?_
      | refine LeO.bind ?_ (fun _ => ?_)
def coracleref1_Alike.T4 : Bool × List (List Nat × List Nat) := (true, [([], []), ([], []), ([], []), ([1, 2], [1, 2]), ([3], [3]), ([0, 4], [0, 4]), ([], []), ([], []), ([], []), ([7, 8], [7, 8]), ([9], [9]), ([6, 10, 5], [6, 10]), ([5, 11], [5, 11])])
def coracleref1_Alike.B4 : List Nat := [0, 0, 0, 6, 14, 31, 0, 0, 0, 384, 896, 2047, 4095]
theorem coracleref1_Alike.tab4 : rtab .any (opsOf Tryd.f19 4) = coracleref1_Alike.T4 := by kernel_rfl
theorem coracleref1_Alike.bits4 : waitsOk coracleref1_Alike.T4.2 coracleref1_Alike.B4 = true := by kernel_rfl
set_option maxHeartbeats 8000000 in
set_option maxRecDepth 100000 in
theorem coracleref1_Alike.calls (k : Nat) (A0 : Option Addr) (c0 : Nat) (l0 : List (S25)) (A1 : Option Addr) (c1 : Nat) (l1 : List (S25)) (r : Bool) (w : World) (hr0 : Kd.C k25 w A0 l0.length l0) (hc0 : l0.length ≤ c0) (hr1 : Kd.C k25 w A1 l1.length l1) (hc1 : l1.length ≤ c1) (h : coracleref1_Alike.f k l0 l1 = some r) :
    Calls Tryd.prog 19 #[.slice A0 l0.length c0, .slice A1 l1.length c1] w fun e w' => e = .returned (.bool r) ∧ Below w.heap.size w w' := by
  have hu25 := Tryd.underlying25
  have HR0 := Aside0.mk hr0
  have HC0 := Aside0.mk hc0
  clear hr0 hc0
  have HR1 := Aside0.mk hr1
  have HC1 := Aside0.mk hc1
  clear hr1 hc1
  have HB := Aside0.mk (Below.refl w.heap.size w)
  have H : (coracleref1_Alike.l0 k l0 l1 0) = some r := h
  clear h
  have H' := Aside0.mk H
  clear H
  go_enter Tryd.func19, Tryd.ntmps19
  go_wp2
  go_loopg [5] k (fun kq v5 w' => ∃ (x5_1 : Int), v5 = .int .i64 x5_1 ∧ Aside0 (coracleref1_Alike.l0 kq l0 l1 x5_1 = some r) ∧ Aside0 (kq ≤ k) ∧ Aside0 (Below w.heap.size w w'))
  case atStart => exact ⟨(0), (by first | rfl | (simp; done) | (simp [*]; done)), H', ⟨Nat.le_refl _⟩, ⟨by repeat (first | (with_reducible first | exact HB.out | apply below_alloc | apply pw_below_drewN | apply below_drew1) | exact HB.out)⟩⟩
  case round =>
    clear H'
    try clear c1
    try clear p2
    obtain ⟨x5_1, rfl, HA, HK1, HB⟩ := hrel
    cases gk with
    | zero => exact absurd HA.out (by simp [coracleref1_Alike.l0])
    | succ k1 =>
      have H := HA.out
      clear HA
      simp only [coracleref1_Alike.l0] at H
      by_cases c3 : x5_1 < (l0.length : Int)
      · rw [if_pos c3] at H
        have c3b0 : decide (x5_1 < (l0.length : Int)) = true := decide_eq_true c3
        clear c3
        by_cases c4 : 0 ≤ x5_1
        · rw [if_pos c4] at H
          have c4b0 : decide (0 ≤ x5_1) = true := decide_eq_true c4
          clear c4
          replace H := Option.bind_eq_some_iff.mp H
          obtain ⟨t193, A50, H⟩ := H
          replace H : ((coracleref1_Times.f k1 l1 ((rd_T25 l0 x5_1).f0.f0) ((rd_T25 l0 x5_1).f0.f1) ((rd_T25 l0 x5_1).f0.f2) ((rd_T25 l0 x5_1).f0.f3) ((rd_T25 l0 x5_1).f0.f4) ((rd_T25 l0 x5_1).f0.f5) ((rd_T25 l0 x5_1).f0.f6) ((rd_T25 l0 x5_1).f0.f7) ((rd_T25 l0 x5_1).f0.f8) ((rd_T25 l0 x5_1).f0.f9) ((rd_T25 l0 x5_1).f0.f10) ((rd_T25 l0 x5_1).f0.f11) ((rd_T25 l0 x5_1).f0.f12) ((rd_T25 l0 x5_1).f0.f13) ((rd_T25 l0 x5_1).f0.f14) ((rd_T25 l0 x5_1).f0.f15) ((rd_T25 l0 x5_1).f0.f16) ((rd_T25 l0 x5_1).f0.f17) ((rd_T25 l0 x5_1).f0.f18) ((rd_T25 l0 x5_1).f0.f19) ((rd_T25 l0 x5_1).f0.f20) ((rd_T25 l0 x5_1).f0.f21) ((rd_T25 l0 x5_1).f0.f22) ((rd_T25 l0 x5_1).f0.f23) ((rd_T25 l0 x5_1).f0.f24) ((rd_T25 l0 x5_1).f0.f25) ((rd_T25 l0 x5_1).f0.f26) ((rd_T25 l0 x5_1).f0.f27) ((rd_T25 l0 x5_1).f0.f28) ((rd_T25 l0 x5_1).f0.f29) ((rd_T25 l0 x5_1).f0.f30) ((rd_T25 l0 x5_1).f0.f31) ((rd_T25 l0 x5_1).f1)).bind fun t195 => (if t193 = t195 then (coracleref1_Alike.l0 k1 l0 l1 (wrap64 (x5_1 + 1))) else (some false))) = some r := H
          have A5 := Aside0.mk A50
          clear A50
          replace H := Option.bind_eq_some_iff.mp H
          obtain ⟨t195, A60, H⟩ := H
          replace H : (if t193 = t195 then (coracleref1_Alike.l0 k1 l0 l1 (wrap64 (x5_1 + 1))) else (some false)) = some r := H
          have A6 := Aside0.mk A60
          clear A60
          by_cases c7 : t193 = t195
          · rw [if_pos c7] at H
            have c7b0 : (t193 == t195) = true := beq_iff_eq.mpr c7
            have c7b1 : (t193 != t195) = false := bne_eq_false_iff_eq.mpr c7
            clear c7
            have H' := Aside0.mk H
            clear H
            try go_wp2
            have n0_ := Aside0.mk (below_drew1 HB.out)
            clear HB
            have HB := n0_
            clear n0_
            have p192 : 0 ≤ (x5_1 : Int) := of_decide_eq_true (by first | (with_reducible assumption) | assumption)
            have q192 : x5_1 < (l0.length : Int) := of_decide_eq_true (by first | (with_reducible assumption) | assumption)
            obtain ⟨ad192, e192, hx192_0, hx192_1, hx192_2, hx192_3, hx192_4, hx192_5, hx192_6, hx192_7, hx192_8, hx192_9, hx192_10, hx192_11, hx192_12, hx192_13, hx192_14, hx192_15, hx192_16, hx192_17, hx192_18, hx192_19, hx192_20, hx192_21, hx192_22, hx192_23, hx192_24, hx192_25, hx192_26, hx192_27, hx192_28, hx192_29, hx192_30, hx192_31, hx192_32⟩ := at_T25 HR0.out x5_1 p192 q192
            have hw192_0_32 := Go.Proofs.YtmoecidfmgeafaaDoor.Wide.mk32 hx192_0 hx192_1 hx192_2 hx192_3 hx192_4 hx192_5 hx192_6 hx192_7 hx192_8 hx192_9 hx192_10 hx192_11 hx192_12 hx192_13 hx192_14 hx192_15 hx192_16 hx192_17 hx192_18 hx192_19 hx192_20 hx192_21 hx192_22 hx192_23 hx192_24 hx192_25 hx192_26 hx192_27 hx192_28 hx192_29 hx192_30 hx192_31
            have hw192_0_33 := Go.Proofs.YtmoecidfmgeafaaDoor.Wide.mk33 hx192_0 hx192_1 hx192_2 hx192_3 hx192_4 hx192_5 hx192_6 hx192_7 hx192_8 hx192_9 hx192_10 hx192_11 hx192_12 hx192_13 hx192_14 hx192_15 hx192_16 hx192_17 hx192_18 hx192_19 hx192_20 hx192_21 hx192_22 hx192_23 hx192_24 hx192_25 hx192_26 hx192_27 hx192_28 hx192_29 hx192_30 hx192_31 hx192_32
            have hw192_32 := hx192_32
            have hw192_31 := hx192_31
            have hw192_30 := hx192_30
            have hw192_29 := hx192_29
            have hw192_28 := hx192_28
            have hw192_27 := hx192_27
            have hw192_26 := hx192_26
            have hw192_25 := hx192_25
            have hw192_24 := hx192_24
            have hw192_23 := hx192_23
            have hw192_22 := hx192_22
            have hw192_21 := hx192_21
            have hw192_20 := hx192_20
            have hw192_19 := hx192_19
            have hw192_18 := hx192_18
            have hw192_17 := hx192_17
            have hw192_16 := hx192_16
            have hw192_15 := hx192_15
            have hw192_14 := hx192_14
            have hw192_13 := hx192_13
            have hw192_12 := hx192_12
            have hw192_11 := hx192_11
            have hw192_10 := hx192_10
            have hw192_9 := hx192_9
            have hw192_8 := hx192_8
            have hw192_7 := hx192_7
            have hw192_6 := hx192_6
            have hw192_5 := hx192_5
            have hw192_4 := hx192_4
            have hw192_3 := hx192_3
            have hw192_2 := hx192_2
            have hw192_1 := hx192_1
            have hw192_0 := hx192_0
            cases e192
            replace hx192_0 := (HB.out.cell (World.block_lt_of_cell? w _ hx192_0)).trans hx192_0
            replace hx192_1 := (HB.out.cell (World.block_lt_of_cell? w _ hx192_1)).trans hx192_1
            replace hx192_2 := (HB.out.cell (World.block_lt_of_cell? w _ hx192_2)).trans hx192_2
            replace hx192_3 := (HB.out.cell (World.block_lt_of_cell? w _ hx192_3)).trans hx192_3
            replace hx192_4 := (HB.out.cell (World.block_lt_of_cell? w _ hx192_4)).trans hx192_4
            replace hx192_5 := (HB.out.cell (World.block_lt_of_cell? w _ hx192_5)).trans hx192_5
            replace hx192_6 := (HB.out.cell (World.block_lt_of_cell? w _ hx192_6)).trans hx192_6
            replace hx192_7 := (HB.out.cell (World.block_lt_of_cell? w _ hx192_7)).trans hx192_7
            replace hx192_8 := (HB.out.cell (World.block_lt_of_cell? w _ hx192_8)).trans hx192_8
            replace hx192_9 := (HB.out.cell (World.block_lt_of_cell? w _ hx192_9)).trans hx192_9
            replace hx192_10 := (HB.out.cell (World.block_lt_of_cell? w _ hx192_10)).trans hx192_10
            replace hx192_11 := (HB.out.cell (World.block_lt_of_cell? w _ hx192_11)).trans hx192_11
            replace hx192_12 := (HB.out.cell (World.block_lt_of_cell? w _ hx192_12)).trans hx192_12
            replace hx192_13 := (HB.out.cell (World.block_lt_of_cell? w _ hx192_13)).trans hx192_13
            replace hx192_14 := (HB.out.cell (World.block_lt_of_cell? w _ hx192_14)).trans hx192_14
            replace hx192_15 := (HB.out.cell (World.block_lt_of_cell? w _ hx192_15)).trans hx192_15
            replace hx192_16 := (HB.out.cell (World.block_lt_of_cell? w _ hx192_16)).trans hx192_16
            replace hx192_17 := (HB.out.cell (World.block_lt_of_cell? w _ hx192_17)).trans hx192_17
            replace hx192_18 := (HB.out.cell (World.block_lt_of_cell? w _ hx192_18)).trans hx192_18
            replace hx192_19 := (HB.out.cell (World.block_lt_of_cell? w _ hx192_19)).trans hx192_19
            replace hx192_20 := (HB.out.cell (World.block_lt_of_cell? w _ hx192_20)).trans hx192_20
            replace hx192_21 := (HB.out.cell (World.block_lt_of_cell? w _ hx192_21)).trans hx192_21
            replace hx192_22 := (HB.out.cell (World.block_lt_of_cell? w _ hx192_22)).trans hx192_22
            replace hx192_23 := (HB.out.cell (World.block_lt_of_cell? w _ hx192_23)).trans hx192_23
            replace hx192_24 := (HB.out.cell (World.block_lt_of_cell? w _ hx192_24)).trans hx192_24
            replace hx192_25 := (HB.out.cell (World.block_lt_of_cell? w _ hx192_25)).trans hx192_25
            replace hx192_26 := (HB.out.cell (World.block_lt_of_cell? w _ hx192_26)).trans hx192_26
            replace hx192_27 := (HB.out.cell (World.block_lt_of_cell? w _ hx192_27)).trans hx192_27
            replace hx192_28 := (HB.out.cell (World.block_lt_of_cell? w _ hx192_28)).trans hx192_28
            replace hx192_29 := (HB.out.cell (World.block_lt_of_cell? w _ hx192_29)).trans hx192_29
            replace hx192_30 := (HB.out.cell (World.block_lt_of_cell? w _ hx192_30)).trans hx192_30
            replace hx192_31 := (HB.out.cell (World.block_lt_of_cell? w _ hx192_31)).trans hx192_31
            replace hx192_32 := (HB.out.cell (World.block_lt_of_cell? w _ hx192_32)).trans hx192_32
            replace p192 := eq_true p192
            replace q192 := eq_true q192
            have p194 : 0 ≤ (x5_1 : Int) := of_decide_eq_true (by first | (with_reducible assumption) | assumption)
            have q194 : x5_1 < (l0.length : Int) := of_decide_eq_true (by first | (with_reducible assumption) | assumption)
            obtain ⟨ad194, e194, hx194_0, hx194_1, hx194_2, hx194_3, hx194_4, hx194_5, hx194_6, hx194_7, hx194_8, hx194_9, hx194_10, hx194_11, hx194_12, hx194_13, hx194_14, hx194_15, hx194_16, hx194_17, hx194_18, hx194_19, hx194_20, hx194_21, hx194_22, hx194_23, hx194_24, hx194_25, hx194_26, hx194_27, hx194_28, hx194_29, hx194_30, hx194_31, hx194_32⟩ := at_T25 HR0.out x5_1 p194 q194
            have hw194_0_32 := Go.Proofs.YtmoecidfmgeafaaDoor.Wide.mk32 hx194_0 hx194_1 hx194_2 hx194_3 hx194_4 hx194_5 hx194_6 hx194_7 hx194_8 hx194_9 hx194_10 hx194_11 hx194_12 hx194_13 hx194_14 hx194_15 hx194_16 hx194_17 hx194_18 hx194_19 hx194_20 hx194_21 hx194_22 hx194_23 hx194_24 hx194_25 hx194_26 hx194_27 hx194_28 hx194_29 hx194_30 hx194_31
            have hw194_0_33 := Go.Proofs.YtmoecidfmgeafaaDoor.Wide.mk33 hx194_0 hx194_1 hx194_2 hx194_3 hx194_4 hx194_5 hx194_6 hx194_7 hx194_8 hx194_9 hx194_10 hx194_11 hx194_12 hx194_13 hx194_14 hx194_15 hx194_16 hx194_17 hx194_18 hx194_19 hx194_20 hx194_21 hx194_22 hx194_23 hx194_24 hx194_25 hx194_26 hx194_27 hx194_28 hx194_29 hx194_30 hx194_31 hx194_32
            have hw194_32 := hx194_32
            have hw194_31 := hx194_31
            have hw194_30 := hx194_30
            have hw194_29 := hx194_29
            have hw194_28 := hx194_28
            have hw194_27 := hx194_27
            have hw194_26 := hx194_26
            have hw194_25 := hx194_25
            have hw194_24 := hx194_24
            have hw194_23 := hx194_23
            have hw194_22 := hx194_22
            have hw194_21 := hx194_21
            have hw194_20 := hx194_20
            have hw194_19 := hx194_19
            have hw194_18 := hx194_18
            have hw194_17 := hx194_17
            have hw194_16 := hx194_16
            have hw194_15 := hx194_15
            have hw194_14 := hx194_14
            have hw194_13 := hx194_13
            have hw194_12 := hx194_12
            have hw194_11 := hx194_11
            have hw194_10 := hx194_10
            have hw194_9 := hx194_9
            have hw194_8 := hx194_8
            have hw194_7 := hx194_7
            have hw194_6 := hx194_6
            have hw194_5 := hx194_5
            have hw194_4 := hx194_4
            have hw194_3 := hx194_3
            have hw194_2 := hx194_2
            have hw194_1 := hx194_1
            have hw194_0 := hx194_0
            obtain rfl : ad192 = ad194 := (by injection e194)
            replace hx194_0 := (HB.out.cell (World.block_lt_of_cell? w _ hx194_0)).trans hx194_0
            replace hx194_1 := (HB.out.cell (World.block_lt_of_cell? w _ hx194_1)).trans hx194_1
            replace hx194_2 := (HB.out.cell (World.block_lt_of_cell? w _ hx194_2)).trans hx194_2
            replace hx194_3 := (HB.out.cell (World.block_lt_of_cell? w _ hx194_3)).trans hx194_3
            replace hx194_4 := (HB.out.cell (World.block_lt_of_cell? w _ hx194_4)).trans hx194_4
            replace hx194_5 := (HB.out.cell (World.block_lt_of_cell? w _ hx194_5)).trans hx194_5
            replace hx194_6 := (HB.out.cell (World.block_lt_of_cell? w _ hx194_6)).trans hx194_6
            replace hx194_7 := (HB.out.cell (World.block_lt_of_cell? w _ hx194_7)).trans hx194_7
            replace hx194_8 := (HB.out.cell (World.block_lt_of_cell? w _ hx194_8)).trans hx194_8
            replace hx194_9 := (HB.out.cell (World.block_lt_of_cell? w _ hx194_9)).trans hx194_9
            replace hx194_10 := (HB.out.cell (World.block_lt_of_cell? w _ hx194_10)).trans hx194_10
            replace hx194_11 := (HB.out.cell (World.block_lt_of_cell? w _ hx194_11)).trans hx194_11
            replace hx194_12 := (HB.out.cell (World.block_lt_of_cell? w _ hx194_12)).trans hx194_12
            replace hx194_13 := (HB.out.cell (World.block_lt_of_cell? w _ hx194_13)).trans hx194_13
            replace hx194_14 := (HB.out.cell (World.block_lt_of_cell? w _ hx194_14)).trans hx194_14
            replace hx194_15 := (HB.out.cell (World.block_lt_of_cell? w _ hx194_15)).trans hx194_15
            replace hx194_16 := (HB.out.cell (World.block_lt_of_cell? w _ hx194_16)).trans hx194_16
            replace hx194_17 := (HB.out.cell (World.block_lt_of_cell? w _ hx194_17)).trans hx194_17
            replace hx194_18 := (HB.out.cell (World.block_lt_of_cell? w _ hx194_18)).trans hx194_18
            replace hx194_19 := (HB.out.cell (World.block_lt_of_cell? w _ hx194_19)).trans hx194_19
            replace hx194_20 := (HB.out.cell (World.block_lt_of_cell? w _ hx194_20)).trans hx194_20
            replace hx194_21 := (HB.out.cell (World.block_lt_of_cell? w _ hx194_21)).trans hx194_21
            replace hx194_22 := (HB.out.cell (World.block_lt_of_cell? w _ hx194_22)).trans hx194_22
            replace hx194_23 := (HB.out.cell (World.block_lt_of_cell? w _ hx194_23)).trans hx194_23
            replace hx194_24 := (HB.out.cell (World.block_lt_of_cell? w _ hx194_24)).trans hx194_24
            replace hx194_25 := (HB.out.cell (World.block_lt_of_cell? w _ hx194_25)).trans hx194_25
            replace hx194_26 := (HB.out.cell (World.block_lt_of_cell? w _ hx194_26)).trans hx194_26
            replace hx194_27 := (HB.out.cell (World.block_lt_of_cell? w _ hx194_27)).trans hx194_27
            replace hx194_28 := (HB.out.cell (World.block_lt_of_cell? w _ hx194_28)).trans hx194_28
            replace hx194_29 := (HB.out.cell (World.block_lt_of_cell? w _ hx194_29)).trans hx194_29
            replace hx194_30 := (HB.out.cell (World.block_lt_of_cell? w _ hx194_30)).trans hx194_30
            replace hx194_31 := (HB.out.cell (World.block_lt_of_cell? w _ hx194_31)).trans hx194_31
            replace hx194_32 := (HB.out.cell (World.block_lt_of_cell? w _ hx194_32)).trans hx194_32
            replace p194 := eq_true p194
            replace q194 := eq_true q194
            refine start_ (n := 13) (S := fun w' => Go.Proofs.YtmoecidfmgeafaaDoor.Wide.cellsAt w' (ad192.add ((x5_1).toNat * 33)) 33 = some (.int .u8 ((rd_T25 l0 x5_1).f0.f0) :: .int .u8 ((rd_T25 l0 x5_1).f0.f1) :: .int .u8 ((rd_T25 l0 x5_1).f0.f2) :: .int .u8 ((rd_T25 l0 x5_1).f0.f3) :: .int .u8 ((rd_T25 l0 x5_1).f0.f4) :: .int .u8 ((rd_T25 l0 x5_1).f0.f5) :: .int .u8 ((rd_T25 l0 x5_1).f0.f6) :: .int .u8 ((rd_T25 l0 x5_1).f0.f7) :: .int .u8 ((rd_T25 l0 x5_1).f0.f8) :: .int .u8 ((rd_T25 l0 x5_1).f0.f9) :: .int .u8 ((rd_T25 l0 x5_1).f0.f10) :: .int .u8 ((rd_T25 l0 x5_1).f0.f11) :: .int .u8 ((rd_T25 l0 x5_1).f0.f12) :: .int .u8 ((rd_T25 l0 x5_1).f0.f13) :: .int .u8 ((rd_T25 l0 x5_1).f0.f14) :: .int .u8 ((rd_T25 l0 x5_1).f0.f15) :: .int .u8 ((rd_T25 l0 x5_1).f0.f16) :: .int .u8 ((rd_T25 l0 x5_1).f0.f17) :: .int .u8 ((rd_T25 l0 x5_1).f0.f18) :: .int .u8 ((rd_T25 l0 x5_1).f0.f19) :: .int .u8 ((rd_T25 l0 x5_1).f0.f20) :: .int .u8 ((rd_T25 l0 x5_1).f0.f21) :: .int .u8 ((rd_T25 l0 x5_1).f0.f22) :: .int .u8 ((rd_T25 l0 x5_1).f0.f23) :: .int .u8 ((rd_T25 l0 x5_1).f0.f24) :: .int .u8 ((rd_T25 l0 x5_1).f0.f25) :: .int .u8 ((rd_T25 l0 x5_1).f0.f26) :: .int .u8 ((rd_T25 l0 x5_1).f0.f27) :: .int .u8 ((rd_T25 l0 x5_1).f0.f28) :: .int .u8 ((rd_T25 l0 x5_1).f0.f29) :: .int .u8 ((rd_T25 l0 x5_1).f0.f30) :: .int .u8 ((rd_T25 l0 x5_1).f0.f31) :: .int .i64 ((rd_T25 l0 x5_1).f1) :: [])) (ds := []) #[false, false, false, false, false, false, false, false, false, false, false, false, false] (by kernel_rfl) rfl rfl (Go.Proofs.YtmoecidfmgeafaaDoor.Wide.mk33 (((HB.out.cell (World.block_lt_of_cell? w _ hw192_0)).trans hw192_0)) (((HB.out.cell (World.block_lt_of_cell? w _ hw192_1)).trans hw192_1)) (((HB.out.cell (World.block_lt_of_cell? w _ hw192_2)).trans hw192_2)) (((HB.out.cell (World.block_lt_of_cell? w _ hw192_3)).trans hw192_3)) (((HB.out.cell (World.block_lt_of_cell? w _ hw192_4)).trans hw192_4)) (((HB.out.cell (World.block_lt_of_cell? w _ hw192_5)).trans hw192_5)) (((HB.out.cell (World.block_lt_of_cell? w _ hw192_6)).trans hw192_6)) (((HB.out.cell (World.block_lt_of_cell? w _ hw192_7)).trans hw192_7)) (((HB.out.cell (World.block_lt_of_cell? w _ hw192_8)).trans hw192_8)) (((HB.out.cell (World.block_lt_of_cell? w _ hw192_9)).trans hw192_9)) (((HB.out.cell (World.block_lt_of_cell? w _ hw192_10)).trans hw192_10)) (((HB.out.cell (World.block_lt_of_cell? w _ hw192_11)).trans hw192_11)) (((HB.out.cell (World.block_lt_of_cell? w _ hw192_12)).trans hw192_12)) (((HB.out.cell (World.block_lt_of_cell? w _ hw192_13)).trans hw192_13)) (((HB.out.cell (World.block_lt_of_cell? w _ hw192_14)).trans hw192_14)) (((HB.out.cell (World.block_lt_of_cell? w _ hw192_15)).trans hw192_15)) (((HB.out.cell (World.block_lt_of_cell? w _ hw192_16)).trans hw192_16)) (((HB.out.cell (World.block_lt_of_cell? w _ hw192_17)).trans hw192_17)) (((HB.out.cell (World.block_lt_of_cell? w _ hw192_18)).trans hw192_18)) (((HB.out.cell (World.block_lt_of_cell? w _ hw192_19)).trans hw192_19)) (((HB.out.cell (World.block_lt_of_cell? w _ hw192_20)).trans hw192_20)) (((HB.out.cell (World.block_lt_of_cell? w _ hw192_21)).trans hw192_21)) (((HB.out.cell (World.block_lt_of_cell? w _ hw192_22)).trans hw192_22)) (((HB.out.cell (World.block_lt_of_cell? w _ hw192_23)).trans hw192_23)) (((HB.out.cell (World.block_lt_of_cell? w _ hw192_24)).trans hw192_24)) (((HB.out.cell (World.block_lt_of_cell? w _ hw192_25)).trans hw192_25)) (((HB.out.cell (World.block_lt_of_cell? w _ hw192_26)).trans hw192_26)) (((HB.out.cell (World.block_lt_of_cell? w _ hw192_27)).trans hw192_27)) (((HB.out.cell (World.block_lt_of_cell? w _ hw192_28)).trans hw192_28)) (((HB.out.cell (World.block_lt_of_cell? w _ hw192_29)).trans hw192_29)) (((HB.out.cell (World.block_lt_of_cell? w _ hw192_30)).trans hw192_30)) (((HB.out.cell (World.block_lt_of_cell? w _ hw192_31)).trans hw192_31)) (((HB.out.cell (World.block_lt_of_cell? w _ hw192_32)).trans hw192_32))) (fun hHeld => ?_); refine with_tabW coracleref1_Alike.tab4 coracleref1_Alike.bits4 (fun HT_ HW_ => ?_)
            generalize wr.drew = w8 at HB hx192_0 hx192_1 hx192_10 hx192_11 hx192_12 hx192_13 hx192_14 hx192_15 hx192_16 hx192_17 hx192_18 hx192_19 hx192_2 hx192_20 hx192_21 hx192_22 hx192_23 hx192_24 hx192_25 hx192_26 hx192_27 hx192_28 hx192_29 hx192_3 hx192_30 hx192_31 hx192_32 hx192_4 hx192_5 hx192_6 hx192_7 hx192_8 hx192_9 hx194_0 hx194_1 hx194_10 hx194_11 hx194_12 hx194_13 hx194_14 hx194_15 hx194_16 hx194_17 hx194_18 hx194_19 hx194_2 hx194_20 hx194_21 hx194_22 hx194_23 hx194_24 hx194_25 hx194_26 hx194_27 hx194_28 hx194_29 hx194_3 hx194_30 hx194_31 hx194_32 hx194_4 hx194_5 hx194_6 hx194_7 hx194_8 hx194_9 hHeld ⊢
            refine pure_ (i := 0) (N := some 12) (v := ?_) (a' := ?_) #[true, false, false, false, false, false, false, false, false, false, false, false, false] rfl rfl (any_of HT_.out (by kernel_rfl)) (fun _ _ _ h => h) (Or.inl ⟨by rfl, ?_⟩) ?_ ?_
            rotate_left
            · intro w'
              go_simp
              with_reducible rfl
            rotate_left
            · simp only [Act.put, List.setIfInBounds_toArray, List.set_cons_zero, List.set_cons_succ, i64_w, i32_w]
              rfl
            refine pure_ (i := 1) (N := some 13) (v := ?_) (a' := ?_) #[true, true, false, false, false, false, false, false, false, false, false, false, false] rfl rfl (any_of HT_.out (by kernel_rfl)) (fun _ _ _ h => h) (Or.inl ⟨by rfl, ?_⟩) ?_ ?_
            rotate_left
            · intro w'
              go_simp
              with_reducible rfl
            rotate_left
            · simp only [Act.put, List.setIfInBounds_toArray, List.set_cons_zero, List.set_cons_succ, i64_w, i32_w]
              rfl
            refine pure_ (i := 2) (N := some 14) (v := ?_) (a' := ?_) #[true, true, true, false, false, false, false, false, false, false, false, false, false] rfl rfl (any_of HT_.out (by kernel_rfl)) (fun _ _ _ h => h) (Or.inl ⟨by rfl, ?_⟩) ?_ ?_
            rotate_left
            · intro w'
              go_simp
              with_reducible rfl
            rotate_left
            · simp only [Act.put, List.setIfInBounds_toArray, List.set_cons_zero, List.set_cons_succ, i64_w, i32_w]
              rfl
            refine pure_ (i := 3) (N := some 15) (v := ?_) (a' := ?_) #[true, true, true, true, false, false, false, false, false, false, false, false, false] rfl rfl (any_of HT_.out (by kernel_rfl)) (fun _ _ _ h => h) (Or.inl ⟨by rfl, ?_⟩) ?_ ?_
            rotate_left
            · intro w'
              go_simp
              with_reducible rfl
            rotate_left
            · simp only [Act.put, List.setIfInBounds_toArray, List.set_cons_zero, List.set_cons_succ, i64_w, i32_w]
              rfl
            refine pure_ (i := 6) (N := some 18) (v := ?_) (a' := ?_) #[true, true, true, true, false, false, true, false, false, false, false, false, false] rfl rfl (any_of HT_.out (by kernel_rfl)) (fun _ _ _ h => h) (Or.inl ⟨by rfl, ?_⟩) ?_ ?_
            rotate_left
            · intro w'
              go_simp
              with_reducible rfl
            rotate_left
            · simp only [Act.put, List.setIfInBounds_toArray, List.set_cons_zero, List.set_cons_succ, i64_w, i32_w]
              rfl
            refine pure_ (i := 7) (N := some 19) (v := ?_) (a' := ?_) #[true, true, true, true, false, false, true, true, false, false, false, false, false] rfl rfl (any_of HT_.out (by kernel_rfl)) (fun _ _ _ h => h) (Or.inl ⟨by rfl, ?_⟩) ?_ ?_
            rotate_left
            · intro w'
              go_simp
              with_reducible rfl
            rotate_left
            · simp only [Act.put, List.setIfInBounds_toArray, List.set_cons_zero, List.set_cons_succ, i64_w, i32_w]
              rfl
            refine pure_ (i := 8) (N := some 20) (v := ?_) (a' := ?_) #[true, true, true, true, false, false, true, true, true, false, false, false, false] rfl rfl (any_of HT_.out (by kernel_rfl)) (fun _ _ _ h => h) (Or.inl ⟨by rfl, ?_⟩) ?_ ?_
            rotate_left
            · intro w'
              go_simp
              with_reducible rfl
            rotate_left
            · simp only [Act.put, List.setIfInBounds_toArray, List.set_cons_zero, List.set_cons_succ, i64_w, i32_w]
              rfl
            refine pure_ (i := 9) (N := some 21) (v := ?_) (a' := ?_) #[true, true, true, true, false, false, true, true, true, true, false, false, false] rfl rfl (any_of HT_.out (by kernel_rfl)) (fun _ _ _ h => h) (Or.inl ⟨by rfl, ?_⟩) ?_ ?_
            rotate_left
            · intro w'
              go_simp
              with_reducible rfl
            rotate_left
            · simp only [Act.put, List.setIfInBounds_toArray, List.set_cons_zero, List.set_cons_succ, i64_w, i32_w]
              rfl
            refine take_ (i := 4) (N := some 16) (v := ?_) (a' := ?_) #[true, true, true, true, true, false, true, true, true, true, false, false, false] rfl rfl (take_ofW HT_.out HW_.out (by kernel_rfl)) (fun _ _ _ h => h) (Or.inl ⟨by rfl, ?_⟩) hHeld ?_ ?_
            rotate_left
            · rintro w' s0
              go_simp
              with_reducible rfl
            rotate_left
            · simp only [Act.put, List.setIfInBounds_toArray, List.set_cons_zero, List.set_cons_succ, i64_w, i32_w]
              rfl
            refine take_ (i := 10) (N := some 22) (v := ?_) (a' := ?_) #[true, true, true, true, true, false, true, true, true, true, true, false, false] rfl rfl (take_ofW HT_.out HW_.out (by kernel_rfl)) (fun _ _ _ h => h) (Or.inl ⟨by rfl, ?_⟩) hHeld ?_ ?_
            rotate_left
            · rintro w' s0
              go_simp
              with_reducible rfl
            rotate_left
            · simp only [Act.put, List.setIfInBounds_toArray, List.set_cons_zero, List.set_cons_succ, i64_w, i32_w]
              rfl
            refine one_ (i := 5) (N := some 17) #[true, true, true, true, true, true, true, true, true, true, true, false, false] rfl rfl (one_of HT_.out (by kernel_rfl)) (by decide) (fun K hK => ?_)
            refine goes_ Tryd.func21 (by kernel_rfl) rfl #[.slice (some ad192) l0.length c0, .agg #[.int .u8 ((rd_T25 l0 x5_1).f0.f0), .int .u8 ((rd_T25 l0 x5_1).f0.f1), .int .u8 ((rd_T25 l0 x5_1).f0.f2), .int .u8 ((rd_T25 l0 x5_1).f0.f3), .int .u8 ((rd_T25 l0 x5_1).f0.f4), .int .u8 ((rd_T25 l0 x5_1).f0.f5), .int .u8 ((rd_T25 l0 x5_1).f0.f6), .int .u8 ((rd_T25 l0 x5_1).f0.f7), .int .u8 ((rd_T25 l0 x5_1).f0.f8), .int .u8 ((rd_T25 l0 x5_1).f0.f9), .int .u8 ((rd_T25 l0 x5_1).f0.f10), .int .u8 ((rd_T25 l0 x5_1).f0.f11), .int .u8 ((rd_T25 l0 x5_1).f0.f12), .int .u8 ((rd_T25 l0 x5_1).f0.f13), .int .u8 ((rd_T25 l0 x5_1).f0.f14), .int .u8 ((rd_T25 l0 x5_1).f0.f15), .int .u8 ((rd_T25 l0 x5_1).f0.f16), .int .u8 ((rd_T25 l0 x5_1).f0.f17), .int .u8 ((rd_T25 l0 x5_1).f0.f18), .int .u8 ((rd_T25 l0 x5_1).f0.f19), .int .u8 ((rd_T25 l0 x5_1).f0.f20), .int .u8 ((rd_T25 l0 x5_1).f0.f21), .int .u8 ((rd_T25 l0 x5_1).f0.f22), .int .u8 ((rd_T25 l0 x5_1).f0.f23), .int .u8 ((rd_T25 l0 x5_1).f0.f24), .int .u8 ((rd_T25 l0 x5_1).f0.f25), .int .u8 ((rd_T25 l0 x5_1).f0.f26), .int .u8 ((rd_T25 l0 x5_1).f0.f27), .int .u8 ((rd_T25 l0 x5_1).f0.f28), .int .u8 ((rd_T25 l0 x5_1).f0.f29), .int .u8 ((rd_T25 l0 x5_1).f0.f30), .int .u8 ((rd_T25 l0 x5_1).f0.f31), .int .i64 ((rd_T25 l0 x5_1).f1)]] (by rfl) rfl rfl (by (try simp only [List.map_toArray, List.map_cons, List.map_nil]); first | done | rfl | (simp only [List.length_drop, List.length_take]; rfl)) ?_
            with_reducible refine (coracleref1_Times.calls k1 _ _ l0 ((rd_T25 l0 x5_1).f0.f0) ((rd_T25 l0 x5_1).f0.f1) ((rd_T25 l0 x5_1).f0.f2) ((rd_T25 l0 x5_1).f0.f3) ((rd_T25 l0 x5_1).f0.f4) ((rd_T25 l0 x5_1).f0.f5) ((rd_T25 l0 x5_1).f0.f6) ((rd_T25 l0 x5_1).f0.f7) ((rd_T25 l0 x5_1).f0.f8) ((rd_T25 l0 x5_1).f0.f9) ((rd_T25 l0 x5_1).f0.f10) ((rd_T25 l0 x5_1).f0.f11) ((rd_T25 l0 x5_1).f0.f12) ((rd_T25 l0 x5_1).f0.f13) ((rd_T25 l0 x5_1).f0.f14) ((rd_T25 l0 x5_1).f0.f15) ((rd_T25 l0 x5_1).f0.f16) ((rd_T25 l0 x5_1).f0.f17) ((rd_T25 l0 x5_1).f0.f18) ((rd_T25 l0 x5_1).f0.f19) ((rd_T25 l0 x5_1).f0.f20) ((rd_T25 l0 x5_1).f0.f21) ((rd_T25 l0 x5_1).f0.f22) ((rd_T25 l0 x5_1).f0.f23) ((rd_T25 l0 x5_1).f0.f24) ((rd_T25 l0 x5_1).f0.f25) ((rd_T25 l0 x5_1).f0.f26) ((rd_T25 l0 x5_1).f0.f27) ((rd_T25 l0 x5_1).f0.f28) ((rd_T25 l0 x5_1).f0.f29) ((rd_T25 l0 x5_1).f0.f30) ((rd_T25 l0 x5_1).f0.f31) ((rd_T25 l0 x5_1).f1) t193 _ ?side1 ?side2 A5.out).mono ?_
            (case side1 => repeat (first | exact (Kd.C_below HR0.out HB.out) | (with_reducible refine Kd.C_alloc ?_ _) | (with_reducible refine Kd.C_drewN ?_ _) | (with_reducible refine Kd.C_drew ?_)))
            (case side2 => exact HC0.out)
            rintro e w9 ⟨rfl, hb⟩
            refine ⟨_, rfl, ?_⟩
            have n0_ := Aside0.mk (below_step (by repeat (first | (with_reducible first | exact HB.out | apply below_alloc | apply pw_below_drewN | apply below_drew1) | exact HB.out)) hb)
            clear HB
            have HB := n0_
            clear n0_
            (try clear hb)
            (try clear hb2)
            (try clear hk)
            (try clear hi)
            refine hK.out _ _ (Go.Proofs.YtmoecidfmgeafaaDoor.Wide.mk33 (((HB.out.cell (World.block_lt_of_cell? w _ hw192_0)).trans hw192_0)) (((HB.out.cell (World.block_lt_of_cell? w _ hw192_1)).trans hw192_1)) (((HB.out.cell (World.block_lt_of_cell? w _ hw192_2)).trans hw192_2)) (((HB.out.cell (World.block_lt_of_cell? w _ hw192_3)).trans hw192_3)) (((HB.out.cell (World.block_lt_of_cell? w _ hw192_4)).trans hw192_4)) (((HB.out.cell (World.block_lt_of_cell? w _ hw192_5)).trans hw192_5)) (((HB.out.cell (World.block_lt_of_cell? w _ hw192_6)).trans hw192_6)) (((HB.out.cell (World.block_lt_of_cell? w _ hw192_7)).trans hw192_7)) (((HB.out.cell (World.block_lt_of_cell? w _ hw192_8)).trans hw192_8)) (((HB.out.cell (World.block_lt_of_cell? w _ hw192_9)).trans hw192_9)) (((HB.out.cell (World.block_lt_of_cell? w _ hw192_10)).trans hw192_10)) (((HB.out.cell (World.block_lt_of_cell? w _ hw192_11)).trans hw192_11)) (((HB.out.cell (World.block_lt_of_cell? w _ hw192_12)).trans hw192_12)) (((HB.out.cell (World.block_lt_of_cell? w _ hw192_13)).trans hw192_13)) (((HB.out.cell (World.block_lt_of_cell? w _ hw192_14)).trans hw192_14)) (((HB.out.cell (World.block_lt_of_cell? w _ hw192_15)).trans hw192_15)) (((HB.out.cell (World.block_lt_of_cell? w _ hw192_16)).trans hw192_16)) (((HB.out.cell (World.block_lt_of_cell? w _ hw192_17)).trans hw192_17)) (((HB.out.cell (World.block_lt_of_cell? w _ hw192_18)).trans hw192_18)) (((HB.out.cell (World.block_lt_of_cell? w _ hw192_19)).trans hw192_19)) (((HB.out.cell (World.block_lt_of_cell? w _ hw192_20)).trans hw192_20)) (((HB.out.cell (World.block_lt_of_cell? w _ hw192_21)).trans hw192_21)) (((HB.out.cell (World.block_lt_of_cell? w _ hw192_22)).trans hw192_22)) (((HB.out.cell (World.block_lt_of_cell? w _ hw192_23)).trans hw192_23)) (((HB.out.cell (World.block_lt_of_cell? w _ hw192_24)).trans hw192_24)) (((HB.out.cell (World.block_lt_of_cell? w _ hw192_25)).trans hw192_25)) (((HB.out.cell (World.block_lt_of_cell? w _ hw192_26)).trans hw192_26)) (((HB.out.cell (World.block_lt_of_cell? w _ hw192_27)).trans hw192_27)) (((HB.out.cell (World.block_lt_of_cell? w _ hw192_28)).trans hw192_28)) (((HB.out.cell (World.block_lt_of_cell? w _ hw192_29)).trans hw192_29)) (((HB.out.cell (World.block_lt_of_cell? w _ hw192_30)).trans hw192_30)) (((HB.out.cell (World.block_lt_of_cell? w _ hw192_31)).trans hw192_31)) (((HB.out.cell (World.block_lt_of_cell? w _ hw192_32)).trans hw192_32))) (fun hHeld => ?_)
            clear hK K
            refine norm_ (a' := ?_) ?_ ?_
            rotate_left
            · show Act.put _ (some 17) _ = _
              simp only [Act.put, List.setIfInBounds_toArray, List.set_cons_zero, List.set_cons_succ, i64_w, i32_w]
              rfl
            refine one_ (i := 11) (N := some 23) #[true, true, true, true, true, true, true, true, true, true, true, true, false] rfl rfl (one_of HT_.out (by kernel_rfl)) (by decide) (fun K hK => ?_)
            refine goes_ Tryd.func21 (by kernel_rfl) rfl #[.slice A1 l1.length c1, .agg #[.int .u8 ((rd_T25 l0 x5_1).f0.f0), .int .u8 ((rd_T25 l0 x5_1).f0.f1), .int .u8 ((rd_T25 l0 x5_1).f0.f2), .int .u8 ((rd_T25 l0 x5_1).f0.f3), .int .u8 ((rd_T25 l0 x5_1).f0.f4), .int .u8 ((rd_T25 l0 x5_1).f0.f5), .int .u8 ((rd_T25 l0 x5_1).f0.f6), .int .u8 ((rd_T25 l0 x5_1).f0.f7), .int .u8 ((rd_T25 l0 x5_1).f0.f8), .int .u8 ((rd_T25 l0 x5_1).f0.f9), .int .u8 ((rd_T25 l0 x5_1).f0.f10), .int .u8 ((rd_T25 l0 x5_1).f0.f11), .int .u8 ((rd_T25 l0 x5_1).f0.f12), .int .u8 ((rd_T25 l0 x5_1).f0.f13), .int .u8 ((rd_T25 l0 x5_1).f0.f14), .int .u8 ((rd_T25 l0 x5_1).f0.f15), .int .u8 ((rd_T25 l0 x5_1).f0.f16), .int .u8 ((rd_T25 l0 x5_1).f0.f17), .int .u8 ((rd_T25 l0 x5_1).f0.f18), .int .u8 ((rd_T25 l0 x5_1).f0.f19), .int .u8 ((rd_T25 l0 x5_1).f0.f20), .int .u8 ((rd_T25 l0 x5_1).f0.f21), .int .u8 ((rd_T25 l0 x5_1).f0.f22), .int .u8 ((rd_T25 l0 x5_1).f0.f23), .int .u8 ((rd_T25 l0 x5_1).f0.f24), .int .u8 ((rd_T25 l0 x5_1).f0.f25), .int .u8 ((rd_T25 l0 x5_1).f0.f26), .int .u8 ((rd_T25 l0 x5_1).f0.f27), .int .u8 ((rd_T25 l0 x5_1).f0.f28), .int .u8 ((rd_T25 l0 x5_1).f0.f29), .int .u8 ((rd_T25 l0 x5_1).f0.f30), .int .u8 ((rd_T25 l0 x5_1).f0.f31), .int .i64 ((rd_T25 l0 x5_1).f1)]] (by rfl) rfl rfl (by (try simp only [List.map_toArray, List.map_cons, List.map_nil]); first | done | rfl | (simp only [List.length_drop, List.length_take]; rfl)) ?_
            with_reducible refine (coracleref1_Times.calls k1 _ _ l1 ((rd_T25 l0 x5_1).f0.f0) ((rd_T25 l0 x5_1).f0.f1) ((rd_T25 l0 x5_1).f0.f2) ((rd_T25 l0 x5_1).f0.f3) ((rd_T25 l0 x5_1).f0.f4) ((rd_T25 l0 x5_1).f0.f5) ((rd_T25 l0 x5_1).f0.f6) ((rd_T25 l0 x5_1).f0.f7) ((rd_T25 l0 x5_1).f0.f8) ((rd_T25 l0 x5_1).f0.f9) ((rd_T25 l0 x5_1).f0.f10) ((rd_T25 l0 x5_1).f0.f11) ((rd_T25 l0 x5_1).f0.f12) ((rd_T25 l0 x5_1).f0.f13) ((rd_T25 l0 x5_1).f0.f14) ((rd_T25 l0 x5_1).f0.f15) ((rd_T25 l0 x5_1).f0.f16) ((rd_T25 l0 x5_1).f0.f17) ((rd_T25 l0 x5_1).f0.f18) ((rd_T25 l0 x5_1).f0.f19) ((rd_T25 l0 x5_1).f0.f20) ((rd_T25 l0 x5_1).f0.f21) ((rd_T25 l0 x5_1).f0.f22) ((rd_T25 l0 x5_1).f0.f23) ((rd_T25 l0 x5_1).f0.f24) ((rd_T25 l0 x5_1).f0.f25) ((rd_T25 l0 x5_1).f0.f26) ((rd_T25 l0 x5_1).f0.f27) ((rd_T25 l0 x5_1).f0.f28) ((rd_T25 l0 x5_1).f0.f29) ((rd_T25 l0 x5_1).f0.f30) ((rd_T25 l0 x5_1).f0.f31) ((rd_T25 l0 x5_1).f1) t195 _ ?side1 ?side2 A6.out).mono ?_
            (case side1 => repeat (first | exact (Kd.C_below HR1.out HB.out) | (with_reducible refine Kd.C_alloc ?_ _) | (with_reducible refine Kd.C_drewN ?_ _) | (with_reducible refine Kd.C_drew ?_)))
            (case side2 => exact HC1.out)
            rintro e w10 ⟨rfl, hb⟩
            refine ⟨_, rfl, ?_⟩
            have n0_ := Aside0.mk (below_step (by repeat (first | (with_reducible first | exact HB.out | apply below_alloc | apply pw_below_drewN | apply below_drew1) | exact HB.out)) hb)
            clear HB
            have HB := n0_
            clear n0_
            (try clear hb)
            (try clear hb2)
            (try clear hk)
            (try clear hi)
            refine hK.out _ _ (Go.Proofs.YtmoecidfmgeafaaDoor.Wide.mk33 (((HB.out.cell (World.block_lt_of_cell? w _ hw192_0)).trans hw192_0)) (((HB.out.cell (World.block_lt_of_cell? w _ hw192_1)).trans hw192_1)) (((HB.out.cell (World.block_lt_of_cell? w _ hw192_2)).trans hw192_2)) (((HB.out.cell (World.block_lt_of_cell? w _ hw192_3)).trans hw192_3)) (((HB.out.cell (World.block_lt_of_cell? w _ hw192_4)).trans hw192_4)) (((HB.out.cell (World.block_lt_of_cell? w _ hw192_5)).trans hw192_5)) (((HB.out.cell (World.block_lt_of_cell? w _ hw192_6)).trans hw192_6)) (((HB.out.cell (World.block_lt_of_cell? w _ hw192_7)).trans hw192_7)) (((HB.out.cell (World.block_lt_of_cell? w _ hw192_8)).trans hw192_8)) (((HB.out.cell (World.block_lt_of_cell? w _ hw192_9)).trans hw192_9)) (((HB.out.cell (World.block_lt_of_cell? w _ hw192_10)).trans hw192_10)) (((HB.out.cell (World.block_lt_of_cell? w _ hw192_11)).trans hw192_11)) (((HB.out.cell (World.block_lt_of_cell? w _ hw192_12)).trans hw192_12)) (((HB.out.cell (World.block_lt_of_cell? w _ hw192_13)).trans hw192_13)) (((HB.out.cell (World.block_lt_of_cell? w _ hw192_14)).trans hw192_14)) (((HB.out.cell (World.block_lt_of_cell? w _ hw192_15)).trans hw192_15)) (((HB.out.cell (World.block_lt_of_cell? w _ hw192_16)).trans hw192_16)) (((HB.out.cell (World.block_lt_of_cell? w _ hw192_17)).trans hw192_17)) (((HB.out.cell (World.block_lt_of_cell? w _ hw192_18)).trans hw192_18)) (((HB.out.cell (World.block_lt_of_cell? w _ hw192_19)).trans hw192_19)) (((HB.out.cell (World.block_lt_of_cell? w _ hw192_20)).trans hw192_20)) (((HB.out.cell (World.block_lt_of_cell? w _ hw192_21)).trans hw192_21)) (((HB.out.cell (World.block_lt_of_cell? w _ hw192_22)).trans hw192_22)) (((HB.out.cell (World.block_lt_of_cell? w _ hw192_23)).trans hw192_23)) (((HB.out.cell (World.block_lt_of_cell? w _ hw192_24)).trans hw192_24)) (((HB.out.cell (World.block_lt_of_cell? w _ hw192_25)).trans hw192_25)) (((HB.out.cell (World.block_lt_of_cell? w _ hw192_26)).trans hw192_26)) (((HB.out.cell (World.block_lt_of_cell? w _ hw192_27)).trans hw192_27)) (((HB.out.cell (World.block_lt_of_cell? w _ hw192_28)).trans hw192_28)) (((HB.out.cell (World.block_lt_of_cell? w _ hw192_29)).trans hw192_29)) (((HB.out.cell (World.block_lt_of_cell? w _ hw192_30)).trans hw192_30)) (((HB.out.cell (World.block_lt_of_cell? w _ hw192_31)).trans hw192_31)) (((HB.out.cell (World.block_lt_of_cell? w _ hw192_32)).trans hw192_32))) (fun hHeld => ?_)
            clear hK K
            refine norm_ (a' := ?_) ?_ ?_
            rotate_left
            · show Act.put _ (some 23) _ = _
              simp only [Act.put, List.setIfInBounds_toArray, List.set_cons_zero, List.set_cons_succ, i64_w, i32_w]
              rfl
            refine pure_ (i := 12) (N := some 24) (v := ?_) (a' := ?_) #[true, true, true, true, true, true, true, true, true, true, true, true, true] rfl rfl (any_of HT_.out (by kernel_rfl)) (fun _ _ _ h => h) (Or.inl ⟨by rfl, ?_⟩) ?_ ?_
            rotate_left
            · intro w'
              go_simp
              with_reducible rfl
            rotate_left
            · simp only [Act.put, List.setIfInBounds_toArray, List.set_cons_zero, List.set_cons_succ, i64_w, i32_w]
              rfl
            refine done_ (done_of HT_.out (by kernel_rfl)) ?_
            try go_wp2
            go_roundg k1
            case measure => have := HK1.out; omega
            case rel => exact ⟨(wrap64 (x5_1 + 1)), (by first | rfl | (simp; done) | (simp [*]; done)), H', ⟨by have := HK1.out; omega⟩, ⟨by repeat (first | (with_reducible first | exact HB.out | apply below_alloc | apply pw_below_drewN | apply below_drew1) | exact HB.out)⟩⟩
          · rw [if_neg c7] at H
            have c7b0 : (t193 == t195) = false := beq_eq_false_iff_ne.mpr c7
            have c7b1 : (t193 != t195) = true := bne_iff_ne.mpr c7
            obtain rfl := Option.some.inj H
            try go_wp2
            have n0_ := Aside0.mk (below_drew1 HB.out)
            clear HB
            have HB := n0_
            clear n0_
            have p192 : 0 ≤ (x5_1 : Int) := of_decide_eq_true (by first | (with_reducible assumption) | assumption)
            have q192 : x5_1 < (l0.length : Int) := of_decide_eq_true (by first | (with_reducible assumption) | assumption)
            obtain ⟨ad192, e192, hx192_0, hx192_1, hx192_2, hx192_3, hx192_4, hx192_5, hx192_6, hx192_7, hx192_8, hx192_9, hx192_10, hx192_11, hx192_12, hx192_13, hx192_14, hx192_15, hx192_16, hx192_17, hx192_18, hx192_19, hx192_20, hx192_21, hx192_22, hx192_23, hx192_24, hx192_25, hx192_26, hx192_27, hx192_28, hx192_29, hx192_30, hx192_31, hx192_32⟩ := at_T25 HR0.out x5_1 p192 q192
            have hw192_0_32 := Go.Proofs.YtmoecidfmgeafaaDoor.Wide.mk32 hx192_0 hx192_1 hx192_2 hx192_3 hx192_4 hx192_5 hx192_6 hx192_7 hx192_8 hx192_9 hx192_10 hx192_11 hx192_12 hx192_13 hx192_14 hx192_15 hx192_16 hx192_17 hx192_18 hx192_19 hx192_20 hx192_21 hx192_22 hx192_23 hx192_24 hx192_25 hx192_26 hx192_27 hx192_28 hx192_29 hx192_30 hx192_31
            have hw192_0_33 := Go.Proofs.YtmoecidfmgeafaaDoor.Wide.mk33 hx192_0 hx192_1 hx192_2 hx192_3 hx192_4 hx192_5 hx192_6 hx192_7 hx192_8 hx192_9 hx192_10 hx192_11 hx192_12 hx192_13 hx192_14 hx192_15 hx192_16 hx192_17 hx192_18 hx192_19 hx192_20 hx192_21 hx192_22 hx192_23 hx192_24 hx192_25 hx192_26 hx192_27 hx192_28 hx192_29 hx192_30 hx192_31 hx192_32
            have hw192_32 := hx192_32
            have hw192_31 := hx192_31
            have hw192_30 := hx192_30
            have hw192_29 := hx192_29
            have hw192_28 := hx192_28
            have hw192_27 := hx192_27
            have hw192_26 := hx192_26
            have hw192_25 := hx192_25
            have hw192_24 := hx192_24
            have hw192_23 := hx192_23
            have hw192_22 := hx192_22
            have hw192_21 := hx192_21
            have hw192_20 := hx192_20
            have hw192_19 := hx192_19
            have hw192_18 := hx192_18
            have hw192_17 := hx192_17
            have hw192_16 := hx192_16
            have hw192_15 := hx192_15
            have hw192_14 := hx192_14
            have hw192_13 := hx192_13
            have hw192_12 := hx192_12
            have hw192_11 := hx192_11
            have hw192_10 := hx192_10
            have hw192_9 := hx192_9
            have hw192_8 := hx192_8
            have hw192_7 := hx192_7
            have hw192_6 := hx192_6
            have hw192_5 := hx192_5
            have hw192_4 := hx192_4
            have hw192_3 := hx192_3
            have hw192_2 := hx192_2
            have hw192_1 := hx192_1
            have hw192_0 := hx192_0
            cases e192
            replace hx192_0 := (HB.out.cell (World.block_lt_of_cell? w _ hx192_0)).trans hx192_0
            replace hx192_1 := (HB.out.cell (World.block_lt_of_cell? w _ hx192_1)).trans hx192_1
            replace hx192_2 := (HB.out.cell (World.block_lt_of_cell? w _ hx192_2)).trans hx192_2
            replace hx192_3 := (HB.out.cell (World.block_lt_of_cell? w _ hx192_3)).trans hx192_3
            replace hx192_4 := (HB.out.cell (World.block_lt_of_cell? w _ hx192_4)).trans hx192_4
            replace hx192_5 := (HB.out.cell (World.block_lt_of_cell? w _ hx192_5)).trans hx192_5
            replace hx192_6 := (HB.out.cell (World.block_lt_of_cell? w _ hx192_6)).trans hx192_6
            replace hx192_7 := (HB.out.cell (World.block_lt_of_cell? w _ hx192_7)).trans hx192_7
            replace hx192_8 := (HB.out.cell (World.block_lt_of_cell? w _ hx192_8)).trans hx192_8
            replace hx192_9 := (HB.out.cell (World.block_lt_of_cell? w _ hx192_9)).trans hx192_9
            replace hx192_10 := (HB.out.cell (World.block_lt_of_cell? w _ hx192_10)).trans hx192_10
            replace hx192_11 := (HB.out.cell (World.block_lt_of_cell? w _ hx192_11)).trans hx192_11
            replace hx192_12 := (HB.out.cell (World.block_lt_of_cell? w _ hx192_12)).trans hx192_12
            replace hx192_13 := (HB.out.cell (World.block_lt_of_cell? w _ hx192_13)).trans hx192_13
            replace hx192_14 := (HB.out.cell (World.block_lt_of_cell? w _ hx192_14)).trans hx192_14
            replace hx192_15 := (HB.out.cell (World.block_lt_of_cell? w _ hx192_15)).trans hx192_15
            replace hx192_16 := (HB.out.cell (World.block_lt_of_cell? w _ hx192_16)).trans hx192_16
            replace hx192_17 := (HB.out.cell (World.block_lt_of_cell? w _ hx192_17)).trans hx192_17
            replace hx192_18 := (HB.out.cell (World.block_lt_of_cell? w _ hx192_18)).trans hx192_18
            replace hx192_19 := (HB.out.cell (World.block_lt_of_cell? w _ hx192_19)).trans hx192_19
            replace hx192_20 := (HB.out.cell (World.block_lt_of_cell? w _ hx192_20)).trans hx192_20
            replace hx192_21 := (HB.out.cell (World.block_lt_of_cell? w _ hx192_21)).trans hx192_21
            replace hx192_22 := (HB.out.cell (World.block_lt_of_cell? w _ hx192_22)).trans hx192_22
            replace hx192_23 := (HB.out.cell (World.block_lt_of_cell? w _ hx192_23)).trans hx192_23
            replace hx192_24 := (HB.out.cell (World.block_lt_of_cell? w _ hx192_24)).trans hx192_24
            replace hx192_25 := (HB.out.cell (World.block_lt_of_cell? w _ hx192_25)).trans hx192_25
            replace hx192_26 := (HB.out.cell (World.block_lt_of_cell? w _ hx192_26)).trans hx192_26
            replace hx192_27 := (HB.out.cell (World.block_lt_of_cell? w _ hx192_27)).trans hx192_27
            replace hx192_28 := (HB.out.cell (World.block_lt_of_cell? w _ hx192_28)).trans hx192_28
            replace hx192_29 := (HB.out.cell (World.block_lt_of_cell? w _ hx192_29)).trans hx192_29
            replace hx192_30 := (HB.out.cell (World.block_lt_of_cell? w _ hx192_30)).trans hx192_30
            replace hx192_31 := (HB.out.cell (World.block_lt_of_cell? w _ hx192_31)).trans hx192_31
            replace hx192_32 := (HB.out.cell (World.block_lt_of_cell? w _ hx192_32)).trans hx192_32
            replace p192 := eq_true p192
            replace q192 := eq_true q192
            have p194 : 0 ≤ (x5_1 : Int) := of_decide_eq_true (by first | (with_reducible assumption) | assumption)
            have q194 : x5_1 < (l0.length : Int) := of_decide_eq_true (by first | (with_reducible assumption) | assumption)
            obtain ⟨ad194, e194, hx194_0, hx194_1, hx194_2, hx194_3, hx194_4, hx194_5, hx194_6, hx194_7, hx194_8, hx194_9, hx194_10, hx194_11, hx194_12, hx194_13, hx194_14, hx194_15, hx194_16, hx194_17, hx194_18, hx194_19, hx194_20, hx194_21, hx194_22, hx194_23, hx194_24, hx194_25, hx194_26, hx194_27, hx194_28, hx194_29, hx194_30, hx194_31, hx194_32⟩ := at_T25 HR0.out x5_1 p194 q194
            have hw194_0_32 := Go.Proofs.YtmoecidfmgeafaaDoor.Wide.mk32 hx194_0 hx194_1 hx194_2 hx194_3 hx194_4 hx194_5 hx194_6 hx194_7 hx194_8 hx194_9 hx194_10 hx194_11 hx194_12 hx194_13 hx194_14 hx194_15 hx194_16 hx194_17 hx194_18 hx194_19 hx194_20 hx194_21 hx194_22 hx194_23 hx194_24 hx194_25 hx194_26 hx194_27 hx194_28 hx194_29 hx194_30 hx194_31
            have hw194_0_33 := Go.Proofs.YtmoecidfmgeafaaDoor.Wide.mk33 hx194_0 hx194_1 hx194_2 hx194_3 hx194_4 hx194_5 hx194_6 hx194_7 hx194_8 hx194_9 hx194_10 hx194_11 hx194_12 hx194_13 hx194_14 hx194_15 hx194_16 hx194_17 hx194_18 hx194_19 hx194_20 hx194_21 hx194_22 hx194_23 hx194_24 hx194_25 hx194_26 hx194_27 hx194_28 hx194_29 hx194_30 hx194_31 hx194_32
            have hw194_32 := hx194_32
            have hw194_31 := hx194_31
            have hw194_30 := hx194_30
            have hw194_29 := hx194_29
            have hw194_28 := hx194_28
            have hw194_27 := hx194_27
            have hw194_26 := hx194_26
            have hw194_25 := hx194_25
            have hw194_24 := hx194_24
            have hw194_23 := hx194_23
            have hw194_22 := hx194_22
            have hw194_21 := hx194_21
            have hw194_20 := hx194_20
            have hw194_19 := hx194_19
            have hw194_18 := hx194_18
            have hw194_17 := hx194_17
            have hw194_16 := hx194_16
            have hw194_15 := hx194_15
            have hw194_14 := hx194_14
            have hw194_13 := hx194_13
            have hw194_12 := hx194_12
            have hw194_11 := hx194_11
            have hw194_10 := hx194_10
            have hw194_9 := hx194_9
            have hw194_8 := hx194_8
            have hw194_7 := hx194_7
            have hw194_6 := hx194_6
            have hw194_5 := hx194_5
            have hw194_4 := hx194_4
            have hw194_3 := hx194_3
            have hw194_2 := hx194_2
            have hw194_1 := hx194_1
            have hw194_0 := hx194_0
            obtain rfl : ad192 = ad194 := (by injection e194)
            replace hx194_0 := (HB.out.cell (World.block_lt_of_cell? w _ hx194_0)).trans hx194_0
            replace hx194_1 := (HB.out.cell (World.block_lt_of_cell? w _ hx194_1)).trans hx194_1
            replace hx194_2 := (HB.out.cell (World.block_lt_of_cell? w _ hx194_2)).trans hx194_2
            replace hx194_3 := (HB.out.cell (World.block_lt_of_cell? w _ hx194_3)).trans hx194_3
            replace hx194_4 := (HB.out.cell (World.block_lt_of_cell? w _ hx194_4)).trans hx194_4
            replace hx194_5 := (HB.out.cell (World.block_lt_of_cell? w _ hx194_5)).trans hx194_5
            replace hx194_6 := (HB.out.cell (World.block_lt_of_cell? w _ hx194_6)).trans hx194_6
            replace hx194_7 := (HB.out.cell (World.block_lt_of_cell? w _ hx194_7)).trans hx194_7
            replace hx194_8 := (HB.out.cell (World.block_lt_of_cell? w _ hx194_8)).trans hx194_8
            replace hx194_9 := (HB.out.cell (World.block_lt_of_cell? w _ hx194_9)).trans hx194_9
            replace hx194_10 := (HB.out.cell (World.block_lt_of_cell? w _ hx194_10)).trans hx194_10
            replace hx194_11 := (HB.out.cell (World.block_lt_of_cell? w _ hx194_11)).trans hx194_11
            replace hx194_12 := (HB.out.cell (World.block_lt_of_cell? w _ hx194_12)).trans hx194_12
            replace hx194_13 := (HB.out.cell (World.block_lt_of_cell? w _ hx194_13)).trans hx194_13
            replace hx194_14 := (HB.out.cell (World.block_lt_of_cell? w _ hx194_14)).trans hx194_14
            replace hx194_15 := (HB.out.cell (World.block_lt_of_cell? w _ hx194_15)).trans hx194_15
            replace hx194_16 := (HB.out.cell (World.block_lt_of_cell? w _ hx194_16)).trans hx194_16
            replace hx194_17 := (HB.out.cell (World.block_lt_of_cell? w _ hx194_17)).trans hx194_17
            replace hx194_18 := (HB.out.cell (World.block_lt_of_cell? w _ hx194_18)).trans hx194_18
            replace hx194_19 := (HB.out.cell (World.block_lt_of_cell? w _ hx194_19)).trans hx194_19
            replace hx194_20 := (HB.out.cell (World.block_lt_of_cell? w _ hx194_20)).trans hx194_20
            replace hx194_21 := (HB.out.cell (World.block_lt_of_cell? w _ hx194_21)).trans hx194_21
            replace hx194_22 := (HB.out.cell (World.block_lt_of_cell? w _ hx194_22)).trans hx194_22
            replace hx194_23 := (HB.out.cell (World.block_lt_of_cell? w _ hx194_23)).trans hx194_23
            replace hx194_24 := (HB.out.cell (World.block_lt_of_cell? w _ hx194_24)).trans hx194_24
            replace hx194_25 := (HB.out.cell (World.block_lt_of_cell? w _ hx194_25)).trans hx194_25
            replace hx194_26 := (HB.out.cell (World.block_lt_of_cell? w _ hx194_26)).trans hx194_26
            replace hx194_27 := (HB.out.cell (World.block_lt_of_cell? w _ hx194_27)).trans hx194_27
            replace hx194_28 := (HB.out.cell (World.block_lt_of_cell? w _ hx194_28)).trans hx194_28
            replace hx194_29 := (HB.out.cell (World.block_lt_of_cell? w _ hx194_29)).trans hx194_29
            replace hx194_30 := (HB.out.cell (World.block_lt_of_cell? w _ hx194_30)).trans hx194_30
            replace hx194_31 := (HB.out.cell (World.block_lt_of_cell? w _ hx194_31)).trans hx194_31
            replace hx194_32 := (HB.out.cell (World.block_lt_of_cell? w _ hx194_32)).trans hx194_32
            replace p194 := eq_true p194
            replace q194 := eq_true q194
            refine start_ (n := 13) (S := fun w' => Go.Proofs.YtmoecidfmgeafaaDoor.Wide.cellsAt w' (ad192.add ((x5_1).toNat * 33)) 33 = some (.int .u8 ((rd_T25 l0 x5_1).f0.f0) :: .int .u8 ((rd_T25 l0 x5_1).f0.f1) :: .int .u8 ((rd_T25 l0 x5_1).f0.f2) :: .int .u8 ((rd_T25 l0 x5_1).f0.f3) :: .int .u8 ((rd_T25 l0 x5_1).f0.f4) :: .int .u8 ((rd_T25 l0 x5_1).f0.f5) :: .int .u8 ((rd_T25 l0 x5_1).f0.f6) :: .int .u8 ((rd_T25 l0 x5_1).f0.f7) :: .int .u8 ((rd_T25 l0 x5_1).f0.f8) :: .int .u8 ((rd_T25 l0 x5_1).f0.f9) :: .int .u8 ((rd_T25 l0 x5_1).f0.f10) :: .int .u8 ((rd_T25 l0 x5_1).f0.f11) :: .int .u8 ((rd_T25 l0 x5_1).f0.f12) :: .int .u8 ((rd_T25 l0 x5_1).f0.f13) :: .int .u8 ((rd_T25 l0 x5_1).f0.f14) :: .int .u8 ((rd_T25 l0 x5_1).f0.f15) :: .int .u8 ((rd_T25 l0 x5_1).f0.f16) :: .int .u8 ((rd_T25 l0 x5_1).f0.f17) :: .int .u8 ((rd_T25 l0 x5_1).f0.f18) :: .int .u8 ((rd_T25 l0 x5_1).f0.f19) :: .int .u8 ((rd_T25 l0 x5_1).f0.f20) :: .int .u8 ((rd_T25 l0 x5_1).f0.f21) :: .int .u8 ((rd_T25 l0 x5_1).f0.f22) :: .int .u8 ((rd_T25 l0 x5_1).f0.f23) :: .int .u8 ((rd_T25 l0 x5_1).f0.f24) :: .int .u8 ((rd_T25 l0 x5_1).f0.f25) :: .int .u8 ((rd_T25 l0 x5_1).f0.f26) :: .int .u8 ((rd_T25 l0 x5_1).f0.f27) :: .int .u8 ((rd_T25 l0 x5_1).f0.f28) :: .int .u8 ((rd_T25 l0 x5_1).f0.f29) :: .int .u8 ((rd_T25 l0 x5_1).f0.f30) :: .int .u8 ((rd_T25 l0 x5_1).f0.f31) :: .int .i64 ((rd_T25 l0 x5_1).f1) :: [])) (ds := []) #[false, false, false, false, false, false, false, false, false, false, false, false, false] (by kernel_rfl) rfl rfl (Go.Proofs.YtmoecidfmgeafaaDoor.Wide.mk33 (((HB.out.cell (World.block_lt_of_cell? w _ hw192_0)).trans hw192_0)) (((HB.out.cell (World.block_lt_of_cell? w _ hw192_1)).trans hw192_1)) (((HB.out.cell (World.block_lt_of_cell? w _ hw192_2)).trans hw192_2)) (((HB.out.cell (World.block_lt_of_cell? w _ hw192_3)).trans hw192_3)) (((HB.out.cell (World.block_lt_of_cell? w _ hw192_4)).trans hw192_4)) (((HB.out.cell (World.block_lt_of_cell? w _ hw192_5)).trans hw192_5)) (((HB.out.cell (World.block_lt_of_cell? w _ hw192_6)).trans hw192_6)) (((HB.out.cell (World.block_lt_of_cell? w _ hw192_7)).trans hw192_7)) (((HB.out.cell (World.block_lt_of_cell? w _ hw192_8)).trans hw192_8)) (((HB.out.cell (World.block_lt_of_cell? w _ hw192_9)).trans hw192_9)) (((HB.out.cell (World.block_lt_of_cell? w _ hw192_10)).trans hw192_10)) (((HB.out.cell (World.block_lt_of_cell? w _ hw192_11)).trans hw192_11)) (((HB.out.cell (World.block_lt_of_cell? w _ hw192_12)).trans hw192_12)) (((HB.out.cell (World.block_lt_of_cell? w _ hw192_13)).trans hw192_13)) (((HB.out.cell (World.block_lt_of_cell? w _ hw192_14)).trans hw192_14)) (((HB.out.cell (World.block_lt_of_cell? w _ hw192_15)).trans hw192_15)) (((HB.out.cell (World.block_lt_of_cell? w _ hw192_16)).trans hw192_16)) (((HB.out.cell (World.block_lt_of_cell? w _ hw192_17)).trans hw192_17)) (((HB.out.cell (World.block_lt_of_cell? w _ hw192_18)).trans hw192_18)) (((HB.out.cell (World.block_lt_of_cell? w _ hw192_19)).trans hw192_19)) (((HB.out.cell (World.block_lt_of_cell? w _ hw192_20)).trans hw192_20)) (((HB.out.cell (World.block_lt_of_cell? w _ hw192_21)).trans hw192_21)) (((HB.out.cell (World.block_lt_of_cell? w _ hw192_22)).trans hw192_22)) (((HB.out.cell (World.block_lt_of_cell? w _ hw192_23)).trans hw192_23)) (((HB.out.cell (World.block_lt_of_cell? w _ hw192_24)).trans hw192_24)) (((HB.out.cell (World.block_lt_of_cell? w _ hw192_25)).trans hw192_25)) (((HB.out.cell (World.block_lt_of_cell? w _ hw192_26)).trans hw192_26)) (((HB.out.cell (World.block_lt_of_cell? w _ hw192_27)).trans hw192_27)) (((HB.out.cell (World.block_lt_of_cell? w _ hw192_28)).trans hw192_28)) (((HB.out.cell (World.block_lt_of_cell? w _ hw192_29)).trans hw192_29)) (((HB.out.cell (World.block_lt_of_cell? w _ hw192_30)).trans hw192_30)) (((HB.out.cell (World.block_lt_of_cell? w _ hw192_31)).trans hw192_31)) (((HB.out.cell (World.block_lt_of_cell? w _ hw192_32)).trans hw192_32))) (fun hHeld => ?_); refine with_tabW coracleref1_Alike.tab4 coracleref1_Alike.bits4 (fun HT_ HW_ => ?_)
            generalize wr.drew = w11 at HB hx192_0 hx192_1 hx192_10 hx192_11 hx192_12 hx192_13 hx192_14 hx192_15 hx192_16 hx192_17 hx192_18 hx192_19 hx192_2 hx192_20 hx192_21 hx192_22 hx192_23 hx192_24 hx192_25 hx192_26 hx192_27 hx192_28 hx192_29 hx192_3 hx192_30 hx192_31 hx192_32 hx192_4 hx192_5 hx192_6 hx192_7 hx192_8 hx192_9 hx194_0 hx194_1 hx194_10 hx194_11 hx194_12 hx194_13 hx194_14 hx194_15 hx194_16 hx194_17 hx194_18 hx194_19 hx194_2 hx194_20 hx194_21 hx194_22 hx194_23 hx194_24 hx194_25 hx194_26 hx194_27 hx194_28 hx194_29 hx194_3 hx194_30 hx194_31 hx194_32 hx194_4 hx194_5 hx194_6 hx194_7 hx194_8 hx194_9 hHeld ⊢
            refine pure_ (i := 0) (N := some 12) (v := ?_) (a' := ?_) #[true, false, false, false, false, false, false, false, false, false, false, false, false] rfl rfl (any_of HT_.out (by kernel_rfl)) (fun _ _ _ h => h) (Or.inl ⟨by rfl, ?_⟩) ?_ ?_
            rotate_left
            · intro w'
              go_simp
              with_reducible rfl
            rotate_left
            · simp only [Act.put, List.setIfInBounds_toArray, List.set_cons_zero, List.set_cons_succ, i64_w, i32_w]
              rfl
            refine pure_ (i := 1) (N := some 13) (v := ?_) (a' := ?_) #[true, true, false, false, false, false, false, false, false, false, false, false, false] rfl rfl (any_of HT_.out (by kernel_rfl)) (fun _ _ _ h => h) (Or.inl ⟨by rfl, ?_⟩) ?_ ?_
            rotate_left
            · intro w'
              go_simp
              with_reducible rfl
            rotate_left
            · simp only [Act.put, List.setIfInBounds_toArray, List.set_cons_zero, List.set_cons_succ, i64_w, i32_w]
              rfl
            refine pure_ (i := 2) (N := some 14) (v := ?_) (a' := ?_) #[true, true, true, false, false, false, false, false, false, false, false, false, false] rfl rfl (any_of HT_.out (by kernel_rfl)) (fun _ _ _ h => h) (Or.inl ⟨by rfl, ?_⟩) ?_ ?_
            rotate_left
            · intro w'
              go_simp
              with_reducible rfl
            rotate_left
            · simp only [Act.put, List.setIfInBounds_toArray, List.set_cons_zero, List.set_cons_succ, i64_w, i32_w]
              rfl
            refine pure_ (i := 3) (N := some 15) (v := ?_) (a' := ?_) #[true, true, true, true, false, false, false, false, false, false, false, false, false] rfl rfl (any_of HT_.out (by kernel_rfl)) (fun _ _ _ h => h) (Or.inl ⟨by rfl, ?_⟩) ?_ ?_
            rotate_left
            · intro w'
              go_simp
              with_reducible rfl
            rotate_left
            · simp only [Act.put, List.setIfInBounds_toArray, List.set_cons_zero, List.set_cons_succ, i64_w, i32_w]
              rfl
            refine pure_ (i := 6) (N := some 18) (v := ?_) (a' := ?_) #[true, true, true, true, false, false, true, false, false, false, false, false, false] rfl rfl (any_of HT_.out (by kernel_rfl)) (fun _ _ _ h => h) (Or.inl ⟨by rfl, ?_⟩) ?_ ?_
            rotate_left
            · intro w'
              go_simp
              with_reducible rfl
            rotate_left
            · simp only [Act.put, List.setIfInBounds_toArray, List.set_cons_zero, List.set_cons_succ, i64_w, i32_w]
              rfl
            refine pure_ (i := 7) (N := some 19) (v := ?_) (a' := ?_) #[true, true, true, true, false, false, true, true, false, false, false, false, false] rfl rfl (any_of HT_.out (by kernel_rfl)) (fun _ _ _ h => h) (Or.inl ⟨by rfl, ?_⟩) ?_ ?_
            rotate_left
            · intro w'
              go_simp
              with_reducible rfl
            rotate_left
            · simp only [Act.put, List.setIfInBounds_toArray, List.set_cons_zero, List.set_cons_succ, i64_w, i32_w]
              rfl
            refine pure_ (i := 8) (N := some 20) (v := ?_) (a' := ?_) #[true, true, true, true, false, false, true, true, true, false, false, false, false] rfl rfl (any_of HT_.out (by kernel_rfl)) (fun _ _ _ h => h) (Or.inl ⟨by rfl, ?_⟩) ?_ ?_
            rotate_left
            · intro w'
              go_simp
              with_reducible rfl
            rotate_left
            · simp only [Act.put, List.setIfInBounds_toArray, List.set_cons_zero, List.set_cons_succ, i64_w, i32_w]
              rfl
            refine pure_ (i := 9) (N := some 21) (v := ?_) (a' := ?_) #[true, true, true, true, false, false, true, true, true, true, false, false, false] rfl rfl (any_of HT_.out (by kernel_rfl)) (fun _ _ _ h => h) (Or.inl ⟨by rfl, ?_⟩) ?_ ?_
            rotate_left
            · intro w'
              go_simp
              with_reducible rfl
            rotate_left
            · simp only [Act.put, List.setIfInBounds_toArray, List.set_cons_zero, List.set_cons_succ, i64_w, i32_w]
              rfl
            refine take_ (i := 4) (N := some 16) (v := ?_) (a' := ?_) #[true, true, true, true, true, false, true, true, true, true, false, false, false] rfl rfl (take_ofW HT_.out HW_.out (by kernel_rfl)) (fun _ _ _ h => h) (Or.inl ⟨by rfl, ?_⟩) hHeld ?_ ?_
            rotate_left
            · rintro w' s0
              go_simp
              with_reducible rfl
            rotate_left
            · simp only [Act.put, List.setIfInBounds_toArray, List.set_cons_zero, List.set_cons_succ, i64_w, i32_w]
              rfl
            refine take_ (i := 10) (N := some 22) (v := ?_) (a' := ?_) #[true, true, true, true, true, false, true, true, true, true, true, false, false] rfl rfl (take_ofW HT_.out HW_.out (by kernel_rfl)) (fun _ _ _ h => h) (Or.inl ⟨by rfl, ?_⟩) hHeld ?_ ?_
            rotate_left
            · rintro w' s0
              go_simp
              with_reducible rfl
            rotate_left
            · simp only [Act.put, List.setIfInBounds_toArray, List.set_cons_zero, List.set_cons_succ, i64_w, i32_w]
              rfl
            refine one_ (i := 5) (N := some 17) #[true, true, true, true, true, true, true, true, true, true, true, false, false] rfl rfl (one_of HT_.out (by kernel_rfl)) (by decide) (fun K hK => ?_)
            refine goes_ Tryd.func21 (by kernel_rfl) rfl #[.slice (some ad192) l0.length c0, .agg #[.int .u8 ((rd_T25 l0 x5_1).f0.f0), .int .u8 ((rd_T25 l0 x5_1).f0.f1), .int .u8 ((rd_T25 l0 x5_1).f0.f2), .int .u8 ((rd_T25 l0 x5_1).f0.f3), .int .u8 ((rd_T25 l0 x5_1).f0.f4), .int .u8 ((rd_T25 l0 x5_1).f0.f5), .int .u8 ((rd_T25 l0 x5_1).f0.f6), .int .u8 ((rd_T25 l0 x5_1).f0.f7), .int .u8 ((rd_T25 l0 x5_1).f0.f8), .int .u8 ((rd_T25 l0 x5_1).f0.f9), .int .u8 ((rd_T25 l0 x5_1).f0.f10), .int .u8 ((rd_T25 l0 x5_1).f0.f11), .int .u8 ((rd_T25 l0 x5_1).f0.f12), .int .u8 ((rd_T25 l0 x5_1).f0.f13), .int .u8 ((rd_T25 l0 x5_1).f0.f14), .int .u8 ((rd_T25 l0 x5_1).f0.f15), .int .u8 ((rd_T25 l0 x5_1).f0.f16), .int .u8 ((rd_T25 l0 x5_1).f0.f17), .int .u8 ((rd_T25 l0 x5_1).f0.f18), .int .u8 ((rd_T25 l0 x5_1).f0.f19), .int .u8 ((rd_T25 l0 x5_1).f0.f20), .int .u8 ((rd_T25 l0 x5_1).f0.f21), .int .u8 ((rd_T25 l0 x5_1).f0.f22), .int .u8 ((rd_T25 l0 x5_1).f0.f23), .int .u8 ((rd_T25 l0 x5_1).f0.f24), .int .u8 ((rd_T25 l0 x5_1).f0.f25), .int .u8 ((rd_T25 l0 x5_1).f0.f26), .int .u8 ((rd_T25 l0 x5_1).f0.f27), .int .u8 ((rd_T25 l0 x5_1).f0.f28), .int .u8 ((rd_T25 l0 x5_1).f0.f29), .int .u8 ((rd_T25 l0 x5_1).f0.f30), .int .u8 ((rd_T25 l0 x5_1).f0.f31), .int .i64 ((rd_T25 l0 x5_1).f1)]] (by rfl) rfl rfl (by (try simp only [List.map_toArray, List.map_cons, List.map_nil]); first | done | rfl | (simp only [List.length_drop, List.length_take]; rfl)) ?_
            with_reducible refine (coracleref1_Times.calls k1 _ _ l0 ((rd_T25 l0 x5_1).f0.f0) ((rd_T25 l0 x5_1).f0.f1) ((rd_T25 l0 x5_1).f0.f2) ((rd_T25 l0 x5_1).f0.f3) ((rd_T25 l0 x5_1).f0.f4) ((rd_T25 l0 x5_1).f0.f5) ((rd_T25 l0 x5_1).f0.f6) ((rd_T25 l0 x5_1).f0.f7) ((rd_T25 l0 x5_1).f0.f8) ((rd_T25 l0 x5_1).f0.f9) ((rd_T25 l0 x5_1).f0.f10) ((rd_T25 l0 x5_1).f0.f11) ((rd_T25 l0 x5_1).f0.f12) ((rd_T25 l0 x5_1).f0.f13) ((rd_T25 l0 x5_1).f0.f14) ((rd_T25 l0 x5_1).f0.f15) ((rd_T25 l0 x5_1).f0.f16) ((rd_T25 l0 x5_1).f0.f17) ((rd_T25 l0 x5_1).f0.f18) ((rd_T25 l0 x5_1).f0.f19) ((rd_T25 l0 x5_1).f0.f20) ((rd_T25 l0 x5_1).f0.f21) ((rd_T25 l0 x5_1).f0.f22) ((rd_T25 l0 x5_1).f0.f23) ((rd_T25 l0 x5_1).f0.f24) ((rd_T25 l0 x5_1).f0.f25) ((rd_T25 l0 x5_1).f0.f26) ((rd_T25 l0 x5_1).f0.f27) ((rd_T25 l0 x5_1).f0.f28) ((rd_T25 l0 x5_1).f0.f29) ((rd_T25 l0 x5_1).f0.f30) ((rd_T25 l0 x5_1).f0.f31) ((rd_T25 l0 x5_1).f1) t193 _ ?side1 ?side2 A5.out).mono ?_
            (case side1 => repeat (first | exact (Kd.C_below HR0.out HB.out) | (with_reducible refine Kd.C_alloc ?_ _) | (with_reducible refine Kd.C_drewN ?_ _) | (with_reducible refine Kd.C_drew ?_)))
            (case side2 => exact HC0.out)
            rintro e w12 ⟨rfl, hb⟩
            refine ⟨_, rfl, ?_⟩
            have n0_ := Aside0.mk (below_step (by repeat (first | (with_reducible first | exact HB.out | apply below_alloc | apply pw_below_drewN | apply below_drew1) | exact HB.out)) hb)
            clear HB
            have HB := n0_
            clear n0_
            (try clear hb)
            (try clear hb2)
            (try clear hk)
            (try clear hi)
            refine hK.out _ _ (Go.Proofs.YtmoecidfmgeafaaDoor.Wide.mk33 (((HB.out.cell (World.block_lt_of_cell? w _ hw192_0)).trans hw192_0)) (((HB.out.cell (World.block_lt_of_cell? w _ hw192_1)).trans hw192_1)) (((HB.out.cell (World.block_lt_of_cell? w _ hw192_2)).trans hw192_2)) (((HB.out.cell (World.block_lt_of_cell? w _ hw192_3)).trans hw192_3)) (((HB.out.cell (World.block_lt_of_cell? w _ hw192_4)).trans hw192_4)) (((HB.out.cell (World.block_lt_of_cell? w _ hw192_5)).trans hw192_5)) (((HB.out.cell (World.block_lt_of_cell? w _ hw192_6)).trans hw192_6)) (((HB.out.cell (World.block_lt_of_cell? w _ hw192_7)).trans hw192_7)) (((HB.out.cell (World.block_lt_of_cell? w _ hw192_8)).trans hw192_8)) (((HB.out.cell (World.block_lt_of_cell? w _ hw192_9)).trans hw192_9)) (((HB.out.cell (World.block_lt_of_cell? w _ hw192_10)).trans hw192_10)) (((HB.out.cell (World.block_lt_of_cell? w _ hw192_11)).trans hw192_11)) (((HB.out.cell (World.block_lt_of_cell? w _ hw192_12)).trans hw192_12)) (((HB.out.cell (World.block_lt_of_cell? w _ hw192_13)).trans hw192_13)) (((HB.out.cell (World.block_lt_of_cell? w _ hw192_14)).trans hw192_14)) (((HB.out.cell (World.block_lt_of_cell? w _ hw192_15)).trans hw192_15)) (((HB.out.cell (World.block_lt_of_cell? w _ hw192_16)).trans hw192_16)) (((HB.out.cell (World.block_lt_of_cell? w _ hw192_17)).trans hw192_17)) (((HB.out.cell (World.block_lt_of_cell? w _ hw192_18)).trans hw192_18)) (((HB.out.cell (World.block_lt_of_cell? w _ hw192_19)).trans hw192_19)) (((HB.out.cell (World.block_lt_of_cell? w _ hw192_20)).trans hw192_20)) (((HB.out.cell (World.block_lt_of_cell? w _ hw192_21)).trans hw192_21)) (((HB.out.cell (World.block_lt_of_cell? w _ hw192_22)).trans hw192_22)) (((HB.out.cell (World.block_lt_of_cell? w _ hw192_23)).trans hw192_23)) (((HB.out.cell (World.block_lt_of_cell? w _ hw192_24)).trans hw192_24)) (((HB.out.cell (World.block_lt_of_cell? w _ hw192_25)).trans hw192_25)) (((HB.out.cell (World.block_lt_of_cell? w _ hw192_26)).trans hw192_26)) (((HB.out.cell (World.block_lt_of_cell? w _ hw192_27)).trans hw192_27)) (((HB.out.cell (World.block_lt_of_cell? w _ hw192_28)).trans hw192_28)) (((HB.out.cell (World.block_lt_of_cell? w _ hw192_29)).trans hw192_29)) (((HB.out.cell (World.block_lt_of_cell? w _ hw192_30)).trans hw192_30)) (((HB.out.cell (World.block_lt_of_cell? w _ hw192_31)).trans hw192_31)) (((HB.out.cell (World.block_lt_of_cell? w _ hw192_32)).trans hw192_32))) (fun hHeld => ?_)
            clear hK K
            refine norm_ (a' := ?_) ?_ ?_
            rotate_left
            · show Act.put _ (some 17) _ = _
              simp only [Act.put, List.setIfInBounds_toArray, List.set_cons_zero, List.set_cons_succ, i64_w, i32_w]
              rfl
            refine one_ (i := 11) (N := some 23) #[true, true, true, true, true, true, true, true, true, true, true, true, false] rfl rfl (one_of HT_.out (by kernel_rfl)) (by decide) (fun K hK => ?_)
            refine goes_ Tryd.func21 (by kernel_rfl) rfl #[.slice A1 l1.length c1, .agg #[.int .u8 ((rd_T25 l0 x5_1).f0.f0), .int .u8 ((rd_T25 l0 x5_1).f0.f1), .int .u8 ((rd_T25 l0 x5_1).f0.f2), .int .u8 ((rd_T25 l0 x5_1).f0.f3), .int .u8 ((rd_T25 l0 x5_1).f0.f4), .int .u8 ((rd_T25 l0 x5_1).f0.f5), .int .u8 ((rd_T25 l0 x5_1).f0.f6), .int .u8 ((rd_T25 l0 x5_1).f0.f7), .int .u8 ((rd_T25 l0 x5_1).f0.f8), .int .u8 ((rd_T25 l0 x5_1).f0.f9), .int .u8 ((rd_T25 l0 x5_1).f0.f10), .int .u8 ((rd_T25 l0 x5_1).f0.f11), .int .u8 ((rd_T25 l0 x5_1).f0.f12), .int .u8 ((rd_T25 l0 x5_1).f0.f13), .int .u8 ((rd_T25 l0 x5_1).f0.f14), .int .u8 ((rd_T25 l0 x5_1).f0.f15), .int .u8 ((rd_T25 l0 x5_1).f0.f16), .int .u8 ((rd_T25 l0 x5_1).f0.f17), .int .u8 ((rd_T25 l0 x5_1).f0.f18), .int .u8 ((rd_T25 l0 x5_1).f0.f19), .int .u8 ((rd_T25 l0 x5_1).f0.f20), .int .u8 ((rd_T25 l0 x5_1).f0.f21), .int .u8 ((rd_T25 l0 x5_1).f0.f22), .int .u8 ((rd_T25 l0 x5_1).f0.f23), .int .u8 ((rd_T25 l0 x5_1).f0.f24), .int .u8 ((rd_T25 l0 x5_1).f0.f25), .int .u8 ((rd_T25 l0 x5_1).f0.f26), .int .u8 ((rd_T25 l0 x5_1).f0.f27), .int .u8 ((rd_T25 l0 x5_1).f0.f28), .int .u8 ((rd_T25 l0 x5_1).f0.f29), .int .u8 ((rd_T25 l0 x5_1).f0.f30), .int .u8 ((rd_T25 l0 x5_1).f0.f31), .int .i64 ((rd_T25 l0 x5_1).f1)]] (by rfl) rfl rfl (by (try simp only [List.map_toArray, List.map_cons, List.map_nil]); first | done | rfl | (simp only [List.length_drop, List.length_take]; rfl)) ?_
            with_reducible refine (coracleref1_Times.calls k1 _ _ l1 ((rd_T25 l0 x5_1).f0.f0) ((rd_T25 l0 x5_1).f0.f1) ((rd_T25 l0 x5_1).f0.f2) ((rd_T25 l0 x5_1).f0.f3) ((rd_T25 l0 x5_1).f0.f4) ((rd_T25 l0 x5_1).f0.f5) ((rd_T25 l0 x5_1).f0.f6) ((rd_T25 l0 x5_1).f0.f7) ((rd_T25 l0 x5_1).f0.f8) ((rd_T25 l0 x5_1).f0.f9) ((rd_T25 l0 x5_1).f0.f10) ((rd_T25 l0 x5_1).f0.f11) ((rd_T25 l0 x5_1).f0.f12) ((rd_T25 l0 x5_1).f0.f13) ((rd_T25 l0 x5_1).f0.f14) ((rd_T25 l0 x5_1).f0.f15) ((rd_T25 l0 x5_1).f0.f16) ((rd_T25 l0 x5_1).f0.f17) ((rd_T25 l0 x5_1).f0.f18) ((rd_T25 l0 x5_1).f0.f19) ((rd_T25 l0 x5_1).f0.f20) ((rd_T25 l0 x5_1).f0.f21) ((rd_T25 l0 x5_1).f0.f22) ((rd_T25 l0 x5_1).f0.f23) ((rd_T25 l0 x5_1).f0.f24) ((rd_T25 l0 x5_1).f0.f25) ((rd_T25 l0 x5_1).f0.f26) ((rd_T25 l0 x5_1).f0.f27) ((rd_T25 l0 x5_1).f0.f28) ((rd_T25 l0 x5_1).f0.f29) ((rd_T25 l0 x5_1).f0.f30) ((rd_T25 l0 x5_1).f0.f31) ((rd_T25 l0 x5_1).f1) t195 _ ?side1 ?side2 A6.out).mono ?_
            (case side1 => repeat (first | exact (Kd.C_below HR1.out HB.out) | (with_reducible refine Kd.C_alloc ?_ _) | (with_reducible refine Kd.C_drewN ?_ _) | (with_reducible refine Kd.C_drew ?_)))
            (case side2 => exact HC1.out)
            rintro e w13 ⟨rfl, hb⟩
            refine ⟨_, rfl, ?_⟩
            have n0_ := Aside0.mk (below_step (by repeat (first | (with_reducible first | exact HB.out | apply below_alloc | apply pw_below_drewN | apply below_drew1) | exact HB.out)) hb)
            clear HB
            have HB := n0_
            clear n0_
            (try clear hb)
            (try clear hb2)
            (try clear hk)
            (try clear hi)
            refine hK.out _ _ (Go.Proofs.YtmoecidfmgeafaaDoor.Wide.mk33 (((HB.out.cell (World.block_lt_of_cell? w _ hw192_0)).trans hw192_0)) (((HB.out.cell (World.block_lt_of_cell? w _ hw192_1)).trans hw192_1)) (((HB.out.cell (World.block_lt_of_cell? w _ hw192_2)).trans hw192_2)) (((HB.out.cell (World.block_lt_of_cell? w _ hw192_3)).trans hw192_3)) (((HB.out.cell (World.block_lt_of_cell? w _ hw192_4)).trans hw192_4)) (((HB.out.cell (World.block_lt_of_cell? w _ hw192_5)).trans hw192_5)) (((HB.out.cell (World.block_lt_of_cell? w _ hw192_6)).trans hw192_6)) (((HB.out.cell (World.block_lt_of_cell? w _ hw192_7)).trans hw192_7)) (((HB.out.cell (World.block_lt_of_cell? w _ hw192_8)).trans hw192_8)) (((HB.out.cell (World.block_lt_of_cell? w _ hw192_9)).trans hw192_9)) (((HB.out.cell (World.block_lt_of_cell? w _ hw192_10)).trans hw192_10)) (((HB.out.cell (World.block_lt_of_cell? w _ hw192_11)).trans hw192_11)) (((HB.out.cell (World.block_lt_of_cell? w _ hw192_12)).trans hw192_12)) (((HB.out.cell (World.block_lt_of_cell? w _ hw192_13)).trans hw192_13)) (((HB.out.cell (World.block_lt_of_cell? w _ hw192_14)).trans hw192_14)) (((HB.out.cell (World.block_lt_of_cell? w _ hw192_15)).trans hw192_15)) (((HB.out.cell (World.block_lt_of_cell? w _ hw192_16)).trans hw192_16)) (((HB.out.cell (World.block_lt_of_cell? w _ hw192_17)).trans hw192_17)) (((HB.out.cell (World.block_lt_of_cell? w _ hw192_18)).trans hw192_18)) (((HB.out.cell (World.block_lt_of_cell? w _ hw192_19)).trans hw192_19)) (((HB.out.cell (World.block_lt_of_cell? w _ hw192_20)).trans hw192_20)) (((HB.out.cell (World.block_lt_of_cell? w _ hw192_21)).trans hw192_21)) (((HB.out.cell (World.block_lt_of_cell? w _ hw192_22)).trans hw192_22)) (((HB.out.cell (World.block_lt_of_cell? w _ hw192_23)).trans hw192_23)) (((HB.out.cell (World.block_lt_of_cell? w _ hw192_24)).trans hw192_24)) (((HB.out.cell (World.block_lt_of_cell? w _ hw192_25)).trans hw192_25)) (((HB.out.cell (World.block_lt_of_cell? w _ hw192_26)).trans hw192_26)) (((HB.out.cell (World.block_lt_of_cell? w _ hw192_27)).trans hw192_27)) (((HB.out.cell (World.block_lt_of_cell? w _ hw192_28)).trans hw192_28)) (((HB.out.cell (World.block_lt_of_cell? w _ hw192_29)).trans hw192_29)) (((HB.out.cell (World.block_lt_of_cell? w _ hw192_30)).trans hw192_30)) (((HB.out.cell (World.block_lt_of_cell? w _ hw192_31)).trans hw192_31)) (((HB.out.cell (World.block_lt_of_cell? w _ hw192_32)).trans hw192_32))) (fun hHeld => ?_)
            clear hK K
            refine norm_ (a' := ?_) ?_ ?_
            rotate_left
            · show Act.put _ (some 23) _ = _
              simp only [Act.put, List.setIfInBounds_toArray, List.set_cons_zero, List.set_cons_succ, i64_w, i32_w]
              rfl
            refine pure_ (i := 12) (N := some 24) (v := ?_) (a' := ?_) #[true, true, true, true, true, true, true, true, true, true, true, true, true] rfl rfl (any_of HT_.out (by kernel_rfl)) (fun _ _ _ h => h) (Or.inl ⟨by rfl, ?_⟩) ?_ ?_
            rotate_left
            · intro w'
              go_simp
              with_reducible rfl
            rotate_left
            · simp only [Act.put, List.setIfInBounds_toArray, List.set_cons_zero, List.set_cons_succ, i64_w, i32_w]
              rfl
            refine done_ (done_of HT_.out (by kernel_rfl)) ?_
            try go_wp2
            go_ret
            exact ⟨by first | rfl | (simp [errW_none, errW_some] <;> rfl) | (simp [*, errW_none, errW_some] <;> rfl), by repeat (first | (with_reducible first | exact HB.out | apply below_alloc | apply pw_below_drewN | apply below_drew1) | exact HB.out)⟩
        · rw [if_neg c4] at H
          exact absurd H (by simp)
      · rw [if_neg c3] at H
        have c3b0 : decide (x5_1 < (l0.length : Int)) = false := decide_eq_false c3
        clear c3
        obtain rfl := Option.some.inj H
        go_wp2
        go_ret
        exact ⟨by first | rfl | (simp [errW_none, errW_some] <;> rfl) | (simp [*, errW_none, errW_some] <;> rfl), by repeat (first | (with_reducible first | exact HB.out | apply below_alloc | apply pw_below_drewN | apply below_drew1) | exact HB.out)⟩

end Go.Proofs.YtmoecidfmgeafaaDoor.QPnt
