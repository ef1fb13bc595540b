/- Functions of the program as plain Lean functions, and that its calls come to what these tell: written by a program of this session; Lean checks it. -/
import Derived.Test.YtmoecidfmgeafaaDoorQPntx0
import Derived.Test.YtmoecidfmgeafaaDoorQPntx2
import Derived.Test.YtmoecidfmgeafaaDoorQPntx3
namespace Go.Proofs.YtmoecidfmgeafaaDoor.QPnt
open Go.RowKit Go.Proofs.YtmoecidfmgeafaaDoorW.PrintWords Go.Proofs.YtmoecidfmgeafaaDoorW.PrintLast Go.Proofs.YtmoecidfmgeafaaDoorW.PrintMore
attribute [local go_sem] max2_int min2_int max_two min_two max_three min_three max_four min_four  run_fop run_feq run_fne run_flt run_fle run_fgt run_fge run_fint run_toi run_real' run_imag' run_complex' run_ceq run_cne run_cadd run_csub run_cmul Go.Proofs.YtmoecidfmgeafaaDoor.Wide.cellsAt_drewN Go.Proofs.YtmoecidfmgeafaaDoor.Wide.cellsAt_drew Go.Proofs.YtmoecidfmgeafaaDoor.Wide.lw32 Go.Proofs.YtmoecidfmgeafaaDoor.Wide.lw33
attribute [local go_sem ↓ high] Go.Proofs.YtmoecidfmgeafaaDoor.Wide.hv32 Go.Proofs.YtmoecidfmgeafaaDoor.Wide.hv33
set_option linter.unusedVariables false
set_option linter.unusedSimpArgs false

attribute [local go_sem high] eqA25
/-! ### point_those: function 37 -/
def point_those.l0 : Nat → List (S25) → Bool → List (S25) → List (S25) → Int → Int → Option ((List (S25)))
  | 0, _, _, _, _, _, _ => none
  | k + 1, x1, x2, x6, x9, x10, x11 => if x11 < x10 then (if 0 ≤ x11 then (if x11 < (x9.length : Int) then ((point_Has.f k x1 ((rd_T25 x9 x11).f0.f0) ((rd_T25 x9 x11).f0.f1) ((rd_T25 x9 x11).f0.f2) ((rd_T25 x9 x11).f0.f3) ((rd_T25 x9 x11).f0.f4) ((rd_T25 x9 x11).f0.f5) ((rd_T25 x9 x11).f0.f6) ((rd_T25 x9 x11).f0.f7) ((rd_T25 x9 x11).f0.f8) ((rd_T25 x9 x11).f0.f9) ((rd_T25 x9 x11).f0.f10) ((rd_T25 x9 x11).f0.f11) ((rd_T25 x9 x11).f0.f12) ((rd_T25 x9 x11).f0.f13) ((rd_T25 x9 x11).f0.f14) ((rd_T25 x9 x11).f0.f15) ((rd_T25 x9 x11).f0.f16) ((rd_T25 x9 x11).f0.f17) ((rd_T25 x9 x11).f0.f18) ((rd_T25 x9 x11).f0.f19) ((rd_T25 x9 x11).f0.f20) ((rd_T25 x9 x11).f0.f21) ((rd_T25 x9 x11).f0.f22) ((rd_T25 x9 x11).f0.f23) ((rd_T25 x9 x11).f0.f24) ((rd_T25 x9 x11).f0.f25) ((rd_T25 x9 x11).f0.f26) ((rd_T25 x9 x11).f0.f27) ((rd_T25 x9 x11).f0.f28) ((rd_T25 x9 x11).f0.f29) ((rd_T25 x9 x11).f0.f30) ((rd_T25 x9 x11).f0.f31) ((rd_T25 x9 x11).f1)).bind fun t180 => (if (t180 == x2) = true then (if x6.length < 3518437208883 then (point_those.l0 k x1 x2 (x6 ++ [(⟨(⟨(rd_T25 x9 x11).f0.f0, (rd_T25 x9 x11).f0.f1, (rd_T25 x9 x11).f0.f2, (rd_T25 x9 x11).f0.f3, (rd_T25 x9 x11).f0.f4, (rd_T25 x9 x11).f0.f5, (rd_T25 x9 x11).f0.f6, (rd_T25 x9 x11).f0.f7, (rd_T25 x9 x11).f0.f8, (rd_T25 x9 x11).f0.f9, (rd_T25 x9 x11).f0.f10, (rd_T25 x9 x11).f0.f11, (rd_T25 x9 x11).f0.f12, (rd_T25 x9 x11).f0.f13, (rd_T25 x9 x11).f0.f14, (rd_T25 x9 x11).f0.f15, (rd_T25 x9 x11).f0.f16, (rd_T25 x9 x11).f0.f17, (rd_T25 x9 x11).f0.f18, (rd_T25 x9 x11).f0.f19, (rd_T25 x9 x11).f0.f20, (rd_T25 x9 x11).f0.f21, (rd_T25 x9 x11).f0.f22, (rd_T25 x9 x11).f0.f23, (rd_T25 x9 x11).f0.f24, (rd_T25 x9 x11).f0.f25, (rd_T25 x9 x11).f0.f26, (rd_T25 x9 x11).f0.f27, (rd_T25 x9 x11).f0.f28, (rd_T25 x9 x11).f0.f29, (rd_T25 x9 x11).f0.f30, (rd_T25 x9 x11).f0.f31⟩ : S23), (rd_T25 x9 x11).f1⟩ : S25)]) x9 x10 (wrap64 (x11 + 1))) else (none)) else (point_those.l0 k x1 x2 x6 x9 x10 (wrap64 (x11 + 1))))) else (none)) else (none)) else (some x6)
def point_those.f (k : Nat) (l0 : List (S25)) (l1 : List (S25)) (a2 : Bool) : Option ((List (S25))) := point_those.l0 k l1 a2 ([] : List (S25)) l0 (l0.length : Int) 0
theorem point_those.mono_l : ∀ k, (∀ y0 y1 y2 y3 y4 y5, LeO (point_those.l0 k y0 y1 y2 y3 y4 y5) (point_those.l0 (k + 1) y0 y1 y2 y3 y4 y5))
  | 0 => fun _ _ _ _ _ _ r h => by simp [point_those.l0] at h
  | k + 1 => by
    have ih0 := point_those.mono_l k
    · intro y0 y1 y2 y3 y4 y5
      unfold point_those.l0
      repeat' first
      | (with_reducible exact ih0 _ _ _ _ _ _)
      | (with_reducible exact point_Has.mono _ _ _ _ _ _ _ _ _ _ _ _ _ _ _ _ _ _ _ _ _ _ _ _ _ _ _ _ _ _ _ _ _ _ _)
      | (with_reducible exact LeO.refl _)
      | (with_reducible exact LeO.none _)
      | (with_reducible refine LeO.ite ?_ ?_)
      | (with_reducible refine LeO.bind ?_ (fun _ => ?_))
      | exact ih0 _ _ _ _ _ _
      | exact point_Has.mono _ _ _ _ _ _ _ _ _ _ _ _ _ _ _ _ _ _ _ _ _ _ _ _ _ _ _ _ _ _ _ _ _ _ _
      | exact LeO.none _
      | refine LeO.ite ?_ ?_
      | refine LeO.bind ?_ (fun _ => ?_)
theorem point_those.mono : ∀ a0 a1 a2 k, LeO (point_those.f k a0 a1 a2) (point_those.f (k + 1) a0 a1 a2) := by
  intro a0 a1 a2 k
  have ih0 := point_those.mono_l k
  unfold point_those.f
  repeat' first
      | (with_reducible exact ih0 _ _ _ _ _ _)
      | (with_reducible exact point_Has.mono _ _ _ _ _ _ _ _ _ _ _ _ _ _ _ _ _ _ _ _ _ _ _ _ _ _ _ _ _ _ _ _ _ _ _)
      | (with_reducible exact LeO.refl _)
      | (with_reducible exact LeO.none _)
      | (with_reducible refine LeO.ite ?_ ?_)
      | (with_reducible refine LeO.bind ?_ (fun _ => ?_))
      | exact ih0 _ _ _ _ _ _
      | exact point_Has.mono _ _ _ _ _ _ _ _ _ _ _ _ _ _ _ _ _ _ _ _ _ _ _ _ _ _ _ _ _ _ _ _ _ _ _
      | exact LeO.none _
      | refine LeO.ite ?_ ?_
      | refine LeO.bind ?_ (fun _ => ?_)
set_option maxHeartbeats 8000000 in
set_option maxRecDepth 100000 in
theorem point_those.calls (k : Nat) (A0 : Option Addr) (c0 : Nat) (l0 : List (S25)) (A1 : Option Addr) (c1 : Nat) (l1 : List (S25)) (a2 : Bool) (r : List (S25)) (w : World) (hr0 : Kd.C k25 w A0 l0.length l0) (hc0 : l0.length ≤ c0) (hr1 : Kd.C k25 w A1 l1.length l1) (hc1 : l1.length ≤ c1) (h : point_those.f k l0 l1 a2 = some r) :
    Calls Tryd.prog 37 #[.slice A0 l0.length c0, .slice A1 l1.length c1, .bool a2] w fun e w' => ∃ v0_ : Value, e = .returned (v0_) ∧ Kd.R k25 25 w' w.heap.size (fun _ => True) v0_ r ∧ Below w.heap.size w w' := by
  have hu25 := Tryd.underlying25
  have HR0 := Aside0.mk hr0
  have HC0 := Aside0.mk hc0
  clear hr0 hc0
  have HR1 := Aside0.mk hr1
  have HC1 := Aside0.mk hc1
  clear hr1 hc1
  have HB := Aside0.mk (Below.refl w.heap.size w)
  have H : (point_those.l0 k l1 a2 ([] : List (S25)) l0 (l0.length : Int) 0) = some r := h
  clear h
  have H' := Aside0.mk H
  clear H
  go_enter Tryd.func37, Tryd.ntmps37
  go_wp2
  go_loopg [6, 11] k (fun kq v6 v11 w' => ∃ (x6_1 : List (S25)) (x11_1 : Int), v11 = .int .i64 x11_1 ∧ Aside0 (point_those.l0 kq l1 a2 x6_1 l0 (l0.length : Int) x11_1 = some r) ∧ Aside0 (kq ≤ k) ∧ Aside0 (Kd.R k25 25 w' w.heap.size (fun _ => True) v6 x6_1) ∧ Aside0 (Below w.heap.size w w'))
  case atStart => exact ⟨(([] : List (S25))), (0), (by first | rfl | (simp; done) | (simp [*]; done)), H', ⟨Nat.le_refl _⟩, ⟨by first | exact Kd.R_nil _ _ _ _ _ | exact Kd.N_nil _ _ _ _ _ | exact Kd.V_nil _ _ _ _ _ | exact Kd.Q_nil _ _ _ _ _ | exact Kd.S_nil _ _ _ _ _⟩, ⟨by repeat (first | (with_reducible first | exact HB.out | apply below_alloc | apply pw_below_drewN | apply below_drew1) | exact HB.out)⟩⟩
  case round =>
    clear H'
    try clear c1
    try clear p2
    try clear c3
    obtain ⟨x6_1, x11_1, rfl, HA, HK1, HO_6, HB⟩ := hrel
    cases gk with
    | zero => exact absurd HA.out (by simp [point_those.l0])
    | succ k1 =>
      have H := HA.out
      clear HA
      simp only [point_those.l0] at H
      by_cases c4 : x11_1 < (l0.length : Int)
      · rw [if_pos c4] at H
        have c4b0 : decide (x11_1 < (l0.length : Int)) = true := decide_eq_true c4
        clear c4
        by_cases c5 : 0 ≤ x11_1
        · rw [if_pos c5] at H
          have c5b0 : decide (0 ≤ x11_1) = true := decide_eq_true c5
          clear c5
          by_cases c6 : x11_1 < (l0.length : Int)
          · rw [if_pos c6] at H
            have c6b0 : decide (x11_1 < (l0.length : Int)) = true := decide_eq_true c6
            clear c6
            replace H := Option.bind_eq_some_iff.mp H
            obtain ⟨t180, A70, H⟩ := H
            replace H : (if (t180 == a2) = true then (if x6_1.length < 3518437208883 then (point_those.l0 k1 l1 a2 (x6_1 ++ [(⟨(⟨(rd_T25 l0 x11_1).f0.f0, (rd_T25 l0 x11_1).f0.f1, (rd_T25 l0 x11_1).f0.f2, (rd_T25 l0 x11_1).f0.f3, (rd_T25 l0 x11_1).f0.f4, (rd_T25 l0 x11_1).f0.f5, (rd_T25 l0 x11_1).f0.f6, (rd_T25 l0 x11_1).f0.f7, (rd_T25 l0 x11_1).f0.f8, (rd_T25 l0 x11_1).f0.f9, (rd_T25 l0 x11_1).f0.f10, (rd_T25 l0 x11_1).f0.f11, (rd_T25 l0 x11_1).f0.f12, (rd_T25 l0 x11_1).f0.f13, (rd_T25 l0 x11_1).f0.f14, (rd_T25 l0 x11_1).f0.f15, (rd_T25 l0 x11_1).f0.f16, (rd_T25 l0 x11_1).f0.f17, (rd_T25 l0 x11_1).f0.f18, (rd_T25 l0 x11_1).f0.f19, (rd_T25 l0 x11_1).f0.f20, (rd_T25 l0 x11_1).f0.f21, (rd_T25 l0 x11_1).f0.f22, (rd_T25 l0 x11_1).f0.f23, (rd_T25 l0 x11_1).f0.f24, (rd_T25 l0 x11_1).f0.f25, (rd_T25 l0 x11_1).f0.f26, (rd_T25 l0 x11_1).f0.f27, (rd_T25 l0 x11_1).f0.f28, (rd_T25 l0 x11_1).f0.f29, (rd_T25 l0 x11_1).f0.f30, (rd_T25 l0 x11_1).f0.f31⟩ : S23), (rd_T25 l0 x11_1).f1⟩ : S25)]) l0 (l0.length : Int) (wrap64 (x11_1 + 1))) else (none)) else (point_those.l0 k1 l1 a2 x6_1 l0 (l0.length : Int) (wrap64 (x11_1 + 1)))) = some r := H
            have A7 := Aside0.mk A70
            clear A70
            by_cases c8 : (t180 == a2) = true
            · rw [if_pos c8] at H
              have c8b0 : (t180 == a2) = true := c8
              (try (have c8b1 : decide (t180 = a2) = true := by simpa using c8))
              (try (have c8b2 : (t180 == a2) = true := by simpa using c8))
              clear c8
              by_cases c9 : x6_1.length < 3518437208883
              · rw [if_pos c9] at H
                have LMc9 := Aside0.mk c9
                clear c9
                obtain ⟨y181, hy181⟩ : ∃ y_ : List (S25), y_ = (x6_1 ++ [(⟨(⟨(rd_T25 l0 x11_1).f0.f0, (rd_T25 l0 x11_1).f0.f1, (rd_T25 l0 x11_1).f0.f2, (rd_T25 l0 x11_1).f0.f3, (rd_T25 l0 x11_1).f0.f4, (rd_T25 l0 x11_1).f0.f5, (rd_T25 l0 x11_1).f0.f6, (rd_T25 l0 x11_1).f0.f7, (rd_T25 l0 x11_1).f0.f8, (rd_T25 l0 x11_1).f0.f9, (rd_T25 l0 x11_1).f0.f10, (rd_T25 l0 x11_1).f0.f11, (rd_T25 l0 x11_1).f0.f12, (rd_T25 l0 x11_1).f0.f13, (rd_T25 l0 x11_1).f0.f14, (rd_T25 l0 x11_1).f0.f15, (rd_T25 l0 x11_1).f0.f16, (rd_T25 l0 x11_1).f0.f17, (rd_T25 l0 x11_1).f0.f18, (rd_T25 l0 x11_1).f0.f19, (rd_T25 l0 x11_1).f0.f20, (rd_T25 l0 x11_1).f0.f21, (rd_T25 l0 x11_1).f0.f22, (rd_T25 l0 x11_1).f0.f23, (rd_T25 l0 x11_1).f0.f24, (rd_T25 l0 x11_1).f0.f25, (rd_T25 l0 x11_1).f0.f26, (rd_T25 l0 x11_1).f0.f27, (rd_T25 l0 x11_1).f0.f28, (rd_T25 l0 x11_1).f0.f29, (rd_T25 l0 x11_1).f0.f30, (rd_T25 l0 x11_1).f0.f31⟩ : S23), (rd_T25 l0 x11_1).f1⟩ : S25)]) := ⟨_, rfl⟩
                replace H : (point_those.l0 k1 l1 a2 y181 l0 (l0.length : Int) (wrap64 (x11_1 + 1))) = some r := by first | (rw [hy181]; with_reducible exact H) | (have H2_ := (Option.bind_some _ _).symm.trans H; rw [hy181]; with_reducible exact H2_) | (have H2_ := (Option.bind_some _ _).symm.trans H; with_reducible exact H2_) | with_reducible exact H | (rw [hy181]; exact H) | exact H
                have Ny181 := Aside0.mk hy181
                clear hy181
                have H' := Aside0.mk H
                clear H
                have p178 : 0 ≤ (x11_1 : Int) := of_decide_eq_true (by first | (with_reducible assumption) | assumption)
                have q178 : x11_1 < (l0.length : Int) := of_decide_eq_true (by first | (with_reducible assumption) | assumption)
                obtain ⟨ad178, e178, hx178_0, hx178_1, hx178_2, hx178_3, hx178_4, hx178_5, hx178_6, hx178_7, hx178_8, hx178_9, hx178_10, hx178_11, hx178_12, hx178_13, hx178_14, hx178_15, hx178_16, hx178_17, hx178_18, hx178_19, hx178_20, hx178_21, hx178_22, hx178_23, hx178_24, hx178_25, hx178_26, hx178_27, hx178_28, hx178_29, hx178_30, hx178_31, hx178_32⟩ := at_T25 HR0.out x11_1 p178 q178
                cases e178
                replace hx178_0 := (HB.out.cell (World.block_lt_of_cell? w _ hx178_0)).trans hx178_0
                replace hx178_1 := (HB.out.cell (World.block_lt_of_cell? w _ hx178_1)).trans hx178_1
                replace hx178_2 := (HB.out.cell (World.block_lt_of_cell? w _ hx178_2)).trans hx178_2
                replace hx178_3 := (HB.out.cell (World.block_lt_of_cell? w _ hx178_3)).trans hx178_3
                replace hx178_4 := (HB.out.cell (World.block_lt_of_cell? w _ hx178_4)).trans hx178_4
                replace hx178_5 := (HB.out.cell (World.block_lt_of_cell? w _ hx178_5)).trans hx178_5
                replace hx178_6 := (HB.out.cell (World.block_lt_of_cell? w _ hx178_6)).trans hx178_6
                replace hx178_7 := (HB.out.cell (World.block_lt_of_cell? w _ hx178_7)).trans hx178_7
                replace hx178_8 := (HB.out.cell (World.block_lt_of_cell? w _ hx178_8)).trans hx178_8
                replace hx178_9 := (HB.out.cell (World.block_lt_of_cell? w _ hx178_9)).trans hx178_9
                replace hx178_10 := (HB.out.cell (World.block_lt_of_cell? w _ hx178_10)).trans hx178_10
                replace hx178_11 := (HB.out.cell (World.block_lt_of_cell? w _ hx178_11)).trans hx178_11
                replace hx178_12 := (HB.out.cell (World.block_lt_of_cell? w _ hx178_12)).trans hx178_12
                replace hx178_13 := (HB.out.cell (World.block_lt_of_cell? w _ hx178_13)).trans hx178_13
                replace hx178_14 := (HB.out.cell (World.block_lt_of_cell? w _ hx178_14)).trans hx178_14
                replace hx178_15 := (HB.out.cell (World.block_lt_of_cell? w _ hx178_15)).trans hx178_15
                replace hx178_16 := (HB.out.cell (World.block_lt_of_cell? w _ hx178_16)).trans hx178_16
                replace hx178_17 := (HB.out.cell (World.block_lt_of_cell? w _ hx178_17)).trans hx178_17
                replace hx178_18 := (HB.out.cell (World.block_lt_of_cell? w _ hx178_18)).trans hx178_18
                replace hx178_19 := (HB.out.cell (World.block_lt_of_cell? w _ hx178_19)).trans hx178_19
                replace hx178_20 := (HB.out.cell (World.block_lt_of_cell? w _ hx178_20)).trans hx178_20
                replace hx178_21 := (HB.out.cell (World.block_lt_of_cell? w _ hx178_21)).trans hx178_21
                replace hx178_22 := (HB.out.cell (World.block_lt_of_cell? w _ hx178_22)).trans hx178_22
                replace hx178_23 := (HB.out.cell (World.block_lt_of_cell? w _ hx178_23)).trans hx178_23
                replace hx178_24 := (HB.out.cell (World.block_lt_of_cell? w _ hx178_24)).trans hx178_24
                replace hx178_25 := (HB.out.cell (World.block_lt_of_cell? w _ hx178_25)).trans hx178_25
                replace hx178_26 := (HB.out.cell (World.block_lt_of_cell? w _ hx178_26)).trans hx178_26
                replace hx178_27 := (HB.out.cell (World.block_lt_of_cell? w _ hx178_27)).trans hx178_27
                replace hx178_28 := (HB.out.cell (World.block_lt_of_cell? w _ hx178_28)).trans hx178_28
                replace hx178_29 := (HB.out.cell (World.block_lt_of_cell? w _ hx178_29)).trans hx178_29
                replace hx178_30 := (HB.out.cell (World.block_lt_of_cell? w _ hx178_30)).trans hx178_30
                replace hx178_31 := (HB.out.cell (World.block_lt_of_cell? w _ hx178_31)).trans hx178_31
                replace hx178_32 := (HB.out.cell (World.block_lt_of_cell? w _ hx178_32)).trans hx178_32
                replace p178 := eq_true p178
                replace q178 := eq_true q178
                have hw178_0_32 := Go.Proofs.YtmoecidfmgeafaaDoor.Wide.mk32 hx178_0 hx178_1 hx178_2 hx178_3 hx178_4 hx178_5 hx178_6 hx178_7 hx178_8 hx178_9 hx178_10 hx178_11 hx178_12 hx178_13 hx178_14 hx178_15 hx178_16 hx178_17 hx178_18 hx178_19 hx178_20 hx178_21 hx178_22 hx178_23 hx178_24 hx178_25 hx178_26 hx178_27 hx178_28 hx178_29 hx178_30 hx178_31
                have hw178_0_33 := Go.Proofs.YtmoecidfmgeafaaDoor.Wide.mk33 hx178_0 hx178_1 hx178_2 hx178_3 hx178_4 hx178_5 hx178_6 hx178_7 hx178_8 hx178_9 hx178_10 hx178_11 hx178_12 hx178_13 hx178_14 hx178_15 hx178_16 hx178_17 hx178_18 hx178_19 hx178_20 hx178_21 hx178_22 hx178_23 hx178_24 hx178_25 hx178_26 hx178_27 hx178_28 hx178_29 hx178_30 hx178_31 hx178_32
                go_wp2_with (first | ((with_reducible refine gate_dst (N := 8) rfl ?_); refine Go.Proofs.YtmoecidfmgeafaaDoor.Fill.fill_event (N := 8) (x := 14) (cs := #[.int .u8 ((rd_T25 l0 x11_1).f0.f0), .int .u8 ((rd_T25 l0 x11_1).f0.f1), .int .u8 ((rd_T25 l0 x11_1).f0.f2), .int .u8 ((rd_T25 l0 x11_1).f0.f3), .int .u8 ((rd_T25 l0 x11_1).f0.f4), .int .u8 ((rd_T25 l0 x11_1).f0.f5), .int .u8 ((rd_T25 l0 x11_1).f0.f6), .int .u8 ((rd_T25 l0 x11_1).f0.f7), .int .u8 ((rd_T25 l0 x11_1).f0.f8), .int .u8 ((rd_T25 l0 x11_1).f0.f9), .int .u8 ((rd_T25 l0 x11_1).f0.f10), .int .u8 ((rd_T25 l0 x11_1).f0.f11), .int .u8 ((rd_T25 l0 x11_1).f0.f12), .int .u8 ((rd_T25 l0 x11_1).f0.f13), .int .u8 ((rd_T25 l0 x11_1).f0.f14), .int .u8 ((rd_T25 l0 x11_1).f0.f15), .int .u8 ((rd_T25 l0 x11_1).f0.f16), .int .u8 ((rd_T25 l0 x11_1).f0.f17), .int .u8 ((rd_T25 l0 x11_1).f0.f18), .int .u8 ((rd_T25 l0 x11_1).f0.f19), .int .u8 ((rd_T25 l0 x11_1).f0.f20), .int .u8 ((rd_T25 l0 x11_1).f0.f21), .int .u8 ((rd_T25 l0 x11_1).f0.f22), .int .u8 ((rd_T25 l0 x11_1).f0.f23), .int .u8 ((rd_T25 l0 x11_1).f0.f24), .int .u8 ((rd_T25 l0 x11_1).f0.f25), .int .u8 ((rd_T25 l0 x11_1).f0.f26), .int .u8 ((rd_T25 l0 x11_1).f0.f27), .int .u8 ((rd_T25 l0 x11_1).f0.f28), .int .u8 ((rd_T25 l0 x11_1).f0.f29), .int .u8 ((rd_T25 l0 x11_1).f0.f30), .int .u8 ((rd_T25 l0 x11_1).f0.f31), .int .i64 ((rd_T25 l0 x11_1).f1)]) (t := 25) rfl rfl rfl rfl rfl rfl Tryd.zeroValue25 Tryd.sizeOf25 rfl rfl (fun _ => rfl) (fun _ => rfl) ?_; intro gb179 hg w10 hbox hb; have n0_ := Aside0.mk (Kd.R_below (Kd.R_elderB (by (with_reducible repeat (first | apply Kd.R_alloc | apply Kd.R_drewN | apply Kd.R_drew)); exact HO_6.out) gb179 (Nat.le_of_eq hg.symm)) hb); have n1_ := Aside0.mk (below_step (by repeat (first | (with_reducible first | exact HB.out | apply below_alloc | apply pw_below_drewN | apply below_drew1) | exact HB.out)) hb); have n2_ := Aside0.mk (hbox); have n3_ := Aside0.mk ((by rw [hg]; exact (below_size (by repeat (first | (with_reducible first | exact HB.out | apply below_alloc | apply pw_below_drewN | apply below_drew1) | exact HB.out))) : w.heap.size ≤ gb179)); have n4_ := Aside0.mk ((by rw [hg]; exact (below_size (by repeat (first | (with_reducible first | exact HB.out | apply below_alloc | apply pw_below_drewN | apply below_drew1) | exact HB.out))) : w.heap.size ≤ gb179)); clear HO_6; clear HB; have HO_6 := n0_; have HB := n1_; have BK179 := n2_; have GW179 := n3_; have GE179 := n4_; clear n0_ n1_ n2_ n3_ n4_; clear hb hbox hg; have hcz11_0 : w10.cell? ⟨gb179, 0, none⟩ = some (.int .u8 ((rd_T25 l0 x11_1).f0.f0)) := (blk_cell BK179.out 0).trans rfl; have hcz11_1 : w10.cell? ⟨gb179, 1, none⟩ = some (.int .u8 ((rd_T25 l0 x11_1).f0.f1)) := (blk_cell BK179.out 1).trans rfl; have hcz11_2 : w10.cell? ⟨gb179, 2, none⟩ = some (.int .u8 ((rd_T25 l0 x11_1).f0.f2)) := (blk_cell BK179.out 2).trans rfl; have hcz11_3 : w10.cell? ⟨gb179, 3, none⟩ = some (.int .u8 ((rd_T25 l0 x11_1).f0.f3)) := (blk_cell BK179.out 3).trans rfl; have hcz11_4 : w10.cell? ⟨gb179, 4, none⟩ = some (.int .u8 ((rd_T25 l0 x11_1).f0.f4)) := (blk_cell BK179.out 4).trans rfl; have hcz11_5 : w10.cell? ⟨gb179, 5, none⟩ = some (.int .u8 ((rd_T25 l0 x11_1).f0.f5)) := (blk_cell BK179.out 5).trans rfl; have hcz11_6 : w10.cell? ⟨gb179, 6, none⟩ = some (.int .u8 ((rd_T25 l0 x11_1).f0.f6)) := (blk_cell BK179.out 6).trans rfl; have hcz11_7 : w10.cell? ⟨gb179, 7, none⟩ = some (.int .u8 ((rd_T25 l0 x11_1).f0.f7)) := (blk_cell BK179.out 7).trans rfl; have hcz11_8 : w10.cell? ⟨gb179, 8, none⟩ = some (.int .u8 ((rd_T25 l0 x11_1).f0.f8)) := (blk_cell BK179.out 8).trans rfl; have hcz11_9 : w10.cell? ⟨gb179, 9, none⟩ = some (.int .u8 ((rd_T25 l0 x11_1).f0.f9)) := (blk_cell BK179.out 9).trans rfl; have hcz11_10 : w10.cell? ⟨gb179, 10, none⟩ = some (.int .u8 ((rd_T25 l0 x11_1).f0.f10)) := (blk_cell BK179.out 10).trans rfl; have hcz11_11 : w10.cell? ⟨gb179, 11, none⟩ = some (.int .u8 ((rd_T25 l0 x11_1).f0.f11)) := (blk_cell BK179.out 11).trans rfl; have hcz11_12 : w10.cell? ⟨gb179, 12, none⟩ = some (.int .u8 ((rd_T25 l0 x11_1).f0.f12)) := (blk_cell BK179.out 12).trans rfl; have hcz11_13 : w10.cell? ⟨gb179, 13, none⟩ = some (.int .u8 ((rd_T25 l0 x11_1).f0.f13)) := (blk_cell BK179.out 13).trans rfl; have hcz11_14 : w10.cell? ⟨gb179, 14, none⟩ = some (.int .u8 ((rd_T25 l0 x11_1).f0.f14)) := (blk_cell BK179.out 14).trans rfl; have hcz11_15 : w10.cell? ⟨gb179, 15, none⟩ = some (.int .u8 ((rd_T25 l0 x11_1).f0.f15)) := (blk_cell BK179.out 15).trans rfl; have hcz11_16 : w10.cell? ⟨gb179, 16, none⟩ = some (.int .u8 ((rd_T25 l0 x11_1).f0.f16)) := (blk_cell BK179.out 16).trans rfl; have hcz11_17 : w10.cell? ⟨gb179, 17, none⟩ = some (.int .u8 ((rd_T25 l0 x11_1).f0.f17)) := (blk_cell BK179.out 17).trans rfl; have hcz11_18 : w10.cell? ⟨gb179, 18, none⟩ = some (.int .u8 ((rd_T25 l0 x11_1).f0.f18)) := (blk_cell BK179.out 18).trans rfl; have hcz11_19 : w10.cell? ⟨gb179, 19, none⟩ = some (.int .u8 ((rd_T25 l0 x11_1).f0.f19)) := (blk_cell BK179.out 19).trans rfl; have hcz11_20 : w10.cell? ⟨gb179, 20, none⟩ = some (.int .u8 ((rd_T25 l0 x11_1).f0.f20)) := (blk_cell BK179.out 20).trans rfl; have hcz11_21 : w10.cell? ⟨gb179, 21, none⟩ = some (.int .u8 ((rd_T25 l0 x11_1).f0.f21)) := (blk_cell BK179.out 21).trans rfl; have hcz11_22 : w10.cell? ⟨gb179, 22, none⟩ = some (.int .u8 ((rd_T25 l0 x11_1).f0.f22)) := (blk_cell BK179.out 22).trans rfl; have hcz11_23 : w10.cell? ⟨gb179, 23, none⟩ = some (.int .u8 ((rd_T25 l0 x11_1).f0.f23)) := (blk_cell BK179.out 23).trans rfl; have hcz11_24 : w10.cell? ⟨gb179, 24, none⟩ = some (.int .u8 ((rd_T25 l0 x11_1).f0.f24)) := (blk_cell BK179.out 24).trans rfl; have hcz11_25 : w10.cell? ⟨gb179, 25, none⟩ = some (.int .u8 ((rd_T25 l0 x11_1).f0.f25)) := (blk_cell BK179.out 25).trans rfl; have hcz11_26 : w10.cell? ⟨gb179, 26, none⟩ = some (.int .u8 ((rd_T25 l0 x11_1).f0.f26)) := (blk_cell BK179.out 26).trans rfl; have hcz11_27 : w10.cell? ⟨gb179, 27, none⟩ = some (.int .u8 ((rd_T25 l0 x11_1).f0.f27)) := (blk_cell BK179.out 27).trans rfl; have hcz11_28 : w10.cell? ⟨gb179, 28, none⟩ = some (.int .u8 ((rd_T25 l0 x11_1).f0.f28)) := (blk_cell BK179.out 28).trans rfl; have hcz11_29 : w10.cell? ⟨gb179, 29, none⟩ = some (.int .u8 ((rd_T25 l0 x11_1).f0.f29)) := (blk_cell BK179.out 29).trans rfl; have hcz11_30 : w10.cell? ⟨gb179, 30, none⟩ = some (.int .u8 ((rd_T25 l0 x11_1).f0.f30)) := (blk_cell BK179.out 30).trans rfl; have hcz11_31 : w10.cell? ⟨gb179, 31, none⟩ = some (.int .u8 ((rd_T25 l0 x11_1).f0.f31)) := (blk_cell BK179.out 31).trans rfl; have hcz11_32 : w10.cell? ⟨gb179, 32, none⟩ = some (.int .i64 ((rd_T25 l0 x11_1).f1)) := (blk_cell BK179.out 32).trans rfl; have hwz11_0_32 := Go.Proofs.YtmoecidfmgeafaaDoor.Wide.mk32 (a := ⟨gb179, 0, none⟩) hcz11_0 hcz11_1 hcz11_2 hcz11_3 hcz11_4 hcz11_5 hcz11_6 hcz11_7 hcz11_8 hcz11_9 hcz11_10 hcz11_11 hcz11_12 hcz11_13 hcz11_14 hcz11_15 hcz11_16 hcz11_17 hcz11_18 hcz11_19 hcz11_20 hcz11_21 hcz11_22 hcz11_23 hcz11_24 hcz11_25 hcz11_26 hcz11_27 hcz11_28 hcz11_29 hcz11_30 hcz11_31; have hwz11_0_33 := Go.Proofs.YtmoecidfmgeafaaDoor.Wide.mk33 (a := ⟨gb179, 0, none⟩) hcz11_0 hcz11_1 hcz11_2 hcz11_3 hcz11_4 hcz11_5 hcz11_6 hcz11_7 hcz11_8 hcz11_9 hcz11_10 hcz11_11 hcz11_12 hcz11_13 hcz11_14 hcz11_15 hcz11_16 hcz11_17 hcz11_18 hcz11_19 hcz11_20 hcz11_21 hcz11_22 hcz11_23 hcz11_24 hcz11_25 hcz11_26 hcz11_27 hcz11_28 hcz11_29 hcz11_30 hcz11_31 hcz11_32; have hfz11_0 := blk_frozen BK179.out 0; have hfz11_1 := blk_frozen BK179.out 1; have hfz11_2 := blk_frozen BK179.out 2; have hfz11_3 := blk_frozen BK179.out 3; have hfz11_4 := blk_frozen BK179.out 4; have hfz11_5 := blk_frozen BK179.out 5; have hfz11_6 := blk_frozen BK179.out 6; have hfz11_7 := blk_frozen BK179.out 7; have hfz11_8 := blk_frozen BK179.out 8; have hfz11_9 := blk_frozen BK179.out 9; have hfz11_10 := blk_frozen BK179.out 10; have hfz11_11 := blk_frozen BK179.out 11; have hfz11_12 := blk_frozen BK179.out 12; have hfz11_13 := blk_frozen BK179.out 13; have hfz11_14 := blk_frozen BK179.out 14; have hfz11_15 := blk_frozen BK179.out 15; have hfz11_16 := blk_frozen BK179.out 16; have hfz11_17 := blk_frozen BK179.out 17; have hfz11_18 := blk_frozen BK179.out 18; have hfz11_19 := blk_frozen BK179.out 19; have hfz11_20 := blk_frozen BK179.out 20; have hfz11_21 := blk_frozen BK179.out 21; have hfz11_22 := blk_frozen BK179.out 22; have hfz11_23 := blk_frozen BK179.out 23; have hfz11_24 := blk_frozen BK179.out 24; have hfz11_25 := blk_frozen BK179.out 25; have hfz11_26 := blk_frozen BK179.out 26; have hfz11_27 := blk_frozen BK179.out 27; have hfz11_28 := blk_frozen BK179.out 28; have hfz11_29 := blk_frozen BK179.out 29; have hfz11_30 := blk_frozen BK179.out 30; have hfz11_31 := blk_frozen BK179.out 31; have hfz11_32 := blk_frozen BK179.out 32) | ((with_reducible refine gate_callee (f := 20) rfl ?_); refine goesL_ (some 17) rfl rfl Tryd.func20 (by kernel_rfl) rfl #[.slice A1 l1.length c1, .agg #[.int .u8 ((rd_T25 l0 x11_1).f0.f0), .int .u8 ((rd_T25 l0 x11_1).f0.f1), .int .u8 ((rd_T25 l0 x11_1).f0.f2), .int .u8 ((rd_T25 l0 x11_1).f0.f3), .int .u8 ((rd_T25 l0 x11_1).f0.f4), .int .u8 ((rd_T25 l0 x11_1).f0.f5), .int .u8 ((rd_T25 l0 x11_1).f0.f6), .int .u8 ((rd_T25 l0 x11_1).f0.f7), .int .u8 ((rd_T25 l0 x11_1).f0.f8), .int .u8 ((rd_T25 l0 x11_1).f0.f9), .int .u8 ((rd_T25 l0 x11_1).f0.f10), .int .u8 ((rd_T25 l0 x11_1).f0.f11), .int .u8 ((rd_T25 l0 x11_1).f0.f12), .int .u8 ((rd_T25 l0 x11_1).f0.f13), .int .u8 ((rd_T25 l0 x11_1).f0.f14), .int .u8 ((rd_T25 l0 x11_1).f0.f15), .int .u8 ((rd_T25 l0 x11_1).f0.f16), .int .u8 ((rd_T25 l0 x11_1).f0.f17), .int .u8 ((rd_T25 l0 x11_1).f0.f18), .int .u8 ((rd_T25 l0 x11_1).f0.f19), .int .u8 ((rd_T25 l0 x11_1).f0.f20), .int .u8 ((rd_T25 l0 x11_1).f0.f21), .int .u8 ((rd_T25 l0 x11_1).f0.f22), .int .u8 ((rd_T25 l0 x11_1).f0.f23), .int .u8 ((rd_T25 l0 x11_1).f0.f24), .int .u8 ((rd_T25 l0 x11_1).f0.f25), .int .u8 ((rd_T25 l0 x11_1).f0.f26), .int .u8 ((rd_T25 l0 x11_1).f0.f27), .int .u8 ((rd_T25 l0 x11_1).f0.f28), .int .u8 ((rd_T25 l0 x11_1).f0.f29), .int .u8 ((rd_T25 l0 x11_1).f0.f30), .int .u8 ((rd_T25 l0 x11_1).f0.f31), .int .i64 ((rd_T25 l0 x11_1).f1)]] rfl (by (try simp only [List.map_toArray, List.map_cons, List.map_nil]); first | done | rfl | (simp only [List.length_drop, List.length_take]; rfl)) ?_; (with_reducible refine (point_Has.calls k1 _ _ l1 ((rd_T25 l0 x11_1).f0.f0) ((rd_T25 l0 x11_1).f0.f1) ((rd_T25 l0 x11_1).f0.f2) ((rd_T25 l0 x11_1).f0.f3) ((rd_T25 l0 x11_1).f0.f4) ((rd_T25 l0 x11_1).f0.f5) ((rd_T25 l0 x11_1).f0.f6) ((rd_T25 l0 x11_1).f0.f7) ((rd_T25 l0 x11_1).f0.f8) ((rd_T25 l0 x11_1).f0.f9) ((rd_T25 l0 x11_1).f0.f10) ((rd_T25 l0 x11_1).f0.f11) ((rd_T25 l0 x11_1).f0.f12) ((rd_T25 l0 x11_1).f0.f13) ((rd_T25 l0 x11_1).f0.f14) ((rd_T25 l0 x11_1).f0.f15) ((rd_T25 l0 x11_1).f0.f16) ((rd_T25 l0 x11_1).f0.f17) ((rd_T25 l0 x11_1).f0.f18) ((rd_T25 l0 x11_1).f0.f19) ((rd_T25 l0 x11_1).f0.f20) ((rd_T25 l0 x11_1).f0.f21) ((rd_T25 l0 x11_1).f0.f22) ((rd_T25 l0 x11_1).f0.f23) ((rd_T25 l0 x11_1).f0.f24) ((rd_T25 l0 x11_1).f0.f25) ((rd_T25 l0 x11_1).f0.f26) ((rd_T25 l0 x11_1).f0.f27) ((rd_T25 l0 x11_1).f0.f28) ((rd_T25 l0 x11_1).f0.f29) ((rd_T25 l0 x11_1).f0.f30) ((rd_T25 l0 x11_1).f0.f31) ((rd_T25 l0 x11_1).f1) t180 _ ?side1 ?side2 A7.out).mono ?_); (case side1 => repeat (first | exact (Kd.C_below HR1.out HB.out) | (with_reducible refine Kd.C_alloc ?_ _) | (with_reducible refine Kd.C_drewN ?_ _) | (with_reducible refine Kd.C_drew ?_))); (case side2 => exact HC1.out); rintro e w12 ⟨rfl, hb⟩; refine ⟨_, rfl, ?_⟩; have n0_ := Aside0.mk (Kd.R_below (by (with_reducible repeat (first | apply Kd.R_alloc | apply Kd.R_drewN | apply Kd.R_drew)); exact HO_6.out) hb); have n1_ := Aside0.mk (blk_below (g := gb179) (o := .cells #[.int .u8 ((rd_T25 l0 x11_1).f0.f0), .int .u8 ((rd_T25 l0 x11_1).f0.f1), .int .u8 ((rd_T25 l0 x11_1).f0.f2), .int .u8 ((rd_T25 l0 x11_1).f0.f3), .int .u8 ((rd_T25 l0 x11_1).f0.f4), .int .u8 ((rd_T25 l0 x11_1).f0.f5), .int .u8 ((rd_T25 l0 x11_1).f0.f6), .int .u8 ((rd_T25 l0 x11_1).f0.f7), .int .u8 ((rd_T25 l0 x11_1).f0.f8), .int .u8 ((rd_T25 l0 x11_1).f0.f9), .int .u8 ((rd_T25 l0 x11_1).f0.f10), .int .u8 ((rd_T25 l0 x11_1).f0.f11), .int .u8 ((rd_T25 l0 x11_1).f0.f12), .int .u8 ((rd_T25 l0 x11_1).f0.f13), .int .u8 ((rd_T25 l0 x11_1).f0.f14), .int .u8 ((rd_T25 l0 x11_1).f0.f15), .int .u8 ((rd_T25 l0 x11_1).f0.f16), .int .u8 ((rd_T25 l0 x11_1).f0.f17), .int .u8 ((rd_T25 l0 x11_1).f0.f18), .int .u8 ((rd_T25 l0 x11_1).f0.f19), .int .u8 ((rd_T25 l0 x11_1).f0.f20), .int .u8 ((rd_T25 l0 x11_1).f0.f21), .int .u8 ((rd_T25 l0 x11_1).f0.f22), .int .u8 ((rd_T25 l0 x11_1).f0.f23), .int .u8 ((rd_T25 l0 x11_1).f0.f24), .int .u8 ((rd_T25 l0 x11_1).f0.f25), .int .u8 ((rd_T25 l0 x11_1).f0.f26), .int .u8 ((rd_T25 l0 x11_1).f0.f27), .int .u8 ((rd_T25 l0 x11_1).f0.f28), .int .u8 ((rd_T25 l0 x11_1).f0.f29), .int .u8 ((rd_T25 l0 x11_1).f0.f30), .int .u8 ((rd_T25 l0 x11_1).f0.f31), .int .i64 ((rd_T25 l0 x11_1).f1)] 25 (0, 0)) (by (with_reducible repeat (first | refine blk_drewN ?_ _ | refine blk_drew ?_ | refine blk_alloc ?_ _)); exact BK179.out) hb); have n2_ := Aside0.mk (below_step (by repeat (first | (with_reducible first | exact HB.out | apply below_alloc | apply pw_below_drewN | apply below_drew1 | refine below_set ?_ GE179.out) | exact HB.out)) hb); clear HO_6; clear BK179; clear HB; have HO_6 := n0_; have BK179 := n1_; have HB := n2_; clear n0_ n1_ n2_; (try clear hb); (try clear hb2); (try clear hk); (try clear hi); have hcz13_0 : w12.cell? ⟨gb179, 0, none⟩ = some (.int .u8 ((rd_T25 l0 x11_1).f0.f0)) := (blk_cell BK179.out 0).trans rfl; have hcz13_1 : w12.cell? ⟨gb179, 1, none⟩ = some (.int .u8 ((rd_T25 l0 x11_1).f0.f1)) := (blk_cell BK179.out 1).trans rfl; have hcz13_2 : w12.cell? ⟨gb179, 2, none⟩ = some (.int .u8 ((rd_T25 l0 x11_1).f0.f2)) := (blk_cell BK179.out 2).trans rfl; have hcz13_3 : w12.cell? ⟨gb179, 3, none⟩ = some (.int .u8 ((rd_T25 l0 x11_1).f0.f3)) := (blk_cell BK179.out 3).trans rfl; have hcz13_4 : w12.cell? ⟨gb179, 4, none⟩ = some (.int .u8 ((rd_T25 l0 x11_1).f0.f4)) := (blk_cell BK179.out 4).trans rfl; have hcz13_5 : w12.cell? ⟨gb179, 5, none⟩ = some (.int .u8 ((rd_T25 l0 x11_1).f0.f5)) := (blk_cell BK179.out 5).trans rfl; have hcz13_6 : w12.cell? ⟨gb179, 6, none⟩ = some (.int .u8 ((rd_T25 l0 x11_1).f0.f6)) := (blk_cell BK179.out 6).trans rfl; have hcz13_7 : w12.cell? ⟨gb179, 7, none⟩ = some (.int .u8 ((rd_T25 l0 x11_1).f0.f7)) := (blk_cell BK179.out 7).trans rfl; have hcz13_8 : w12.cell? ⟨gb179, 8, none⟩ = some (.int .u8 ((rd_T25 l0 x11_1).f0.f8)) := (blk_cell BK179.out 8).trans rfl; have hcz13_9 : w12.cell? ⟨gb179, 9, none⟩ = some (.int .u8 ((rd_T25 l0 x11_1).f0.f9)) := (blk_cell BK179.out 9).trans rfl; have hcz13_10 : w12.cell? ⟨gb179, 10, none⟩ = some (.int .u8 ((rd_T25 l0 x11_1).f0.f10)) := (blk_cell BK179.out 10).trans rfl; have hcz13_11 : w12.cell? ⟨gb179, 11, none⟩ = some (.int .u8 ((rd_T25 l0 x11_1).f0.f11)) := (blk_cell BK179.out 11).trans rfl; have hcz13_12 : w12.cell? ⟨gb179, 12, none⟩ = some (.int .u8 ((rd_T25 l0 x11_1).f0.f12)) := (blk_cell BK179.out 12).trans rfl; have hcz13_13 : w12.cell? ⟨gb179, 13, none⟩ = some (.int .u8 ((rd_T25 l0 x11_1).f0.f13)) := (blk_cell BK179.out 13).trans rfl; have hcz13_14 : w12.cell? ⟨gb179, 14, none⟩ = some (.int .u8 ((rd_T25 l0 x11_1).f0.f14)) := (blk_cell BK179.out 14).trans rfl; have hcz13_15 : w12.cell? ⟨gb179, 15, none⟩ = some (.int .u8 ((rd_T25 l0 x11_1).f0.f15)) := (blk_cell BK179.out 15).trans rfl; have hcz13_16 : w12.cell? ⟨gb179, 16, none⟩ = some (.int .u8 ((rd_T25 l0 x11_1).f0.f16)) := (blk_cell BK179.out 16).trans rfl; have hcz13_17 : w12.cell? ⟨gb179, 17, none⟩ = some (.int .u8 ((rd_T25 l0 x11_1).f0.f17)) := (blk_cell BK179.out 17).trans rfl; have hcz13_18 : w12.cell? ⟨gb179, 18, none⟩ = some (.int .u8 ((rd_T25 l0 x11_1).f0.f18)) := (blk_cell BK179.out 18).trans rfl; have hcz13_19 : w12.cell? ⟨gb179, 19, none⟩ = some (.int .u8 ((rd_T25 l0 x11_1).f0.f19)) := (blk_cell BK179.out 19).trans rfl; have hcz13_20 : w12.cell? ⟨gb179, 20, none⟩ = some (.int .u8 ((rd_T25 l0 x11_1).f0.f20)) := (blk_cell BK179.out 20).trans rfl; have hcz13_21 : w12.cell? ⟨gb179, 21, none⟩ = some (.int .u8 ((rd_T25 l0 x11_1).f0.f21)) := (blk_cell BK179.out 21).trans rfl; have hcz13_22 : w12.cell? ⟨gb179, 22, none⟩ = some (.int .u8 ((rd_T25 l0 x11_1).f0.f22)) := (blk_cell BK179.out 22).trans rfl; have hcz13_23 : w12.cell? ⟨gb179, 23, none⟩ = some (.int .u8 ((rd_T25 l0 x11_1).f0.f23)) := (blk_cell BK179.out 23).trans rfl; have hcz13_24 : w12.cell? ⟨gb179, 24, none⟩ = some (.int .u8 ((rd_T25 l0 x11_1).f0.f24)) := (blk_cell BK179.out 24).trans rfl; have hcz13_25 : w12.cell? ⟨gb179, 25, none⟩ = some (.int .u8 ((rd_T25 l0 x11_1).f0.f25)) := (blk_cell BK179.out 25).trans rfl; have hcz13_26 : w12.cell? ⟨gb179, 26, none⟩ = some (.int .u8 ((rd_T25 l0 x11_1).f0.f26)) := (blk_cell BK179.out 26).trans rfl; have hcz13_27 : w12.cell? ⟨gb179, 27, none⟩ = some (.int .u8 ((rd_T25 l0 x11_1).f0.f27)) := (blk_cell BK179.out 27).trans rfl; have hcz13_28 : w12.cell? ⟨gb179, 28, none⟩ = some (.int .u8 ((rd_T25 l0 x11_1).f0.f28)) := (blk_cell BK179.out 28).trans rfl; have hcz13_29 : w12.cell? ⟨gb179, 29, none⟩ = some (.int .u8 ((rd_T25 l0 x11_1).f0.f29)) := (blk_cell BK179.out 29).trans rfl; have hcz13_30 : w12.cell? ⟨gb179, 30, none⟩ = some (.int .u8 ((rd_T25 l0 x11_1).f0.f30)) := (blk_cell BK179.out 30).trans rfl; have hcz13_31 : w12.cell? ⟨gb179, 31, none⟩ = some (.int .u8 ((rd_T25 l0 x11_1).f0.f31)) := (blk_cell BK179.out 31).trans rfl; have hcz13_32 : w12.cell? ⟨gb179, 32, none⟩ = some (.int .i64 ((rd_T25 l0 x11_1).f1)) := (blk_cell BK179.out 32).trans rfl; have hwz13_0_32 := Go.Proofs.YtmoecidfmgeafaaDoor.Wide.mk32 (a := ⟨gb179, 0, none⟩) hcz13_0 hcz13_1 hcz13_2 hcz13_3 hcz13_4 hcz13_5 hcz13_6 hcz13_7 hcz13_8 hcz13_9 hcz13_10 hcz13_11 hcz13_12 hcz13_13 hcz13_14 hcz13_15 hcz13_16 hcz13_17 hcz13_18 hcz13_19 hcz13_20 hcz13_21 hcz13_22 hcz13_23 hcz13_24 hcz13_25 hcz13_26 hcz13_27 hcz13_28 hcz13_29 hcz13_30 hcz13_31; have hwz13_0_33 := Go.Proofs.YtmoecidfmgeafaaDoor.Wide.mk33 (a := ⟨gb179, 0, none⟩) hcz13_0 hcz13_1 hcz13_2 hcz13_3 hcz13_4 hcz13_5 hcz13_6 hcz13_7 hcz13_8 hcz13_9 hcz13_10 hcz13_11 hcz13_12 hcz13_13 hcz13_14 hcz13_15 hcz13_16 hcz13_17 hcz13_18 hcz13_19 hcz13_20 hcz13_21 hcz13_22 hcz13_23 hcz13_24 hcz13_25 hcz13_26 hcz13_27 hcz13_28 hcz13_29 hcz13_30 hcz13_31 hcz13_32; have hfz13_0 := blk_frozen BK179.out 0; have hfz13_1 := blk_frozen BK179.out 1; have hfz13_2 := blk_frozen BK179.out 2; have hfz13_3 := blk_frozen BK179.out 3; have hfz13_4 := blk_frozen BK179.out 4; have hfz13_5 := blk_frozen BK179.out 5; have hfz13_6 := blk_frozen BK179.out 6; have hfz13_7 := blk_frozen BK179.out 7; have hfz13_8 := blk_frozen BK179.out 8; have hfz13_9 := blk_frozen BK179.out 9; have hfz13_10 := blk_frozen BK179.out 10; have hfz13_11 := blk_frozen BK179.out 11; have hfz13_12 := blk_frozen BK179.out 12; have hfz13_13 := blk_frozen BK179.out 13; have hfz13_14 := blk_frozen BK179.out 14; have hfz13_15 := blk_frozen BK179.out 15; have hfz13_16 := blk_frozen BK179.out 16; have hfz13_17 := blk_frozen BK179.out 17; have hfz13_18 := blk_frozen BK179.out 18; have hfz13_19 := blk_frozen BK179.out 19; have hfz13_20 := blk_frozen BK179.out 20; have hfz13_21 := blk_frozen BK179.out 21; have hfz13_22 := blk_frozen BK179.out 22; have hfz13_23 := blk_frozen BK179.out 23; have hfz13_24 := blk_frozen BK179.out 24; have hfz13_25 := blk_frozen BK179.out 25; have hfz13_26 := blk_frozen BK179.out 26; have hfz13_27 := blk_frozen BK179.out 27; have hfz13_28 := blk_frozen BK179.out 28; have hfz13_29 := blk_frozen BK179.out 29; have hfz13_30 := blk_frozen BK179.out 30; have hfz13_31 := blk_frozen BK179.out 31; have hfz13_32 := blk_frozen BK179.out 32) | ((with_reducible refine gate_builtin (b := .append) (xs := #[.tmp 20, .tmp 22]) rfl ?_); at_builtin; refine Kd.R_append k25 (w0 := w) w.heap.size rfl (.tmp 20) (.tmp 22) 31 25 (.agg #[(.int .u8 0), (.int .u8 0), (.int .u8 0), (.int .u8 0), (.int .u8 0), (.int .u8 0), (.int .u8 0), (.int .u8 0), (.int .u8 0), (.int .u8 0), (.int .u8 0), (.int .u8 0), (.int .u8 0), (.int .u8 0), (.int .u8 0), (.int .u8 0), (.int .u8 0), (.int .u8 0), (.int .u8 0), (.int .u8 0), (.int .u8 0), (.int .u8 0), (.int .u8 0), (.int .u8 0), (.int .u8 0), (.int .u8 0), (.int .u8 0), (.int .u8 0), (.int .u8 0), (.int .u8 0), (.int .u8 0), (.int .u8 0), (.int .i64 0)]) 40 rfl Tryd.underlying31 info25 rfl (by decide) (by omega) u6 x6_1 (⟨(⟨(rd_T25 l0 x11_1).f0.f0, (rd_T25 l0 x11_1).f0.f1, (rd_T25 l0 x11_1).f0.f2, (rd_T25 l0 x11_1).f0.f3, (rd_T25 l0 x11_1).f0.f4, (rd_T25 l0 x11_1).f0.f5, (rd_T25 l0 x11_1).f0.f6, (rd_T25 l0 x11_1).f0.f7, (rd_T25 l0 x11_1).f0.f8, (rd_T25 l0 x11_1).f0.f9, (rd_T25 l0 x11_1).f0.f10, (rd_T25 l0 x11_1).f0.f11, (rd_T25 l0 x11_1).f0.f12, (rd_T25 l0 x11_1).f0.f13, (rd_T25 l0 x11_1).f0.f14, (rd_T25 l0 x11_1).f0.f15, (rd_T25 l0 x11_1).f0.f16, (rd_T25 l0 x11_1).f0.f17, (rd_T25 l0 x11_1).f0.f18, (rd_T25 l0 x11_1).f0.f19, (rd_T25 l0 x11_1).f0.f20, (rd_T25 l0 x11_1).f0.f21, (rd_T25 l0 x11_1).f0.f22, (rd_T25 l0 x11_1).f0.f23, (rd_T25 l0 x11_1).f0.f24, (rd_T25 l0 x11_1).f0.f25, (rd_T25 l0 x11_1).f0.f26, (rd_T25 l0 x11_1).f0.f27, (rd_T25 l0 x11_1).f0.f28, (rd_T25 l0 x11_1).f0.f29, (rd_T25 l0 x11_1).f0.f30, (rd_T25 l0 x11_1).f0.f31⟩ : S23), (rd_T25 l0 x11_1).f1⟩ : S25) (.int .u8 ((rd_T25 l0 x11_1).f0.f0) :: .int .u8 ((rd_T25 l0 x11_1).f0.f1) :: .int .u8 ((rd_T25 l0 x11_1).f0.f2) :: .int .u8 ((rd_T25 l0 x11_1).f0.f3) :: .int .u8 ((rd_T25 l0 x11_1).f0.f4) :: .int .u8 ((rd_T25 l0 x11_1).f0.f5) :: .int .u8 ((rd_T25 l0 x11_1).f0.f6) :: .int .u8 ((rd_T25 l0 x11_1).f0.f7) :: .int .u8 ((rd_T25 l0 x11_1).f0.f8) :: .int .u8 ((rd_T25 l0 x11_1).f0.f9) :: .int .u8 ((rd_T25 l0 x11_1).f0.f10) :: .int .u8 ((rd_T25 l0 x11_1).f0.f11) :: .int .u8 ((rd_T25 l0 x11_1).f0.f12) :: .int .u8 ((rd_T25 l0 x11_1).f0.f13) :: .int .u8 ((rd_T25 l0 x11_1).f0.f14) :: .int .u8 ((rd_T25 l0 x11_1).f0.f15) :: .int .u8 ((rd_T25 l0 x11_1).f0.f16) :: .int .u8 ((rd_T25 l0 x11_1).f0.f17) :: .int .u8 ((rd_T25 l0 x11_1).f0.f18) :: .int .u8 ((rd_T25 l0 x11_1).f0.f19) :: .int .u8 ((rd_T25 l0 x11_1).f0.f20) :: .int .u8 ((rd_T25 l0 x11_1).f0.f21) :: .int .u8 ((rd_T25 l0 x11_1).f0.f22) :: .int .u8 ((rd_T25 l0 x11_1).f0.f23) :: .int .u8 ((rd_T25 l0 x11_1).f0.f24) :: .int .u8 ((rd_T25 l0 x11_1).f0.f25) :: .int .u8 ((rd_T25 l0 x11_1).f0.f26) :: .int .u8 ((rd_T25 l0 x11_1).f0.f27) :: .int .u8 ((rd_T25 l0 x11_1).f0.f28) :: .int .u8 ((rd_T25 l0 x11_1).f0.f29) :: .int .u8 ((rd_T25 l0 x11_1).f0.f30) :: .int .u8 ((rd_T25 l0 x11_1).f0.f31) :: .int .i64 ((rd_T25 l0 x11_1).f1) :: []) (fun k_ => k_ ≠ gb179) (fun _ => False) rfl rfl ?aP (fun _ hk => hk.elim) ?aF ?aO ?aB ?aS ?aL ?_; (case aP => exact k25_mkM _ _ _ (⟨(⟨(rd_T25 l0 x11_1).f0.f0, (rd_T25 l0 x11_1).f0.f1, (rd_T25 l0 x11_1).f0.f2, (rd_T25 l0 x11_1).f0.f3, (rd_T25 l0 x11_1).f0.f4, (rd_T25 l0 x11_1).f0.f5, (rd_T25 l0 x11_1).f0.f6, (rd_T25 l0 x11_1).f0.f7, (rd_T25 l0 x11_1).f0.f8, (rd_T25 l0 x11_1).f0.f9, (rd_T25 l0 x11_1).f0.f10, (rd_T25 l0 x11_1).f0.f11, (rd_T25 l0 x11_1).f0.f12, (rd_T25 l0 x11_1).f0.f13, (rd_T25 l0 x11_1).f0.f14, (rd_T25 l0 x11_1).f0.f15, (rd_T25 l0 x11_1).f0.f16, (rd_T25 l0 x11_1).f0.f17, (rd_T25 l0 x11_1).f0.f18, (rd_T25 l0 x11_1).f0.f19, (rd_T25 l0 x11_1).f0.f20, (rd_T25 l0 x11_1).f0.f21, (rd_T25 l0 x11_1).f0.f22, (rd_T25 l0 x11_1).f0.f23, (rd_T25 l0 x11_1).f0.f24, (rd_T25 l0 x11_1).f0.f25, (rd_T25 l0 x11_1).f0.f26, (rd_T25 l0 x11_1).f0.f27, (rd_T25 l0 x11_1).f0.f28, (rd_T25 l0 x11_1).f0.f29, (rd_T25 l0 x11_1).f0.f30, (rd_T25 l0 x11_1).f0.f31⟩ : S23), (rd_T25 l0 x11_1).f1⟩ : S25)); (case aB => exact (by repeat (first | (with_reducible first | exact HB.out | apply below_alloc | apply pw_below_drewN | apply below_drew1 | refine below_set ?_ GE179.out) | exact HB.out))); (case aF => exact (fun k_ hk => Kd.freshB (g := gb179) (o := .cells #[.int .u8 ((rd_T25 l0 x11_1).f0.f0), .int .u8 ((rd_T25 l0 x11_1).f0.f1), .int .u8 ((rd_T25 l0 x11_1).f0.f2), .int .u8 ((rd_T25 l0 x11_1).f0.f3), .int .u8 ((rd_T25 l0 x11_1).f0.f4), .int .u8 ((rd_T25 l0 x11_1).f0.f5), .int .u8 ((rd_T25 l0 x11_1).f0.f6), .int .u8 ((rd_T25 l0 x11_1).f0.f7), .int .u8 ((rd_T25 l0 x11_1).f0.f8), .int .u8 ((rd_T25 l0 x11_1).f0.f9), .int .u8 ((rd_T25 l0 x11_1).f0.f10), .int .u8 ((rd_T25 l0 x11_1).f0.f11), .int .u8 ((rd_T25 l0 x11_1).f0.f12), .int .u8 ((rd_T25 l0 x11_1).f0.f13), .int .u8 ((rd_T25 l0 x11_1).f0.f14), .int .u8 ((rd_T25 l0 x11_1).f0.f15), .int .u8 ((rd_T25 l0 x11_1).f0.f16), .int .u8 ((rd_T25 l0 x11_1).f0.f17), .int .u8 ((rd_T25 l0 x11_1).f0.f18), .int .u8 ((rd_T25 l0 x11_1).f0.f19), .int .u8 ((rd_T25 l0 x11_1).f0.f20), .int .u8 ((rd_T25 l0 x11_1).f0.f21), .int .u8 ((rd_T25 l0 x11_1).f0.f22), .int .u8 ((rd_T25 l0 x11_1).f0.f23), .int .u8 ((rd_T25 l0 x11_1).f0.f24), .int .u8 ((rd_T25 l0 x11_1).f0.f25), .int .u8 ((rd_T25 l0 x11_1).f0.f26), .int .u8 ((rd_T25 l0 x11_1).f0.f27), .int .u8 ((rd_T25 l0 x11_1).f0.f28), .int .u8 ((rd_T25 l0 x11_1).f0.f29), .int .u8 ((rd_T25 l0 x11_1).f0.f30), .int .u8 ((rd_T25 l0 x11_1).f0.f31), .int .i64 ((rd_T25 l0 x11_1).f1)] 25 (0, 0)) (by (with_reducible repeat (first | refine blk_drewN ?_ _ | refine blk_drew ?_ | refine blk_alloc ?_ _)); exact BK179.out) k_ hk)); (case aO => exact (by (with_reducible repeat (first | apply Kd.R_alloc | apply Kd.R_drewN | apply Kd.R_drew)); exact Kd.R_mono HO_6.out (fun _ hk => hk.2))); (case aS => exact (below_size (by repeat (first | (with_reducible first | exact HB.out | apply below_alloc | apply pw_below_drewN | apply below_drew1 | refine below_set ?_ GE179.out) | exact HB.out)))); (case aL => have := LMc9.out; omega); intro v182 w14 ho hb hg hat; rw [← Ny181.out] at ho; have n0_ := Aside0.mk (blk_grown (g := gb179) (o := .cells #[.int .u8 ((rd_T25 l0 x11_1).f0.f0), .int .u8 ((rd_T25 l0 x11_1).f0.f1), .int .u8 ((rd_T25 l0 x11_1).f0.f2), .int .u8 ((rd_T25 l0 x11_1).f0.f3), .int .u8 ((rd_T25 l0 x11_1).f0.f4), .int .u8 ((rd_T25 l0 x11_1).f0.f5), .int .u8 ((rd_T25 l0 x11_1).f0.f6), .int .u8 ((rd_T25 l0 x11_1).f0.f7), .int .u8 ((rd_T25 l0 x11_1).f0.f8), .int .u8 ((rd_T25 l0 x11_1).f0.f9), .int .u8 ((rd_T25 l0 x11_1).f0.f10), .int .u8 ((rd_T25 l0 x11_1).f0.f11), .int .u8 ((rd_T25 l0 x11_1).f0.f12), .int .u8 ((rd_T25 l0 x11_1).f0.f13), .int .u8 ((rd_T25 l0 x11_1).f0.f14), .int .u8 ((rd_T25 l0 x11_1).f0.f15), .int .u8 ((rd_T25 l0 x11_1).f0.f16), .int .u8 ((rd_T25 l0 x11_1).f0.f17), .int .u8 ((rd_T25 l0 x11_1).f0.f18), .int .u8 ((rd_T25 l0 x11_1).f0.f19), .int .u8 ((rd_T25 l0 x11_1).f0.f20), .int .u8 ((rd_T25 l0 x11_1).f0.f21), .int .u8 ((rd_T25 l0 x11_1).f0.f22), .int .u8 ((rd_T25 l0 x11_1).f0.f23), .int .u8 ((rd_T25 l0 x11_1).f0.f24), .int .u8 ((rd_T25 l0 x11_1).f0.f25), .int .u8 ((rd_T25 l0 x11_1).f0.f26), .int .u8 ((rd_T25 l0 x11_1).f0.f27), .int .u8 ((rd_T25 l0 x11_1).f0.f28), .int .u8 ((rd_T25 l0 x11_1).f0.f29), .int .u8 ((rd_T25 l0 x11_1).f0.f30), .int .u8 ((rd_T25 l0 x11_1).f0.f31), .int .i64 ((rd_T25 l0 x11_1).f1)] 25 (0, 0)) (by (with_reducible repeat (first | refine blk_drewN ?_ _ | refine blk_drew ?_ | refine blk_alloc ?_ _)); exact BK179.out) hg (Kd.R_away HO_6.out (fun _ hk => hk.2))); have n1_ := Aside0.mk (hb); have n2_ := Aside0.mk (ho); clear BK179; clear HB; clear HO_6; have BK179 := n0_; have HB := n1_; have HO183 := n2_; clear n0_ n1_ n2_; clear ho hb hg hat))
                go_roundg k1
                case measure => have := HK1.out; omega
                case rel => exact ⟨(y181), (wrap64 (x11_1 + 1)), (by first | rfl | (simp; done) | (simp [*]; done)), H', ⟨by have := HK1.out; omega⟩, ⟨by (with_reducible repeat (first | apply Kd.R_alloc | apply Kd.R_drewN | apply Kd.R_drew)); exact Kd.R_mono HO183.out (fun _ hk => trivial)⟩, ⟨by repeat (first | (with_reducible first | exact HB.out | apply below_alloc | apply pw_below_drewN | apply below_drew1 | refine below_set ?_ GE179.out) | exact HB.out)⟩⟩
              · rw [if_neg c9] at H
                exact absurd H (by simp)
            · rw [if_neg c8] at H
              have c8b0 : (t180 == a2) = false := by simpa using c8
              (try (have c8b1 : decide (t180 = a2) = false := by simpa using c8))
              (try (have c8b2 : (t180 == a2) = false := by simpa using c8))
              (try (have c8b3 : ¬ (t180 = a2) := by simpa using c8))
              clear c8
              have H' := Aside0.mk H
              clear H
              have p178 : 0 ≤ (x11_1 : Int) := of_decide_eq_true (by first | (with_reducible assumption) | assumption)
              have q178 : x11_1 < (l0.length : Int) := of_decide_eq_true (by first | (with_reducible assumption) | assumption)
              obtain ⟨ad178, e178, hx178_0, hx178_1, hx178_2, hx178_3, hx178_4, hx178_5, hx178_6, hx178_7, hx178_8, hx178_9, hx178_10, hx178_11, hx178_12, hx178_13, hx178_14, hx178_15, hx178_16, hx178_17, hx178_18, hx178_19, hx178_20, hx178_21, hx178_22, hx178_23, hx178_24, hx178_25, hx178_26, hx178_27, hx178_28, hx178_29, hx178_30, hx178_31, hx178_32⟩ := at_T25 HR0.out x11_1 p178 q178
              cases e178
              replace hx178_0 := (HB.out.cell (World.block_lt_of_cell? w _ hx178_0)).trans hx178_0
              replace hx178_1 := (HB.out.cell (World.block_lt_of_cell? w _ hx178_1)).trans hx178_1
              replace hx178_2 := (HB.out.cell (World.block_lt_of_cell? w _ hx178_2)).trans hx178_2
              replace hx178_3 := (HB.out.cell (World.block_lt_of_cell? w _ hx178_3)).trans hx178_3
              replace hx178_4 := (HB.out.cell (World.block_lt_of_cell? w _ hx178_4)).trans hx178_4
              replace hx178_5 := (HB.out.cell (World.block_lt_of_cell? w _ hx178_5)).trans hx178_5
              replace hx178_6 := (HB.out.cell (World.block_lt_of_cell? w _ hx178_6)).trans hx178_6
              replace hx178_7 := (HB.out.cell (World.block_lt_of_cell? w _ hx178_7)).trans hx178_7
              replace hx178_8 := (HB.out.cell (World.block_lt_of_cell? w _ hx178_8)).trans hx178_8
              replace hx178_9 := (HB.out.cell (World.block_lt_of_cell? w _ hx178_9)).trans hx178_9
              replace hx178_10 := (HB.out.cell (World.block_lt_of_cell? w _ hx178_10)).trans hx178_10
              replace hx178_11 := (HB.out.cell (World.block_lt_of_cell? w _ hx178_11)).trans hx178_11
              replace hx178_12 := (HB.out.cell (World.block_lt_of_cell? w _ hx178_12)).trans hx178_12
              replace hx178_13 := (HB.out.cell (World.block_lt_of_cell? w _ hx178_13)).trans hx178_13
              replace hx178_14 := (HB.out.cell (World.block_lt_of_cell? w _ hx178_14)).trans hx178_14
              replace hx178_15 := (HB.out.cell (World.block_lt_of_cell? w _ hx178_15)).trans hx178_15
              replace hx178_16 := (HB.out.cell (World.block_lt_of_cell? w _ hx178_16)).trans hx178_16
              replace hx178_17 := (HB.out.cell (World.block_lt_of_cell? w _ hx178_17)).trans hx178_17
              replace hx178_18 := (HB.out.cell (World.block_lt_of_cell? w _ hx178_18)).trans hx178_18
              replace hx178_19 := (HB.out.cell (World.block_lt_of_cell? w _ hx178_19)).trans hx178_19
              replace hx178_20 := (HB.out.cell (World.block_lt_of_cell? w _ hx178_20)).trans hx178_20
              replace hx178_21 := (HB.out.cell (World.block_lt_of_cell? w _ hx178_21)).trans hx178_21
              replace hx178_22 := (HB.out.cell (World.block_lt_of_cell? w _ hx178_22)).trans hx178_22
              replace hx178_23 := (HB.out.cell (World.block_lt_of_cell? w _ hx178_23)).trans hx178_23
              replace hx178_24 := (HB.out.cell (World.block_lt_of_cell? w _ hx178_24)).trans hx178_24
              replace hx178_25 := (HB.out.cell (World.block_lt_of_cell? w _ hx178_25)).trans hx178_25
              replace hx178_26 := (HB.out.cell (World.block_lt_of_cell? w _ hx178_26)).trans hx178_26
              replace hx178_27 := (HB.out.cell (World.block_lt_of_cell? w _ hx178_27)).trans hx178_27
              replace hx178_28 := (HB.out.cell (World.block_lt_of_cell? w _ hx178_28)).trans hx178_28
              replace hx178_29 := (HB.out.cell (World.block_lt_of_cell? w _ hx178_29)).trans hx178_29
              replace hx178_30 := (HB.out.cell (World.block_lt_of_cell? w _ hx178_30)).trans hx178_30
              replace hx178_31 := (HB.out.cell (World.block_lt_of_cell? w _ hx178_31)).trans hx178_31
              replace hx178_32 := (HB.out.cell (World.block_lt_of_cell? w _ hx178_32)).trans hx178_32
              replace p178 := eq_true p178
              replace q178 := eq_true q178
              have hw178_0_32 := Go.Proofs.YtmoecidfmgeafaaDoor.Wide.mk32 hx178_0 hx178_1 hx178_2 hx178_3 hx178_4 hx178_5 hx178_6 hx178_7 hx178_8 hx178_9 hx178_10 hx178_11 hx178_12 hx178_13 hx178_14 hx178_15 hx178_16 hx178_17 hx178_18 hx178_19 hx178_20 hx178_21 hx178_22 hx178_23 hx178_24 hx178_25 hx178_26 hx178_27 hx178_28 hx178_29 hx178_30 hx178_31
              have hw178_0_33 := Go.Proofs.YtmoecidfmgeafaaDoor.Wide.mk33 hx178_0 hx178_1 hx178_2 hx178_3 hx178_4 hx178_5 hx178_6 hx178_7 hx178_8 hx178_9 hx178_10 hx178_11 hx178_12 hx178_13 hx178_14 hx178_15 hx178_16 hx178_17 hx178_18 hx178_19 hx178_20 hx178_21 hx178_22 hx178_23 hx178_24 hx178_25 hx178_26 hx178_27 hx178_28 hx178_29 hx178_30 hx178_31 hx178_32
              go_wp2_with (first | ((with_reducible refine gate_dst (N := 8) rfl ?_); refine Go.Proofs.YtmoecidfmgeafaaDoor.Fill.fill_event (N := 8) (x := 14) (cs := #[.int .u8 ((rd_T25 l0 x11_1).f0.f0), .int .u8 ((rd_T25 l0 x11_1).f0.f1), .int .u8 ((rd_T25 l0 x11_1).f0.f2), .int .u8 ((rd_T25 l0 x11_1).f0.f3), .int .u8 ((rd_T25 l0 x11_1).f0.f4), .int .u8 ((rd_T25 l0 x11_1).f0.f5), .int .u8 ((rd_T25 l0 x11_1).f0.f6), .int .u8 ((rd_T25 l0 x11_1).f0.f7), .int .u8 ((rd_T25 l0 x11_1).f0.f8), .int .u8 ((rd_T25 l0 x11_1).f0.f9), .int .u8 ((rd_T25 l0 x11_1).f0.f10), .int .u8 ((rd_T25 l0 x11_1).f0.f11), .int .u8 ((rd_T25 l0 x11_1).f0.f12), .int .u8 ((rd_T25 l0 x11_1).f0.f13), .int .u8 ((rd_T25 l0 x11_1).f0.f14), .int .u8 ((rd_T25 l0 x11_1).f0.f15), .int .u8 ((rd_T25 l0 x11_1).f0.f16), .int .u8 ((rd_T25 l0 x11_1).f0.f17), .int .u8 ((rd_T25 l0 x11_1).f0.f18), .int .u8 ((rd_T25 l0 x11_1).f0.f19), .int .u8 ((rd_T25 l0 x11_1).f0.f20), .int .u8 ((rd_T25 l0 x11_1).f0.f21), .int .u8 ((rd_T25 l0 x11_1).f0.f22), .int .u8 ((rd_T25 l0 x11_1).f0.f23), .int .u8 ((rd_T25 l0 x11_1).f0.f24), .int .u8 ((rd_T25 l0 x11_1).f0.f25), .int .u8 ((rd_T25 l0 x11_1).f0.f26), .int .u8 ((rd_T25 l0 x11_1).f0.f27), .int .u8 ((rd_T25 l0 x11_1).f0.f28), .int .u8 ((rd_T25 l0 x11_1).f0.f29), .int .u8 ((rd_T25 l0 x11_1).f0.f30), .int .u8 ((rd_T25 l0 x11_1).f0.f31), .int .i64 ((rd_T25 l0 x11_1).f1)]) (t := 25) rfl rfl rfl rfl rfl rfl Tryd.zeroValue25 Tryd.sizeOf25 rfl rfl (fun _ => rfl) (fun _ => rfl) ?_; intro gb179 hg w15 hbox hb; have n0_ := Aside0.mk (Kd.R_below (Kd.R_elderB (by (with_reducible repeat (first | apply Kd.R_alloc | apply Kd.R_drewN | apply Kd.R_drew)); exact HO_6.out) gb179 (Nat.le_of_eq hg.symm)) hb); have n1_ := Aside0.mk (below_step (by repeat (first | (with_reducible first | exact HB.out | apply below_alloc | apply pw_below_drewN | apply below_drew1) | exact HB.out)) hb); have n2_ := Aside0.mk (hbox); have n3_ := Aside0.mk ((by rw [hg]; exact (below_size (by repeat (first | (with_reducible first | exact HB.out | apply below_alloc | apply pw_below_drewN | apply below_drew1) | exact HB.out))) : w.heap.size ≤ gb179)); have n4_ := Aside0.mk ((by rw [hg]; exact (below_size (by repeat (first | (with_reducible first | exact HB.out | apply below_alloc | apply pw_below_drewN | apply below_drew1) | exact HB.out))) : w.heap.size ≤ gb179)); clear HO_6; clear HB; have HO_6 := n0_; have HB := n1_; have BK179 := n2_; have GW179 := n3_; have GE179 := n4_; clear n0_ n1_ n2_ n3_ n4_; clear hb hbox hg; have hcz16_0 : w15.cell? ⟨gb179, 0, none⟩ = some (.int .u8 ((rd_T25 l0 x11_1).f0.f0)) := (blk_cell BK179.out 0).trans rfl; have hcz16_1 : w15.cell? ⟨gb179, 1, none⟩ = some (.int .u8 ((rd_T25 l0 x11_1).f0.f1)) := (blk_cell BK179.out 1).trans rfl; have hcz16_2 : w15.cell? ⟨gb179, 2, none⟩ = some (.int .u8 ((rd_T25 l0 x11_1).f0.f2)) := (blk_cell BK179.out 2).trans rfl; have hcz16_3 : w15.cell? ⟨gb179, 3, none⟩ = some (.int .u8 ((rd_T25 l0 x11_1).f0.f3)) := (blk_cell BK179.out 3).trans rfl; have hcz16_4 : w15.cell? ⟨gb179, 4, none⟩ = some (.int .u8 ((rd_T25 l0 x11_1).f0.f4)) := (blk_cell BK179.out 4).trans rfl; have hcz16_5 : w15.cell? ⟨gb179, 5, none⟩ = some (.int .u8 ((rd_T25 l0 x11_1).f0.f5)) := (blk_cell BK179.out 5).trans rfl; have hcz16_6 : w15.cell? ⟨gb179, 6, none⟩ = some (.int .u8 ((rd_T25 l0 x11_1).f0.f6)) := (blk_cell BK179.out 6).trans rfl; have hcz16_7 : w15.cell? ⟨gb179, 7, none⟩ = some (.int .u8 ((rd_T25 l0 x11_1).f0.f7)) := (blk_cell BK179.out 7).trans rfl; have hcz16_8 : w15.cell? ⟨gb179, 8, none⟩ = some (.int .u8 ((rd_T25 l0 x11_1).f0.f8)) := (blk_cell BK179.out 8).trans rfl; have hcz16_9 : w15.cell? ⟨gb179, 9, none⟩ = some (.int .u8 ((rd_T25 l0 x11_1).f0.f9)) := (blk_cell BK179.out 9).trans rfl; have hcz16_10 : w15.cell? ⟨gb179, 10, none⟩ = some (.int .u8 ((rd_T25 l0 x11_1).f0.f10)) := (blk_cell BK179.out 10).trans rfl; have hcz16_11 : w15.cell? ⟨gb179, 11, none⟩ = some (.int .u8 ((rd_T25 l0 x11_1).f0.f11)) := (blk_cell BK179.out 11).trans rfl; have hcz16_12 : w15.cell? ⟨gb179, 12, none⟩ = some (.int .u8 ((rd_T25 l0 x11_1).f0.f12)) := (blk_cell BK179.out 12).trans rfl; have hcz16_13 : w15.cell? ⟨gb179, 13, none⟩ = some (.int .u8 ((rd_T25 l0 x11_1).f0.f13)) := (blk_cell BK179.out 13).trans rfl; have hcz16_14 : w15.cell? ⟨gb179, 14, none⟩ = some (.int .u8 ((rd_T25 l0 x11_1).f0.f14)) := (blk_cell BK179.out 14).trans rfl; have hcz16_15 : w15.cell? ⟨gb179, 15, none⟩ = some (.int .u8 ((rd_T25 l0 x11_1).f0.f15)) := (blk_cell BK179.out 15).trans rfl; have hcz16_16 : w15.cell? ⟨gb179, 16, none⟩ = some (.int .u8 ((rd_T25 l0 x11_1).f0.f16)) := (blk_cell BK179.out 16).trans rfl; have hcz16_17 : w15.cell? ⟨gb179, 17, none⟩ = some (.int .u8 ((rd_T25 l0 x11_1).f0.f17)) := (blk_cell BK179.out 17).trans rfl; have hcz16_18 : w15.cell? ⟨gb179, 18, none⟩ = some (.int .u8 ((rd_T25 l0 x11_1).f0.f18)) := (blk_cell BK179.out 18).trans rfl; have hcz16_19 : w15.cell? ⟨gb179, 19, none⟩ = some (.int .u8 ((rd_T25 l0 x11_1).f0.f19)) := (blk_cell BK179.out 19).trans rfl; have hcz16_20 : w15.cell? ⟨gb179, 20, none⟩ = some (.int .u8 ((rd_T25 l0 x11_1).f0.f20)) := (blk_cell BK179.out 20).trans rfl; have hcz16_21 : w15.cell? ⟨gb179, 21, none⟩ = some (.int .u8 ((rd_T25 l0 x11_1).f0.f21)) := (blk_cell BK179.out 21).trans rfl; have hcz16_22 : w15.cell? ⟨gb179, 22, none⟩ = some (.int .u8 ((rd_T25 l0 x11_1).f0.f22)) := (blk_cell BK179.out 22).trans rfl; have hcz16_23 : w15.cell? ⟨gb179, 23, none⟩ = some (.int .u8 ((rd_T25 l0 x11_1).f0.f23)) := (blk_cell BK179.out 23).trans rfl; have hcz16_24 : w15.cell? ⟨gb179, 24, none⟩ = some (.int .u8 ((rd_T25 l0 x11_1).f0.f24)) := (blk_cell BK179.out 24).trans rfl; have hcz16_25 : w15.cell? ⟨gb179, 25, none⟩ = some (.int .u8 ((rd_T25 l0 x11_1).f0.f25)) := (blk_cell BK179.out 25).trans rfl; have hcz16_26 : w15.cell? ⟨gb179, 26, none⟩ = some (.int .u8 ((rd_T25 l0 x11_1).f0.f26)) := (blk_cell BK179.out 26).trans rfl; have hcz16_27 : w15.cell? ⟨gb179, 27, none⟩ = some (.int .u8 ((rd_T25 l0 x11_1).f0.f27)) := (blk_cell BK179.out 27).trans rfl; have hcz16_28 : w15.cell? ⟨gb179, 28, none⟩ = some (.int .u8 ((rd_T25 l0 x11_1).f0.f28)) := (blk_cell BK179.out 28).trans rfl; have hcz16_29 : w15.cell? ⟨gb179, 29, none⟩ = some (.int .u8 ((rd_T25 l0 x11_1).f0.f29)) := (blk_cell BK179.out 29).trans rfl; have hcz16_30 : w15.cell? ⟨gb179, 30, none⟩ = some (.int .u8 ((rd_T25 l0 x11_1).f0.f30)) := (blk_cell BK179.out 30).trans rfl; have hcz16_31 : w15.cell? ⟨gb179, 31, none⟩ = some (.int .u8 ((rd_T25 l0 x11_1).f0.f31)) := (blk_cell BK179.out 31).trans rfl; have hcz16_32 : w15.cell? ⟨gb179, 32, none⟩ = some (.int .i64 ((rd_T25 l0 x11_1).f1)) := (blk_cell BK179.out 32).trans rfl; have hwz16_0_32 := Go.Proofs.YtmoecidfmgeafaaDoor.Wide.mk32 (a := ⟨gb179, 0, none⟩) hcz16_0 hcz16_1 hcz16_2 hcz16_3 hcz16_4 hcz16_5 hcz16_6 hcz16_7 hcz16_8 hcz16_9 hcz16_10 hcz16_11 hcz16_12 hcz16_13 hcz16_14 hcz16_15 hcz16_16 hcz16_17 hcz16_18 hcz16_19 hcz16_20 hcz16_21 hcz16_22 hcz16_23 hcz16_24 hcz16_25 hcz16_26 hcz16_27 hcz16_28 hcz16_29 hcz16_30 hcz16_31; have hwz16_0_33 := Go.Proofs.YtmoecidfmgeafaaDoor.Wide.mk33 (a := ⟨gb179, 0, none⟩) hcz16_0 hcz16_1 hcz16_2 hcz16_3 hcz16_4 hcz16_5 hcz16_6 hcz16_7 hcz16_8 hcz16_9 hcz16_10 hcz16_11 hcz16_12 hcz16_13 hcz16_14 hcz16_15 hcz16_16 hcz16_17 hcz16_18 hcz16_19 hcz16_20 hcz16_21 hcz16_22 hcz16_23 hcz16_24 hcz16_25 hcz16_26 hcz16_27 hcz16_28 hcz16_29 hcz16_30 hcz16_31 hcz16_32; have hfz16_0 := blk_frozen BK179.out 0; have hfz16_1 := blk_frozen BK179.out 1; have hfz16_2 := blk_frozen BK179.out 2; have hfz16_3 := blk_frozen BK179.out 3; have hfz16_4 := blk_frozen BK179.out 4; have hfz16_5 := blk_frozen BK179.out 5; have hfz16_6 := blk_frozen BK179.out 6; have hfz16_7 := blk_frozen BK179.out 7; have hfz16_8 := blk_frozen BK179.out 8; have hfz16_9 := blk_frozen BK179.out 9; have hfz16_10 := blk_frozen BK179.out 10; have hfz16_11 := blk_frozen BK179.out 11; have hfz16_12 := blk_frozen BK179.out 12; have hfz16_13 := blk_frozen BK179.out 13; have hfz16_14 := blk_frozen BK179.out 14; have hfz16_15 := blk_frozen BK179.out 15; have hfz16_16 := blk_frozen BK179.out 16; have hfz16_17 := blk_frozen BK179.out 17; have hfz16_18 := blk_frozen BK179.out 18; have hfz16_19 := blk_frozen BK179.out 19; have hfz16_20 := blk_frozen BK179.out 20; have hfz16_21 := blk_frozen BK179.out 21; have hfz16_22 := blk_frozen BK179.out 22; have hfz16_23 := blk_frozen BK179.out 23; have hfz16_24 := blk_frozen BK179.out 24; have hfz16_25 := blk_frozen BK179.out 25; have hfz16_26 := blk_frozen BK179.out 26; have hfz16_27 := blk_frozen BK179.out 27; have hfz16_28 := blk_frozen BK179.out 28; have hfz16_29 := blk_frozen BK179.out 29; have hfz16_30 := blk_frozen BK179.out 30; have hfz16_31 := blk_frozen BK179.out 31; have hfz16_32 := blk_frozen BK179.out 32) | ((with_reducible refine gate_callee (f := 20) rfl ?_); refine goesL_ (some 17) rfl rfl Tryd.func20 (by kernel_rfl) rfl #[.slice A1 l1.length c1, .agg #[.int .u8 ((rd_T25 l0 x11_1).f0.f0), .int .u8 ((rd_T25 l0 x11_1).f0.f1), .int .u8 ((rd_T25 l0 x11_1).f0.f2), .int .u8 ((rd_T25 l0 x11_1).f0.f3), .int .u8 ((rd_T25 l0 x11_1).f0.f4), .int .u8 ((rd_T25 l0 x11_1).f0.f5), .int .u8 ((rd_T25 l0 x11_1).f0.f6), .int .u8 ((rd_T25 l0 x11_1).f0.f7), .int .u8 ((rd_T25 l0 x11_1).f0.f8), .int .u8 ((rd_T25 l0 x11_1).f0.f9), .int .u8 ((rd_T25 l0 x11_1).f0.f10), .int .u8 ((rd_T25 l0 x11_1).f0.f11), .int .u8 ((rd_T25 l0 x11_1).f0.f12), .int .u8 ((rd_T25 l0 x11_1).f0.f13), .int .u8 ((rd_T25 l0 x11_1).f0.f14), .int .u8 ((rd_T25 l0 x11_1).f0.f15), .int .u8 ((rd_T25 l0 x11_1).f0.f16), .int .u8 ((rd_T25 l0 x11_1).f0.f17), .int .u8 ((rd_T25 l0 x11_1).f0.f18), .int .u8 ((rd_T25 l0 x11_1).f0.f19), .int .u8 ((rd_T25 l0 x11_1).f0.f20), .int .u8 ((rd_T25 l0 x11_1).f0.f21), .int .u8 ((rd_T25 l0 x11_1).f0.f22), .int .u8 ((rd_T25 l0 x11_1).f0.f23), .int .u8 ((rd_T25 l0 x11_1).f0.f24), .int .u8 ((rd_T25 l0 x11_1).f0.f25), .int .u8 ((rd_T25 l0 x11_1).f0.f26), .int .u8 ((rd_T25 l0 x11_1).f0.f27), .int .u8 ((rd_T25 l0 x11_1).f0.f28), .int .u8 ((rd_T25 l0 x11_1).f0.f29), .int .u8 ((rd_T25 l0 x11_1).f0.f30), .int .u8 ((rd_T25 l0 x11_1).f0.f31), .int .i64 ((rd_T25 l0 x11_1).f1)]] rfl (by (try simp only [List.map_toArray, List.map_cons, List.map_nil]); first | done | rfl | (simp only [List.length_drop, List.length_take]; rfl)) ?_; (with_reducible refine (point_Has.calls k1 _ _ l1 ((rd_T25 l0 x11_1).f0.f0) ((rd_T25 l0 x11_1).f0.f1) ((rd_T25 l0 x11_1).f0.f2) ((rd_T25 l0 x11_1).f0.f3) ((rd_T25 l0 x11_1).f0.f4) ((rd_T25 l0 x11_1).f0.f5) ((rd_T25 l0 x11_1).f0.f6) ((rd_T25 l0 x11_1).f0.f7) ((rd_T25 l0 x11_1).f0.f8) ((rd_T25 l0 x11_1).f0.f9) ((rd_T25 l0 x11_1).f0.f10) ((rd_T25 l0 x11_1).f0.f11) ((rd_T25 l0 x11_1).f0.f12) ((rd_T25 l0 x11_1).f0.f13) ((rd_T25 l0 x11_1).f0.f14) ((rd_T25 l0 x11_1).f0.f15) ((rd_T25 l0 x11_1).f0.f16) ((rd_T25 l0 x11_1).f0.f17) ((rd_T25 l0 x11_1).f0.f18) ((rd_T25 l0 x11_1).f0.f19) ((rd_T25 l0 x11_1).f0.f20) ((rd_T25 l0 x11_1).f0.f21) ((rd_T25 l0 x11_1).f0.f22) ((rd_T25 l0 x11_1).f0.f23) ((rd_T25 l0 x11_1).f0.f24) ((rd_T25 l0 x11_1).f0.f25) ((rd_T25 l0 x11_1).f0.f26) ((rd_T25 l0 x11_1).f0.f27) ((rd_T25 l0 x11_1).f0.f28) ((rd_T25 l0 x11_1).f0.f29) ((rd_T25 l0 x11_1).f0.f30) ((rd_T25 l0 x11_1).f0.f31) ((rd_T25 l0 x11_1).f1) t180 _ ?side1 ?side2 A7.out).mono ?_); (case side1 => repeat (first | exact (Kd.C_below HR1.out HB.out) | (with_reducible refine Kd.C_alloc ?_ _) | (with_reducible refine Kd.C_drewN ?_ _) | (with_reducible refine Kd.C_drew ?_))); (case side2 => exact HC1.out); rintro e w17 ⟨rfl, hb⟩; refine ⟨_, rfl, ?_⟩; have n0_ := Aside0.mk (Kd.R_below (by (with_reducible repeat (first | apply Kd.R_alloc | apply Kd.R_drewN | apply Kd.R_drew)); exact HO_6.out) hb); have n1_ := Aside0.mk (blk_below (g := gb179) (o := .cells #[.int .u8 ((rd_T25 l0 x11_1).f0.f0), .int .u8 ((rd_T25 l0 x11_1).f0.f1), .int .u8 ((rd_T25 l0 x11_1).f0.f2), .int .u8 ((rd_T25 l0 x11_1).f0.f3), .int .u8 ((rd_T25 l0 x11_1).f0.f4), .int .u8 ((rd_T25 l0 x11_1).f0.f5), .int .u8 ((rd_T25 l0 x11_1).f0.f6), .int .u8 ((rd_T25 l0 x11_1).f0.f7), .int .u8 ((rd_T25 l0 x11_1).f0.f8), .int .u8 ((rd_T25 l0 x11_1).f0.f9), .int .u8 ((rd_T25 l0 x11_1).f0.f10), .int .u8 ((rd_T25 l0 x11_1).f0.f11), .int .u8 ((rd_T25 l0 x11_1).f0.f12), .int .u8 ((rd_T25 l0 x11_1).f0.f13), .int .u8 ((rd_T25 l0 x11_1).f0.f14), .int .u8 ((rd_T25 l0 x11_1).f0.f15), .int .u8 ((rd_T25 l0 x11_1).f0.f16), .int .u8 ((rd_T25 l0 x11_1).f0.f17), .int .u8 ((rd_T25 l0 x11_1).f0.f18), .int .u8 ((rd_T25 l0 x11_1).f0.f19), .int .u8 ((rd_T25 l0 x11_1).f0.f20), .int .u8 ((rd_T25 l0 x11_1).f0.f21), .int .u8 ((rd_T25 l0 x11_1).f0.f22), .int .u8 ((rd_T25 l0 x11_1).f0.f23), .int .u8 ((rd_T25 l0 x11_1).f0.f24), .int .u8 ((rd_T25 l0 x11_1).f0.f25), .int .u8 ((rd_T25 l0 x11_1).f0.f26), .int .u8 ((rd_T25 l0 x11_1).f0.f27), .int .u8 ((rd_T25 l0 x11_1).f0.f28), .int .u8 ((rd_T25 l0 x11_1).f0.f29), .int .u8 ((rd_T25 l0 x11_1).f0.f30), .int .u8 ((rd_T25 l0 x11_1).f0.f31), .int .i64 ((rd_T25 l0 x11_1).f1)] 25 (0, 0)) (by (with_reducible repeat (first | refine blk_drewN ?_ _ | refine blk_drew ?_ | refine blk_alloc ?_ _)); exact BK179.out) hb); have n2_ := Aside0.mk (below_step (by repeat (first | (with_reducible first | exact HB.out | apply below_alloc | apply pw_below_drewN | apply below_drew1 | refine below_set ?_ GE179.out) | exact HB.out)) hb); clear HO_6; clear BK179; clear HB; have HO_6 := n0_; have BK179 := n1_; have HB := n2_; clear n0_ n1_ n2_; (try clear hb); (try clear hb2); (try clear hk); (try clear hi)))
              go_roundg k1
              case measure => have := HK1.out; omega
              case rel => exact ⟨(x6_1), (wrap64 (x11_1 + 1)), (by first | rfl | (simp; done) | (simp [*]; done)), H', ⟨by have := HK1.out; omega⟩, ⟨by (with_reducible repeat (first | apply Kd.R_alloc | apply Kd.R_drewN | apply Kd.R_drew)); exact Kd.R_mono HO_6.out (fun _ hk => trivial)⟩, ⟨by repeat (first | (with_reducible first | exact HB.out | apply below_alloc | apply pw_below_drewN | apply below_drew1 | refine below_set ?_ GE179.out) | exact HB.out)⟩⟩
          · rw [if_neg c6] at H
            exact absurd H (by simp)
        · rw [if_neg c5] at H
          exact absurd H (by simp)
      · rw [if_neg c4] at H
        have c4b0 : decide (x11_1 < (l0.length : Int)) = false := decide_eq_false c4
        clear c4
        obtain rfl := Option.some.inj H
        go_wp2
        go_ret
        exact ⟨_, by first | rfl | (simp [errW_none, errW_some] <;> rfl) | (simp [*, errW_none, errW_some] <;> rfl), by (with_reducible repeat (first | apply Kd.R_alloc | apply Kd.R_drewN | apply Kd.R_drew)); exact HO_6.out, by repeat (first | (with_reducible first | exact HB.out | apply below_alloc | apply pw_below_drewN | apply below_drew1) | exact HB.out)⟩

/-! ### point_Both: function 16 -/
def point_Both.f (k : Nat) (l0 : List (S25)) (l1 : List (S25)) : Option ((List (S25))) := (point_those.f k l0 l1 true).bind fun t184 => (some t184)
theorem point_Both.mono : ∀ a0 a1 k, LeO (point_Both.f k a0 a1) (point_Both.f (k + 1) a0 a1) := by
  intro a0 a1 k
  unfold point_Both.f
  repeat' first
      | (with_reducible exact point_those.mono _ _ _ _)
      | (with_reducible exact LeO.refl _)
      | (with_reducible exact LeO.none _)
      | (with_reducible refine LeO.ite ?_ ?_)
      | (with_reducible refine LeO.bind ?_ (fun _ => ?_))
      | exact point_those.mono _ _ _ _
      | exact LeO.none _
      | refine LeO.ite ?_ ?_
      | refine LeO.bind ?_ (fun _ => ?_)
set_option maxHeartbeats 8000000 in
set_option maxRecDepth 100000 in
theorem point_Both.calls (k : Nat) (A0 : Option Addr) (c0 : Nat) (l0 : List (S25)) (A1 : Option Addr) (c1 : Nat) (l1 : List (S25)) (r : List (S25)) (w : World) (hr0 : Kd.C k25 w A0 l0.length l0) (hc0 : l0.length ≤ c0) (hr1 : Kd.C k25 w A1 l1.length l1) (hc1 : l1.length ≤ c1) (h : point_Both.f k l0 l1 = some r) :
    Calls Tryd.prog 16 #[.slice A0 l0.length c0, .slice A1 l1.length c1] w fun e w' => ∃ v0_ : Value, e = .returned (v0_) ∧ Kd.R k25 25 w' w.heap.size (fun _ => True) v0_ r ∧ Below w.heap.size w w' := by
  have HR0 := Aside0.mk hr0
  have HC0 := Aside0.mk hc0
  clear hr0 hc0
  have HR1 := Aside0.mk hr1
  have HC1 := Aside0.mk hc1
  clear hr1 hc1
  have HB := Aside0.mk (Below.refl w.heap.size w)
  have H : ((point_those.f k l0 l1 true).bind fun t184 => (some t184)) = some r := h
  clear h
  replace H := Option.bind_eq_some_iff.mp H
  obtain ⟨t184, A30, H⟩ := H
  replace H : (some t184) = some r := H
  have A3 := Aside0.mk A30
  clear A30
  obtain rfl := Option.some.inj H
  go_enter Tryd.func16, Tryd.ntmps16
  go_wp2_with (first | ((with_reducible refine gate_callee (f := 37) rfl ?_); refine goesL_ (some 7) rfl rfl Tryd.func37 (by kernel_rfl) rfl #[.slice A0 l0.length c0, .slice A1 l1.length c1, .bool true] rfl (by (try simp only [List.map_toArray, List.map_cons, List.map_nil]); first | done | rfl | (simp only [List.length_drop, List.length_take]; rfl)) ?_; (with_reducible refine (point_those.calls k _ _ l0 _ _ l1 true t184 _ ?side1 ?side2 ?side3 ?side4 A3.out).mono ?_); (case side1 => repeat (first | exact HR0.out | (with_reducible refine Kd.C_alloc ?_ _) | (with_reducible refine Kd.C_drewN ?_ _) | (with_reducible refine Kd.C_drew ?_))); (case side2 => exact HC0.out); (case side3 => repeat (first | exact HR1.out | (with_reducible refine Kd.C_alloc ?_ _) | (with_reducible refine Kd.C_drewN ?_ _) | (with_reducible refine Kd.C_drew ?_))); (case side4 => exact HC1.out); rintro e w4 ⟨v185, rfl, ho0, hb⟩; refine ⟨_, rfl, ?_⟩; have n0_ := Aside0.mk (Kd.R_lower ho0 (below_size (by repeat (first | (with_reducible first | exact HB.out | apply below_alloc | apply pw_below_drewN | apply below_drew1) | exact HB.out)))); have n1_ := Aside0.mk (below_step (by repeat (first | (with_reducible first | exact HB.out | apply below_alloc | apply pw_below_drewN | apply below_drew1) | exact HB.out)) hb); clear HB; have HO186 := n0_; have HB := n1_; clear n0_ n1_; (try clear hb); (try clear hb2); (try clear hk); (try clear hi); (try clear ho0)))
  go_ret
  exact ⟨_, by first | rfl | (simp [errW_none, errW_some] <;> rfl) | (simp [*, errW_none, errW_some] <;> rfl), by (with_reducible repeat (first | apply Kd.R_alloc | apply Kd.R_drewN | apply Kd.R_drew)); exact HO186.out, by repeat (first | (with_reducible first | exact HB.out | apply below_alloc | apply pw_below_drewN | apply below_drew1) | exact HB.out)⟩

/-! ### point_Minus: function 17 -/
def point_Minus.f (k : Nat) (l0 : List (S25)) (l1 : List (S25)) : Option ((List (S25))) := (point_those.f k l0 l1 false).bind fun t187 => (some t187)
theorem point_Minus.mono : ∀ a0 a1 k, LeO (point_Minus.f k a0 a1) (point_Minus.f (k + 1) a0 a1) := by
  intro a0 a1 k
  unfold point_Minus.f
  repeat' first
      | (with_reducible exact point_those.mono _ _ _ _)
      | (with_reducible exact LeO.refl _)
      | (with_reducible exact LeO.none _)
      | (with_reducible refine LeO.ite ?_ ?_)
      | (with_reducible refine LeO.bind ?_ (fun _ => ?_))
      | exact point_those.mono _ _ _ _
      | exact LeO.none _
      | refine LeO.ite ?_ ?_
      | refine LeO.bind ?_ (fun _ => ?_)
set_option maxHeartbeats 8000000 in
set_option maxRecDepth 100000 in
theorem point_Minus.calls (k : Nat) (A0 : Option Addr) (c0 : Nat) (l0 : List (S25)) (A1 : Option Addr) (c1 : Nat) (l1 : List (S25)) (r : List (S25)) (w : World) (hr0 : Kd.C k25 w A0 l0.length l0) (hc0 : l0.length ≤ c0) (hr1 : Kd.C k25 w A1 l1.length l1) (hc1 : l1.length ≤ c1) (h : point_Minus.f k l0 l1 = some r) :
    Calls Tryd.prog 17 #[.slice A0 l0.length c0, .slice A1 l1.length c1] w fun e w' => ∃ v0_ : Value, e = .returned (v0_) ∧ Kd.R k25 25 w' w.heap.size (fun _ => True) v0_ r ∧ Below w.heap.size w w' := by
  have HR0 := Aside0.mk hr0
  have HC0 := Aside0.mk hc0
  clear hr0 hc0
  have HR1 := Aside0.mk hr1
  have HC1 := Aside0.mk hc1
  clear hr1 hc1
  have HB := Aside0.mk (Below.refl w.heap.size w)
  have H : ((point_those.f k l0 l1 false).bind fun t187 => (some t187)) = some r := h
  clear h
  replace H := Option.bind_eq_some_iff.mp H
  obtain ⟨t187, A30, H⟩ := H
  replace H : (some t187) = some r := H
  have A3 := Aside0.mk A30
  clear A30
  obtain rfl := Option.some.inj H
  go_enter Tryd.func17, Tryd.ntmps17
  go_wp2_with (first | ((with_reducible refine gate_callee (f := 37) rfl ?_); refine goesL_ (some 7) rfl rfl Tryd.func37 (by kernel_rfl) rfl #[.slice A0 l0.length c0, .slice A1 l1.length c1, .bool false] rfl (by (try simp only [List.map_toArray, List.map_cons, List.map_nil]); first | done | rfl | (simp only [List.length_drop, List.length_take]; rfl)) ?_; (with_reducible refine (point_those.calls k _ _ l0 _ _ l1 false t187 _ ?side1 ?side2 ?side3 ?side4 A3.out).mono ?_); (case side1 => repeat (first | exact HR0.out | (with_reducible refine Kd.C_alloc ?_ _) | (with_reducible refine Kd.C_drewN ?_ _) | (with_reducible refine Kd.C_drew ?_))); (case side2 => exact HC0.out); (case side3 => repeat (first | exact HR1.out | (with_reducible refine Kd.C_alloc ?_ _) | (with_reducible refine Kd.C_drewN ?_ _) | (with_reducible refine Kd.C_drew ?_))); (case side4 => exact HC1.out); rintro e w4 ⟨v188, rfl, ho0, hb⟩; refine ⟨_, rfl, ?_⟩; have n0_ := Aside0.mk (Kd.R_lower ho0 (below_size (by repeat (first | (with_reducible first | exact HB.out | apply below_alloc | apply pw_below_drewN | apply below_drew1) | exact HB.out)))); have n1_ := Aside0.mk (below_step (by repeat (first | (with_reducible first | exact HB.out | apply below_alloc | apply pw_below_drewN | apply below_drew1) | exact HB.out)) hb); clear HB; have HO189 := n0_; have HB := n1_; clear n0_ n1_; (try clear hb); (try clear hb2); (try clear hk); (try clear hi); (try clear ho0)))
  go_ret
  exact ⟨_, by first | rfl | (simp [errW_none, errW_some] <;> rfl) | (simp [*, errW_none, errW_some] <;> rfl), by (with_reducible repeat (first | apply Kd.R_alloc | apply Kd.R_drewN | apply Kd.R_drew)); exact HO189.out, by repeat (first | (with_reducible first | exact HB.out | apply below_alloc | apply pw_below_drewN | apply below_drew1) | exact HB.out)⟩

/-! ### api_Outpoint: function 38 -/
def api_Outpoint.l0 : Nat → List (S25) → List (S25) → Int → Int → Option (Bool)
  | 0, _, _, _, _ => none
  | k + 1, x0, x1, x12, x13 => if x13 < x12 then (if 0 ≤ x13 then (if x13 < (x0.length : Int) then (if x13 < (x1.length : Int) then (if ((!(((rd_T25 x0 x13).f0.f0) == ((rd_T25 x1 x13).f0.f0)) || (!(((rd_T25 x0 x13).f0.f1) == ((rd_T25 x1 x13).f0.f1)) || (!(((rd_T25 x0 x13).f0.f2) == ((rd_T25 x1 x13).f0.f2)) || (!(((rd_T25 x0 x13).f0.f3) == ((rd_T25 x1 x13).f0.f3)) || (!(((rd_T25 x0 x13).f0.f4) == ((rd_T25 x1 x13).f0.f4)) || (!(((rd_T25 x0 x13).f0.f5) == ((rd_T25 x1 x13).f0.f5)) || (!(((rd_T25 x0 x13).f0.f6) == ((rd_T25 x1 x13).f0.f6)) || (!(((rd_T25 x0 x13).f0.f7) == ((rd_T25 x1 x13).f0.f7)) || (!(((rd_T25 x0 x13).f0.f8) == ((rd_T25 x1 x13).f0.f8)) || (!(((rd_T25 x0 x13).f0.f9) == ((rd_T25 x1 x13).f0.f9)) || (!(((rd_T25 x0 x13).f0.f10) == ((rd_T25 x1 x13).f0.f10)) || (!(((rd_T25 x0 x13).f0.f11) == ((rd_T25 x1 x13).f0.f11)) || (!(((rd_T25 x0 x13).f0.f12) == ((rd_T25 x1 x13).f0.f12)) || (!(((rd_T25 x0 x13).f0.f13) == ((rd_T25 x1 x13).f0.f13)) || (!(((rd_T25 x0 x13).f0.f14) == ((rd_T25 x1 x13).f0.f14)) || (!(((rd_T25 x0 x13).f0.f15) == ((rd_T25 x1 x13).f0.f15)) || (!(((rd_T25 x0 x13).f0.f16) == ((rd_T25 x1 x13).f0.f16)) || (!(((rd_T25 x0 x13).f0.f17) == ((rd_T25 x1 x13).f0.f17)) || (!(((rd_T25 x0 x13).f0.f18) == ((rd_T25 x1 x13).f0.f18)) || (!(((rd_T25 x0 x13).f0.f19) == ((rd_T25 x1 x13).f0.f19)) || (!(((rd_T25 x0 x13).f0.f20) == ((rd_T25 x1 x13).f0.f20)) || (!(((rd_T25 x0 x13).f0.f21) == ((rd_T25 x1 x13).f0.f21)) || (!(((rd_T25 x0 x13).f0.f22) == ((rd_T25 x1 x13).f0.f22)) || (!(((rd_T25 x0 x13).f0.f23) == ((rd_T25 x1 x13).f0.f23)) || (!(((rd_T25 x0 x13).f0.f24) == ((rd_T25 x1 x13).f0.f24)) || (!(((rd_T25 x0 x13).f0.f25) == ((rd_T25 x1 x13).f0.f25)) || (!(((rd_T25 x0 x13).f0.f26) == ((rd_T25 x1 x13).f0.f26)) || (!(((rd_T25 x0 x13).f0.f27) == ((rd_T25 x1 x13).f0.f27)) || (!(((rd_T25 x0 x13).f0.f28) == ((rd_T25 x1 x13).f0.f28)) || (!(((rd_T25 x0 x13).f0.f29) == ((rd_T25 x1 x13).f0.f29)) || (!(((rd_T25 x0 x13).f0.f30) == ((rd_T25 x1 x13).f0.f30)) || (!(((rd_T25 x0 x13).f0.f31) == ((rd_T25 x1 x13).f0.f31)))))))))))))))))))))))))))))))))) || (!(((rd_T25 x0 x13).f1) == ((rd_T25 x1 x13).f1)))) = true then (some false) else (api_Outpoint.l0 k x0 x1 x12 (wrap64 (x13 + 1)))) else (none)) else (none)) else (none)) else (some true)
def api_Outpoint.f (k : Nat) (l0 : List (S25)) (l1 : List (S25)) : Option (Bool) := if (l0.length : Int) = (l1.length : Int) then (api_Outpoint.l0 k l0 l1 (l0.length : Int) 0) else (some false)
theorem api_Outpoint.mono_l : ∀ k, (∀ y0 y1 y2 y3, LeO (api_Outpoint.l0 k y0 y1 y2 y3) (api_Outpoint.l0 (k + 1) y0 y1 y2 y3))
  | 0 => fun _ _ _ _ r h => by simp [api_Outpoint.l0] at h
  | k + 1 => by
    have ih0 := api_Outpoint.mono_l k
    · intro y0 y1 y2 y3
      unfold api_Outpoint.l0
      repeat' first
      | (with_reducible exact ih0 _ _ _ _)
      | (with_reducible exact LeO.refl _)
      | (with_reducible exact LeO.none _)
      | (with_reducible refine LeO.ite ?_ ?_)
      | (with_reducible refine LeO.bind ?_ (fun _ => ?_))
      | exact ih0 _ _ _ _
      | exact LeO.none _
      | refine LeO.ite ?_ ?_
      | refine LeO.bind ?_ (fun _ => ?_)
theorem api_Outpoint.mono : ∀ a0 a1 k, LeO (api_Outpoint.f k a0 a1) (api_Outpoint.f (k + 1) a0 a1) := by
  intro a0 a1 k
  have ih0 := api_Outpoint.mono_l k
  unfold api_Outpoint.f
  repeat' first
      | (with_reducible exact ih0 _ _ _ _)
      | (with_reducible exact LeO.refl _)
      | (with_reducible exact LeO.none _)
      | (with_reducible refine LeO.ite ?_ ?_)
      | (with_reducible refine LeO.bind ?_ (fun _ => ?_))
      | exact ih0 _ _ _ _
      | exact LeO.none _
      | refine LeO.ite ?_ ?_
      | refine LeO.bind ?_ (fun _ => ?_)
set_option maxHeartbeats 8000000 in
set_option maxRecDepth 100000 in
theorem api_Outpoint.calls (k : Nat) (A0 : Option Addr) (c0 : Nat) (l0 : List (S25)) (A1 : Option Addr) (c1 : Nat) (l1 : List (S25)) (r : Bool) (w : World) (hr0 : Kd.C k25 w A0 l0.length l0) (hc0 : l0.length ≤ c0) (hr1 : Kd.C k25 w A1 l1.length l1) (hc1 : l1.length ≤ c1) (h : api_Outpoint.f k l0 l1 = some r) :
    Calls Tryd.prog 38 #[.slice A0 l0.length c0, .slice A1 l1.length c1] w fun e w' => e = .returned (.bool r) ∧ Drawn0 w w' := by
  have hu25 := Tryd.underlying25
  have HR0 := Aside0.mk hr0
  have HC0 := Aside0.mk hc0
  clear hr0 hc0
  have HR1 := Aside0.mk hr1
  have HC1 := Aside0.mk hc1
  clear hr1 hc1
  have H : (if (l0.length : Int) = (l1.length : Int) then (api_Outpoint.l0 k l0 l1 (l0.length : Int) 0) else (some false)) = some r := h
  clear h
  by_cases c3 : (l0.length : Int) = (l1.length : Int)
  · rw [if_pos c3] at H
    have c3b0 : ((l0.length : Int) == (l1.length : Int)) = true := beq_iff_eq.mpr c3
    have c3b1 : ((l0.length : Int) != (l1.length : Int)) = false := bne_eq_false_iff_eq.mpr c3
    have c3b2 : (l0.length == l1.length) = true := by first | simpa using c3 | (simp at c3 ⊢; omega)
    clear c3
    have H' := Aside0.mk H
    clear H
    go_enter Tryd.func38, Tryd.ntmps38
    go_wp2
    repeat (go_quiet (fail); try go_wp2)
    go_loopg [13] k (fun kq v13 w' => ∃ (x13_1 : Int), v13 = .int .i64 x13_1 ∧ Aside0 (api_Outpoint.l0 kq l0 l1 (l0.length : Int) x13_1 = some r) ∧ Aside0 (kq ≤ k) ∧ Drawn0 w w')
    case atStart => exact ⟨(0), (by first | rfl | (simp; done) | (simp [*]; done)), H', ⟨Nat.le_refl _⟩, by repeat (first | exact Drawn0.refl _ | apply Drawn0.step)⟩
    case round =>
      clear H'
      try clear c1
      try clear p2
      try clear c3
      try clear c3b0
      try clear c3b1
      try clear c3b2
      obtain ⟨x13_1, rfl, HA, HK1, ⟨m1, rfl⟩⟩ := hrel
      cases gk with
      | zero => exact absurd HA.out (by simp [api_Outpoint.l0])
      | succ k1 =>
        have H := HA.out
        clear HA
        simp only [api_Outpoint.l0] at H
        by_cases c4 : x13_1 < (l0.length : Int)
        · rw [if_pos c4] at H
          have c4b0 : decide (x13_1 < (l0.length : Int)) = true := decide_eq_true c4
          clear c4
          by_cases c5 : 0 ≤ x13_1
          · rw [if_pos c5] at H
            have c5b0 : decide (0 ≤ x13_1) = true := decide_eq_true c5
            clear c5
            by_cases c6 : x13_1 < (l0.length : Int)
            · rw [if_pos c6] at H
              have c6b0 : decide (x13_1 < (l0.length : Int)) = true := decide_eq_true c6
              clear c6
              by_cases c7 : x13_1 < (l1.length : Int)
              · rw [if_pos c7] at H
                have c7b0 : decide (x13_1 < (l1.length : Int)) = true := decide_eq_true c7
                clear c7
                by_cases c8 : ((!(((rd_T25 l0 x13_1).f0.f0) == ((rd_T25 l1 x13_1).f0.f0)) || (!(((rd_T25 l0 x13_1).f0.f1) == ((rd_T25 l1 x13_1).f0.f1)) || (!(((rd_T25 l0 x13_1).f0.f2) == ((rd_T25 l1 x13_1).f0.f2)) || (!(((rd_T25 l0 x13_1).f0.f3) == ((rd_T25 l1 x13_1).f0.f3)) || (!(((rd_T25 l0 x13_1).f0.f4) == ((rd_T25 l1 x13_1).f0.f4)) || (!(((rd_T25 l0 x13_1).f0.f5) == ((rd_T25 l1 x13_1).f0.f5)) || (!(((rd_T25 l0 x13_1).f0.f6) == ((rd_T25 l1 x13_1).f0.f6)) || (!(((rd_T25 l0 x13_1).f0.f7) == ((rd_T25 l1 x13_1).f0.f7)) || (!(((rd_T25 l0 x13_1).f0.f8) == ((rd_T25 l1 x13_1).f0.f8)) || (!(((rd_T25 l0 x13_1).f0.f9) == ((rd_T25 l1 x13_1).f0.f9)) || (!(((rd_T25 l0 x13_1).f0.f10) == ((rd_T25 l1 x13_1).f0.f10)) || (!(((rd_T25 l0 x13_1).f0.f11) == ((rd_T25 l1 x13_1).f0.f11)) || (!(((rd_T25 l0 x13_1).f0.f12) == ((rd_T25 l1 x13_1).f0.f12)) || (!(((rd_T25 l0 x13_1).f0.f13) == ((rd_T25 l1 x13_1).f0.f13)) || (!(((rd_T25 l0 x13_1).f0.f14) == ((rd_T25 l1 x13_1).f0.f14)) || (!(((rd_T25 l0 x13_1).f0.f15) == ((rd_T25 l1 x13_1).f0.f15)) || (!(((rd_T25 l0 x13_1).f0.f16) == ((rd_T25 l1 x13_1).f0.f16)) || (!(((rd_T25 l0 x13_1).f0.f17) == ((rd_T25 l1 x13_1).f0.f17)) || (!(((rd_T25 l0 x13_1).f0.f18) == ((rd_T25 l1 x13_1).f0.f18)) || (!(((rd_T25 l0 x13_1).f0.f19) == ((rd_T25 l1 x13_1).f0.f19)) || (!(((rd_T25 l0 x13_1).f0.f20) == ((rd_T25 l1 x13_1).f0.f20)) || (!(((rd_T25 l0 x13_1).f0.f21) == ((rd_T25 l1 x13_1).f0.f21)) || (!(((rd_T25 l0 x13_1).f0.f22) == ((rd_T25 l1 x13_1).f0.f22)) || (!(((rd_T25 l0 x13_1).f0.f23) == ((rd_T25 l1 x13_1).f0.f23)) || (!(((rd_T25 l0 x13_1).f0.f24) == ((rd_T25 l1 x13_1).f0.f24)) || (!(((rd_T25 l0 x13_1).f0.f25) == ((rd_T25 l1 x13_1).f0.f25)) || (!(((rd_T25 l0 x13_1).f0.f26) == ((rd_T25 l1 x13_1).f0.f26)) || (!(((rd_T25 l0 x13_1).f0.f27) == ((rd_T25 l1 x13_1).f0.f27)) || (!(((rd_T25 l0 x13_1).f0.f28) == ((rd_T25 l1 x13_1).f0.f28)) || (!(((rd_T25 l0 x13_1).f0.f29) == ((rd_T25 l1 x13_1).f0.f29)) || (!(((rd_T25 l0 x13_1).f0.f30) == ((rd_T25 l1 x13_1).f0.f30)) || (!(((rd_T25 l0 x13_1).f0.f31) == ((rd_T25 l1 x13_1).f0.f31)))))))))))))))))))))))))))))))))) || (!(((rd_T25 l0 x13_1).f1) == ((rd_T25 l1 x13_1).f1)))) = true
                · rw [if_pos c8] at H
                  have c8b0 : ((!(((rd_T25 l0 x13_1).f0.f0) == ((rd_T25 l1 x13_1).f0.f0)) || (!(((rd_T25 l0 x13_1).f0.f1) == ((rd_T25 l1 x13_1).f0.f1)) || (!(((rd_T25 l0 x13_1).f0.f2) == ((rd_T25 l1 x13_1).f0.f2)) || (!(((rd_T25 l0 x13_1).f0.f3) == ((rd_T25 l1 x13_1).f0.f3)) || (!(((rd_T25 l0 x13_1).f0.f4) == ((rd_T25 l1 x13_1).f0.f4)) || (!(((rd_T25 l0 x13_1).f0.f5) == ((rd_T25 l1 x13_1).f0.f5)) || (!(((rd_T25 l0 x13_1).f0.f6) == ((rd_T25 l1 x13_1).f0.f6)) || (!(((rd_T25 l0 x13_1).f0.f7) == ((rd_T25 l1 x13_1).f0.f7)) || (!(((rd_T25 l0 x13_1).f0.f8) == ((rd_T25 l1 x13_1).f0.f8)) || (!(((rd_T25 l0 x13_1).f0.f9) == ((rd_T25 l1 x13_1).f0.f9)) || (!(((rd_T25 l0 x13_1).f0.f10) == ((rd_T25 l1 x13_1).f0.f10)) || (!(((rd_T25 l0 x13_1).f0.f11) == ((rd_T25 l1 x13_1).f0.f11)) || (!(((rd_T25 l0 x13_1).f0.f12) == ((rd_T25 l1 x13_1).f0.f12)) || (!(((rd_T25 l0 x13_1).f0.f13) == ((rd_T25 l1 x13_1).f0.f13)) || (!(((rd_T25 l0 x13_1).f0.f14) == ((rd_T25 l1 x13_1).f0.f14)) || (!(((rd_T25 l0 x13_1).f0.f15) == ((rd_T25 l1 x13_1).f0.f15)) || (!(((rd_T25 l0 x13_1).f0.f16) == ((rd_T25 l1 x13_1).f0.f16)) || (!(((rd_T25 l0 x13_1).f0.f17) == ((rd_T25 l1 x13_1).f0.f17)) || (!(((rd_T25 l0 x13_1).f0.f18) == ((rd_T25 l1 x13_1).f0.f18)) || (!(((rd_T25 l0 x13_1).f0.f19) == ((rd_T25 l1 x13_1).f0.f19)) || (!(((rd_T25 l0 x13_1).f0.f20) == ((rd_T25 l1 x13_1).f0.f20)) || (!(((rd_T25 l0 x13_1).f0.f21) == ((rd_T25 l1 x13_1).f0.f21)) || (!(((rd_T25 l0 x13_1).f0.f22) == ((rd_T25 l1 x13_1).f0.f22)) || (!(((rd_T25 l0 x13_1).f0.f23) == ((rd_T25 l1 x13_1).f0.f23)) || (!(((rd_T25 l0 x13_1).f0.f24) == ((rd_T25 l1 x13_1).f0.f24)) || (!(((rd_T25 l0 x13_1).f0.f25) == ((rd_T25 l1 x13_1).f0.f25)) || (!(((rd_T25 l0 x13_1).f0.f26) == ((rd_T25 l1 x13_1).f0.f26)) || (!(((rd_T25 l0 x13_1).f0.f27) == ((rd_T25 l1 x13_1).f0.f27)) || (!(((rd_T25 l0 x13_1).f0.f28) == ((rd_T25 l1 x13_1).f0.f28)) || (!(((rd_T25 l0 x13_1).f0.f29) == ((rd_T25 l1 x13_1).f0.f29)) || (!(((rd_T25 l0 x13_1).f0.f30) == ((rd_T25 l1 x13_1).f0.f30)) || (!(((rd_T25 l0 x13_1).f0.f31) == ((rd_T25 l1 x13_1).f0.f31)))))))))))))))))))))))))))))))))) || (!(((rd_T25 l0 x13_1).f1) == ((rd_T25 l1 x13_1).f1)))) = true := c8
                  clear c8
                  obtain rfl := Option.some.inj H
                  have p190 : 0 ≤ (x13_1 : Int) := of_decide_eq_true (by first | (with_reducible assumption) | assumption)
                  have q190 : x13_1 < (l0.length : Int) := of_decide_eq_true (by first | (with_reducible assumption) | assumption)
                  obtain ⟨ad190, e190, hx190_0, hx190_1, hx190_2, hx190_3, hx190_4, hx190_5, hx190_6, hx190_7, hx190_8, hx190_9, hx190_10, hx190_11, hx190_12, hx190_13, hx190_14, hx190_15, hx190_16, hx190_17, hx190_18, hx190_19, hx190_20, hx190_21, hx190_22, hx190_23, hx190_24, hx190_25, hx190_26, hx190_27, hx190_28, hx190_29, hx190_30, hx190_31, hx190_32⟩ := at_T25 HR0.out x13_1 p190 q190
                  cases e190
                  replace p190 := eq_true p190
                  replace q190 := eq_true q190
                  have hw190_0_32 := Go.Proofs.YtmoecidfmgeafaaDoor.Wide.mk32 hx190_0 hx190_1 hx190_2 hx190_3 hx190_4 hx190_5 hx190_6 hx190_7 hx190_8 hx190_9 hx190_10 hx190_11 hx190_12 hx190_13 hx190_14 hx190_15 hx190_16 hx190_17 hx190_18 hx190_19 hx190_20 hx190_21 hx190_22 hx190_23 hx190_24 hx190_25 hx190_26 hx190_27 hx190_28 hx190_29 hx190_30 hx190_31
                  have hw190_0_33 := Go.Proofs.YtmoecidfmgeafaaDoor.Wide.mk33 hx190_0 hx190_1 hx190_2 hx190_3 hx190_4 hx190_5 hx190_6 hx190_7 hx190_8 hx190_9 hx190_10 hx190_11 hx190_12 hx190_13 hx190_14 hx190_15 hx190_16 hx190_17 hx190_18 hx190_19 hx190_20 hx190_21 hx190_22 hx190_23 hx190_24 hx190_25 hx190_26 hx190_27 hx190_28 hx190_29 hx190_30 hx190_31 hx190_32
                  have p191 : 0 ≤ (x13_1 : Int) := of_decide_eq_true (by first | (with_reducible assumption) | assumption)
                  have q191 : x13_1 < (l1.length : Int) := of_decide_eq_true (by first | (with_reducible assumption) | assumption)
                  obtain ⟨ad191, e191, hx191_0, hx191_1, hx191_2, hx191_3, hx191_4, hx191_5, hx191_6, hx191_7, hx191_8, hx191_9, hx191_10, hx191_11, hx191_12, hx191_13, hx191_14, hx191_15, hx191_16, hx191_17, hx191_18, hx191_19, hx191_20, hx191_21, hx191_22, hx191_23, hx191_24, hx191_25, hx191_26, hx191_27, hx191_28, hx191_29, hx191_30, hx191_31, hx191_32⟩ := at_T25 HR1.out x13_1 p191 q191
                  cases e191
                  replace p191 := eq_true p191
                  replace q191 := eq_true q191
                  have hw191_0_32 := Go.Proofs.YtmoecidfmgeafaaDoor.Wide.mk32 hx191_0 hx191_1 hx191_2 hx191_3 hx191_4 hx191_5 hx191_6 hx191_7 hx191_8 hx191_9 hx191_10 hx191_11 hx191_12 hx191_13 hx191_14 hx191_15 hx191_16 hx191_17 hx191_18 hx191_19 hx191_20 hx191_21 hx191_22 hx191_23 hx191_24 hx191_25 hx191_26 hx191_27 hx191_28 hx191_29 hx191_30 hx191_31
                  have hw191_0_33 := Go.Proofs.YtmoecidfmgeafaaDoor.Wide.mk33 hx191_0 hx191_1 hx191_2 hx191_3 hx191_4 hx191_5 hx191_6 hx191_7 hx191_8 hx191_9 hx191_10 hx191_11 hx191_12 hx191_13 hx191_14 hx191_15 hx191_16 hx191_17 hx191_18 hx191_19 hx191_20 hx191_21 hx191_22 hx191_23 hx191_24 hx191_25 hx191_26 hx191_27 hx191_28 hx191_29 hx191_30 hx191_31 hx191_32
                  go_wp2
                  repeat (go_quiet (fail); try go_wp2)
                  go_ret
                  exact ⟨by first | rfl | (simp; done) | (simp [*]; done), by repeat (first | exact Drawn0.refl _ | apply Drawn0.step)⟩
                · rw [if_neg c8] at H
                  have c8b0 : ((!(((rd_T25 l0 x13_1).f0.f0) == ((rd_T25 l1 x13_1).f0.f0)) || (!(((rd_T25 l0 x13_1).f0.f1) == ((rd_T25 l1 x13_1).f0.f1)) || (!(((rd_T25 l0 x13_1).f0.f2) == ((rd_T25 l1 x13_1).f0.f2)) || (!(((rd_T25 l0 x13_1).f0.f3) == ((rd_T25 l1 x13_1).f0.f3)) || (!(((rd_T25 l0 x13_1).f0.f4) == ((rd_T25 l1 x13_1).f0.f4)) || (!(((rd_T25 l0 x13_1).f0.f5) == ((rd_T25 l1 x13_1).f0.f5)) || (!(((rd_T25 l0 x13_1).f0.f6) == ((rd_T25 l1 x13_1).f0.f6)) || (!(((rd_T25 l0 x13_1).f0.f7) == ((rd_T25 l1 x13_1).f0.f7)) || (!(((rd_T25 l0 x13_1).f0.f8) == ((rd_T25 l1 x13_1).f0.f8)) || (!(((rd_T25 l0 x13_1).f0.f9) == ((rd_T25 l1 x13_1).f0.f9)) || (!(((rd_T25 l0 x13_1).f0.f10) == ((rd_T25 l1 x13_1).f0.f10)) || (!(((rd_T25 l0 x13_1).f0.f11) == ((rd_T25 l1 x13_1).f0.f11)) || (!(((rd_T25 l0 x13_1).f0.f12) == ((rd_T25 l1 x13_1).f0.f12)) || (!(((rd_T25 l0 x13_1).f0.f13) == ((rd_T25 l1 x13_1).f0.f13)) || (!(((rd_T25 l0 x13_1).f0.f14) == ((rd_T25 l1 x13_1).f0.f14)) || (!(((rd_T25 l0 x13_1).f0.f15) == ((rd_T25 l1 x13_1).f0.f15)) || (!(((rd_T25 l0 x13_1).f0.f16) == ((rd_T25 l1 x13_1).f0.f16)) || (!(((rd_T25 l0 x13_1).f0.f17) == ((rd_T25 l1 x13_1).f0.f17)) || (!(((rd_T25 l0 x13_1).f0.f18) == ((rd_T25 l1 x13_1).f0.f18)) || (!(((rd_T25 l0 x13_1).f0.f19) == ((rd_T25 l1 x13_1).f0.f19)) || (!(((rd_T25 l0 x13_1).f0.f20) == ((rd_T25 l1 x13_1).f0.f20)) || (!(((rd_T25 l0 x13_1).f0.f21) == ((rd_T25 l1 x13_1).f0.f21)) || (!(((rd_T25 l0 x13_1).f0.f22) == ((rd_T25 l1 x13_1).f0.f22)) || (!(((rd_T25 l0 x13_1).f0.f23) == ((rd_T25 l1 x13_1).f0.f23)) || (!(((rd_T25 l0 x13_1).f0.f24) == ((rd_T25 l1 x13_1).f0.f24)) || (!(((rd_T25 l0 x13_1).f0.f25) == ((rd_T25 l1 x13_1).f0.f25)) || (!(((rd_T25 l0 x13_1).f0.f26) == ((rd_T25 l1 x13_1).f0.f26)) || (!(((rd_T25 l0 x13_1).f0.f27) == ((rd_T25 l1 x13_1).f0.f27)) || (!(((rd_T25 l0 x13_1).f0.f28) == ((rd_T25 l1 x13_1).f0.f28)) || (!(((rd_T25 l0 x13_1).f0.f29) == ((rd_T25 l1 x13_1).f0.f29)) || (!(((rd_T25 l0 x13_1).f0.f30) == ((rd_T25 l1 x13_1).f0.f30)) || (!(((rd_T25 l0 x13_1).f0.f31) == ((rd_T25 l1 x13_1).f0.f31)))))))))))))))))))))))))))))))))) || (!(((rd_T25 l0 x13_1).f1) == ((rd_T25 l1 x13_1).f1)))) = false := by simpa using c8
                  clear c8
                  have H' := Aside0.mk H
                  clear H
                  have p190 : 0 ≤ (x13_1 : Int) := of_decide_eq_true (by first | (with_reducible assumption) | assumption)
                  have q190 : x13_1 < (l0.length : Int) := of_decide_eq_true (by first | (with_reducible assumption) | assumption)
                  obtain ⟨ad190, e190, hx190_0, hx190_1, hx190_2, hx190_3, hx190_4, hx190_5, hx190_6, hx190_7, hx190_8, hx190_9, hx190_10, hx190_11, hx190_12, hx190_13, hx190_14, hx190_15, hx190_16, hx190_17, hx190_18, hx190_19, hx190_20, hx190_21, hx190_22, hx190_23, hx190_24, hx190_25, hx190_26, hx190_27, hx190_28, hx190_29, hx190_30, hx190_31, hx190_32⟩ := at_T25 HR0.out x13_1 p190 q190
                  cases e190
                  replace p190 := eq_true p190
                  replace q190 := eq_true q190
                  have hw190_0_32 := Go.Proofs.YtmoecidfmgeafaaDoor.Wide.mk32 hx190_0 hx190_1 hx190_2 hx190_3 hx190_4 hx190_5 hx190_6 hx190_7 hx190_8 hx190_9 hx190_10 hx190_11 hx190_12 hx190_13 hx190_14 hx190_15 hx190_16 hx190_17 hx190_18 hx190_19 hx190_20 hx190_21 hx190_22 hx190_23 hx190_24 hx190_25 hx190_26 hx190_27 hx190_28 hx190_29 hx190_30 hx190_31
                  have hw190_0_33 := Go.Proofs.YtmoecidfmgeafaaDoor.Wide.mk33 hx190_0 hx190_1 hx190_2 hx190_3 hx190_4 hx190_5 hx190_6 hx190_7 hx190_8 hx190_9 hx190_10 hx190_11 hx190_12 hx190_13 hx190_14 hx190_15 hx190_16 hx190_17 hx190_18 hx190_19 hx190_20 hx190_21 hx190_22 hx190_23 hx190_24 hx190_25 hx190_26 hx190_27 hx190_28 hx190_29 hx190_30 hx190_31 hx190_32
                  have p191 : 0 ≤ (x13_1 : Int) := of_decide_eq_true (by first | (with_reducible assumption) | assumption)
                  have q191 : x13_1 < (l1.length : Int) := of_decide_eq_true (by first | (with_reducible assumption) | assumption)
                  obtain ⟨ad191, e191, hx191_0, hx191_1, hx191_2, hx191_3, hx191_4, hx191_5, hx191_6, hx191_7, hx191_8, hx191_9, hx191_10, hx191_11, hx191_12, hx191_13, hx191_14, hx191_15, hx191_16, hx191_17, hx191_18, hx191_19, hx191_20, hx191_21, hx191_22, hx191_23, hx191_24, hx191_25, hx191_26, hx191_27, hx191_28, hx191_29, hx191_30, hx191_31, hx191_32⟩ := at_T25 HR1.out x13_1 p191 q191
                  cases e191
                  replace p191 := eq_true p191
                  replace q191 := eq_true q191
                  have hw191_0_32 := Go.Proofs.YtmoecidfmgeafaaDoor.Wide.mk32 hx191_0 hx191_1 hx191_2 hx191_3 hx191_4 hx191_5 hx191_6 hx191_7 hx191_8 hx191_9 hx191_10 hx191_11 hx191_12 hx191_13 hx191_14 hx191_15 hx191_16 hx191_17 hx191_18 hx191_19 hx191_20 hx191_21 hx191_22 hx191_23 hx191_24 hx191_25 hx191_26 hx191_27 hx191_28 hx191_29 hx191_30 hx191_31
                  have hw191_0_33 := Go.Proofs.YtmoecidfmgeafaaDoor.Wide.mk33 hx191_0 hx191_1 hx191_2 hx191_3 hx191_4 hx191_5 hx191_6 hx191_7 hx191_8 hx191_9 hx191_10 hx191_11 hx191_12 hx191_13 hx191_14 hx191_15 hx191_16 hx191_17 hx191_18 hx191_19 hx191_20 hx191_21 hx191_22 hx191_23 hx191_24 hx191_25 hx191_26 hx191_27 hx191_28 hx191_29 hx191_30 hx191_31 hx191_32
                  go_wp2
                  repeat (go_quiet (fail); try go_wp2)
                  go_roundg k1
                  case measure => have := HK1.out; omega
                  case rel => exact ⟨(wrap64 (x13_1 + 1)), (by first | rfl | (simp; done) | (simp [*]; done)), H', ⟨by have := HK1.out; omega⟩, by repeat (first | exact Drawn0.refl _ | apply Drawn0.step)⟩
              · rw [if_neg c7] at H
                exact absurd H (by simp)
            · rw [if_neg c6] at H
              exact absurd H (by simp)
          · rw [if_neg c5] at H
            exact absurd H (by simp)
        · rw [if_neg c4] at H
          have c4b0 : decide (x13_1 < (l0.length : Int)) = false := decide_eq_false c4
          clear c4
          obtain rfl := Option.some.inj H
          go_wp2
          repeat (go_quiet (fail); try go_wp2)
          go_ret
          exact ⟨by first | rfl | (simp; done) | (simp [*]; done), by repeat (first | exact Drawn0.refl _ | apply Drawn0.step)⟩
  · rw [if_neg c3] at H
    have c3b0 : ((l0.length : Int) == (l1.length : Int)) = false := beq_eq_false_iff_ne.mpr c3
    have c3b1 : ((l0.length : Int) != (l1.length : Int)) = true := bne_iff_ne.mpr c3
    have c3b2 : (l0.length == l1.length) = false := by first | simpa using c3 | (simp at c3 ⊢; omega)
    obtain rfl := Option.some.inj H
    go_enter Tryd.func38, Tryd.ntmps38
    go_wp2
    repeat (go_quiet (fail); try go_wp2)
    go_ret
    exact ⟨by first | rfl | (simp; done) | (simp [*]; done), by repeat (first | exact Drawn0.refl _ | apply Drawn0.step)⟩

/-! ### point_Alike: function 18 -/
def point_Alike.f (k : Nat) (l0 : List S25) (l1 : List S25) : Option Bool :=
  if l0.length * 40 ≤ 140737488355328 then (if l1.length * 40 ≤ 140737488355328 then api_Outpoint.f k (sortO l0) (sortO l1) else none) else none
theorem point_Alike.mono : ∀ a0 a1 k, LeO (point_Alike.f k a0 a1) (point_Alike.f (k + 1) a0 a1) := by
  intro a0 a1 k
  unfold point_Alike.f
  exact LeO.ite (LeO.ite (api_Outpoint.mono _ _ _) (LeO.refl _)) (LeO.refl _)
set_option maxHeartbeats 4000000 in
theorem point_Alike.calls (k : Nat) (A0 : Option Addr) (c0 : Nat) (l0 : List S25) (A1 : Option Addr) (c1 : Nat) (l1 : List S25) (r : Bool) (w : World) (hr0 : Kd.C k25 w A0 l0.length l0) (hc0 : l0.length ≤ c0) (hr1 : Kd.C k25 w A1 l1.length l1) (hc1 : l1.length ≤ c1) (h : point_Alike.f k l0 l1 = some r) :
    Calls Tryd.prog 18 #[.slice A0 l0.length c0, .slice A1 l1.length c1] w fun e w' => e = .returned (.bool r) ∧ Below w.heap.size w w' := by
  unfold point_Alike.f at h
  by_cases b0 : l0.length * 40 ≤ 140737488355328
  case neg => rw [if_neg b0] at h; cases h
  by_cases b1 : l1.length * 40 ≤ 140737488355328
  case neg => rw [if_pos b0, if_neg b1] at h; cases h
  rw [if_pos b0, if_pos b1] at h
  have H := Aside0.mk h
  have HR0 := Aside0.mk hr0
  have HR1 := Aside0.mk hr1
  have L0 := Aside0.mk (sortO_len l0)
  have L1 := Aside0.mk (sortO_len l1)
  have HV := Aside0.mk (fun (a : Option Addr) (len cap : Nat) (w : World) => callsIn_wide.1 (Go.Proofs.YtmoecidfmgeafaaDoor.IterO.values Fence.wide 5 trivial rfl a len cap w))
  have HS : Aside0 (∀ (A : Option Addr) (c : Nat) (l : List S25) (W w1 : World) (Bs : Nat), l.length * 40 ≤ 140737488355328 → Kd.C k25 W A l.length l → Bs = W.heap.size → w1 = W.alloc (.cells #[.slice A l.length c] 31) →
      Calls Tryd.prog 33 #[.func (.func 48) #[] #[.pointer (some ⟨Bs, 0, none⟩)], .func (.func 35) #[] #[]] w1 fun e w' => ∃ v, e = .returned v ∧ w'.ownsRow W.heap.size 25 33 v (sortO l).length ((sortO l).flatMap encO) ∧ Below W.heap.size W w' ∧ Below w1.heap.size w1 w') := ⟨by
    intro A c l W w1 Bs hb hC hBs hw1
    subst hBs hw1
    have hB : Below W.heap.size W (W.alloc (.cells #[.slice A l.length c] 31)) := (Below.refl _ W).alloc (Nat.le_refl _) _
    haveI : Inhabited S25 := ⟨z25⟩
    refine (Go.Proofs.YtmoecidfmgeafaaDoor.SortO.sortedFunc (enc := encO) bsO (fun x => x.f1) encO_eq (fun _ => rfl) bsO_inj W.heap.size A c l hb (W.alloc (.cells #[.slice A l.length c] 31)) (by simp) (by simp) (liesO (Kd.C_below hC hB))).mono ?_
    rintro e w' ⟨v, rfl, ho, hb'⟩
    refine ⟨v, rfl, ?_, hB.trans (hb'.mono (by simp)), hb'⟩
    rw [sortO_len]
    exact ⟨ho.1, ho.2.imp id (fun ⟨g, cap, cur, e1, e2, e3⟩ => ⟨g, cap, cur, e1, by simp at e2; omega, e3⟩)⟩⟩
  clear h hr0 hr1
  go_enter Tryd.func18, Tryd.ntmps18
  have m0 : (sortO l0).length ≤ 9223372036854775807 := by have := L0.out; omega
  have m1 : (sortO l1).length ≤ 9223372036854775807 := by have := L1.out; omega
  go_wp2_with (go_at_call 34; refine (HV.out _ _ _ w).mono ?_; rintro e w1 ⟨rfl, hw1⟩; have W1 := Aside0.mk hw1; clear hw1)
  go_wp2_with (go_at_call 33; refine (HS.out A0 c0 l0 w w1 w.heap.size b0 HR0.out rfl W1.out).mono ?_; rintro e w2 ⟨v1, rfl, ho1, hb1, hbx⟩; obtain ⟨A2, c2, rfl, hc2, hK2⟩ := ownsO ho1 m0; have O1 := Aside0.mk hK2; have C1 := Aside0.mk hc2; have B1 := Aside0.mk hb1; clear hK2 hc2 hb1 ho1 hbx)
  go_wp2_with (go_at_call 34; refine (HV.out _ _ _ w2).mono ?_; rintro e w3 ⟨rfl, hw3⟩; have W3 := Aside0.mk hw3; clear hw3)
  go_wp2_with (go_at_call 33; refine (HS.out A1 c1 l1 w2 w3 w2.heap.size b1 (Kd.C_below HR1.out B1.out) rfl W3.out).mono ?_; rintro e w4 ⟨v2, rfl, ho2, hb2, hbx⟩; obtain ⟨A4, c4, rfl, hc4, hK4⟩ := ownsO ho2 m1; have O2 := Aside0.mk hK4; have C2 := Aside0.mk hc4; have B2 := Aside0.mk hb2; clear hK4 hc4 hb2 ho2 hbx)
  go_wp2_with (go_at_call 38; refine (api_Outpoint.calls k A2 c2 (sortO l0) A4 c4 (sortO l1) r w4 (Kd.C_below O1.out B2.out) C1.out O2.out C2.out H.out).mono ?_; rintro e w5 ⟨rfl, hd⟩; have D5 := Aside0.mk hd; clear hd)
  go_ret
  refine ⟨rfl, ?_⟩
  obtain ⟨n, rfl⟩ := D5.out.out
  exact pw_below_drewN (B1.out.trans (B2.out.mono B1.out.size)) _

end Go.Proofs.YtmoecidfmgeafaaDoor.QPnt
