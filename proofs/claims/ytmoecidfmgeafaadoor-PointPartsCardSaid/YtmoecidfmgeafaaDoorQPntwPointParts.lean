/- Functions of the program as plain Lean functions, and that its calls come to what these tell: written by a program of this session; Lean checks it. -/
import Derived.Test.YtmoecidfmgeafaaDoorQPntx0
import Derived.Test.YtmoecidfmgeafaaDoorQPntx2
import Derived.Test.YtmoecidfmgeafaaDoorQPntx3
import Derived.Test.YtmoecidfmgeafaaDoorQPntx4
import Derived.Test.YtmoecidfmgeafaaDoorQPntx7
import Derived.Test.YtmoecidfmgeafaaDoorQPntx12
import Derived.Test.YtmoecidfmgeafaaDoorPurePointParts
namespace Go.Proofs.YtmoecidfmgeafaaDoor.QPnt
open Go.RowKit Go.Proofs.YtmoecidfmgeafaaDoorW.PrintWords Go.Proofs.YtmoecidfmgeafaaDoorW.PrintLast Go.Proofs.YtmoecidfmgeafaaDoorW.PrintMore
attribute [local go_sem] max2_int min2_int max_two min_two max_three min_three max_four min_four  run_fop run_feq run_fne run_flt run_fle run_fgt run_fge run_fint run_toi run_real' run_imag' run_complex' run_ceq run_cne run_cadd run_csub run_cmul Go.Proofs.YtmoecidfmgeafaaDoor.Wide.cellsAt_drewN Go.Proofs.YtmoecidfmgeafaaDoor.Wide.cellsAt_drew Go.Proofs.YtmoecidfmgeafaaDoor.Wide.lw32 Go.Proofs.YtmoecidfmgeafaaDoor.Wide.lw33
attribute [local go_sem ↓ high] Go.Proofs.YtmoecidfmgeafaaDoor.Wide.hv32 Go.Proofs.YtmoecidfmgeafaaDoor.Wide.hv33
set_option linter.unusedVariables false
set_option linter.unusedSimpArgs false

attribute [local go_sem high] eqA25
set_option maxHeartbeats 8000000 in
set_option maxRecDepth 100000 in
theorem coraclelaw3_PointParts.calls (k : Nat) (A0 : Option Addr) (c0 : Nat) (l0 : List (S25)) (A1 : Option Addr) (c1 : Nat) (l1 : List (S25)) (r : Bool) (w : World) (hr0 : Kd.C k25 w A0 l0.length l0) (hc0 : l0.length ≤ c0) (hr1 : Kd.C k25 w A1 l1.length l1) (hc1 : l1.length ≤ c1) (h : coraclelaw3_PointParts.f k l0 l1 = some r) :
  Calls Tryd.prog 6 #[.slice A0 l0.length c0, .slice A1 l1.length c1] w fun e w' => e = .returned (.bool r) ∧ Below w.heap.size w w' := by
 have hu25 := Tryd.underlying25
 have HR0 := Aside0.mk hr0
 have HC0 := Aside0.mk hc0
 clear hr0 hc0
 have HR1 := Aside0.mk hr1
 have HC1 := Aside0.mk hc1
 clear hr1 hc1
 have HB := Aside0.mk (Below.refl w.heap.size w)
 have H : (if (l0.length : Int) > 40 then (coraclelaw3_PointParts.j0 k l0 l1 true) else (coraclelaw3_PointParts.j0 k l0 l1 (decide ((l1.length : Int) > 40)))) = some r := h
 have HTOLD := Aside0.mk (Go.Proofs.YtmoecidfmgeafaaDoor.PurePointParts.told h)
 clear h
 have HC3 := Aside0.mk H
 clear H
 go_enter Tryd.func6, Tryd.ntmps6
 go_upto_region 1 with (fail)
 go_cut [17] (fun v17 wc => ∃ (kq : Nat) (x17_2 : Bool), v17 = .bool x17_2 ∧ Aside0 (coraclelaw3_PointParts.j0 kq l0 l1 x17_2 = some r) ∧ Aside0 (kq ≤ k) ∧ Aside0 (Below w.heap.size w wc))
 case first =>
  have H := HC3.out
  clear HC3
  by_cases c4 : (l0.length : Int) > 40
  ·
   rw [if_pos c4] at H
   have c4b0 : decide (40 < (l0.length : Int)) = true := decide_eq_true c4
   have c4b1 : decide (40 < l0.length) = true := decide_eq_true (by omega)
   clear c4
   (first | rw [c4b0] | (simp only [i64_w, i32_w]; rw [c4b0]) | skip)
   have H' := Aside0.mk H
   clear H
   go_wp2
   go_meet
   case rel => exact ⟨_, (true), (by first | rfl | (simp; done) | (simp [*]; done)), H', ⟨by first | omega | exact Nat.le_refl _⟩, ⟨by repeat (first | (with_reducible first | exact HB.out | apply below_alloc | apply pw_below_drewN | apply below_drew1) | exact HB.out)⟩⟩
  ·
   rw [if_neg c4] at H
   have c4b0 : decide (40 < (l0.length : Int)) = false := decide_eq_false c4
   have c4b1 : decide (40 < l0.length) = false := decide_eq_false (by omega)
   clear c4
   (first | rw [c4b0] | (simp only [i64_w, i32_w]; rw [c4b0]) | skip)
   have H' := Aside0.mk H
   clear H
   go_wp2
   go_meet
   case rel => exact ⟨_, (decide ((l1.length : Int) > 40)), (by first | rfl | (simp; done) | (simp [*]; done)), H', ⟨by first | omega | exact Nat.le_refl _⟩, ⟨by repeat (first | (with_reducible first | exact HB.out | apply below_alloc | apply pw_below_drewN | apply below_drew1) | exact HB.out)⟩⟩
 case rest =>
  clear HC3
  try clear c1
  try clear p2
  try clear c4
  try clear c4b0
  try clear c4b1
  obtain ⟨kq, x17_2, rfl, HA, HJ2, HB⟩ := hcut
  cases kq with
  | zero => exact absurd HA.out (by simp [coraclelaw3_PointParts.j0])
  | succ kj2 =>
   have H := HA.out
   clear HA
   simp only [coraclelaw3_PointParts.j0] at H
   by_cases c5 : x17_2 = true
   ·
    subst c5
    have H1 : ((coraclelaw3_awake.f).bind fun t301 => (some t301)) = some r := by rw [if_pos rfl] at H; exact H
    clear H
    have H := H1
    clear H1
    replace H := Option.bind_eq_some_iff.mp H
    obtain ⟨t301, A60, H⟩ := H
    replace H : (some t301) = some r := H
    have A6 := Aside0.mk A60
    clear A60
    obtain rfl := Option.some.inj H
    go_wp2_with (first | ((with_reducible refine gate_callee (f := 7) rfl ?_); refine goesL_ (some 18) rfl rfl Tryd.func7 (by kernel_rfl) rfl #[] rfl (by (try simp only [List.map_toArray, List.map_cons, List.map_nil]); first | done | rfl | (simp only [List.length_drop, List.length_take]; rfl)) ?_; (with_reducible refine (coraclelaw3_awake.calls  t301 _ A6.out).mono ?_); rintro e w7 ⟨rfl, hb⟩; refine ⟨_, rfl, ?_⟩; have n0_ := Aside0.mk (below_step (by repeat (first | (with_reducible first | exact HB.out | apply below_alloc | apply pw_below_drewN | apply below_drew1) | exact HB.out)) hb); clear HB; have HB := n0_; clear n0_; (try clear hb); (try clear hb2); (try clear hk); (try clear hi)))
    go_ret
    exact ⟨by first | rfl | (simp [errW_none, errW_some] <;> rfl) | (simp [*, errW_none, errW_some] <;> rfl), by repeat (first | (with_reducible first | exact HB.out | apply below_alloc | apply pw_below_drewN | apply below_drew1) | exact HB.out)⟩
   ·
    replace c5 := Bool.eq_false_iff.mpr c5
    subst c5
    have H1 : ((point_Both.f kj2 l0 l1).bind fun t302 => ((point_Minus.f kj2 l0 l1).bind fun t305 => (coraclelaw3_PointParts.l0 kj2 l0 l1 t302 t305 0 0 0))) = some r := by rw [if_neg (show ¬ (false = true) by decide)] at H; exact H
    clear H
    have H := H1
    clear H1
    replace H := Option.bind_eq_some_iff.mp H
    obtain ⟨t302, A80, H⟩ := H
    replace H : ((point_Minus.f kj2 l0 l1).bind fun t305 => (coraclelaw3_PointParts.l0 kj2 l0 l1 t302 t305 0 0 0)) = some r := H
    have A8 := Aside0.mk A80
    clear A80
    replace H := Option.bind_eq_some_iff.mp H
    obtain ⟨t305, A90, H⟩ := H
    replace H : (coraclelaw3_PointParts.l0 kj2 l0 l1 t302 t305 0 0 0) = some r := H
    have A9 := Aside0.mk A90
    clear A90
    have H' := Aside0.mk H
    clear H
    go_wp2_with (first | ((with_reducible refine gate_callee (f := 16) rfl ?_); refine goesL_ (some 21) rfl rfl Tryd.func16 (by kernel_rfl) rfl #[.slice A0 l0.length c0, .slice A1 l1.length c1] rfl (by (try simp only [List.map_toArray, List.map_cons, List.map_nil]); first | done | rfl | (simp only [List.length_drop, List.length_take]; rfl)) ?_; (with_reducible refine (point_Both.calls kj2 _ _ l0 _ _ l1 t302 _ ?side1 ?side2 ?side3 ?side4 A8.out).mono ?_); (case side1 => repeat (first | exact (Kd.C_below HR0.out HB.out) | (with_reducible refine Kd.C_alloc ?_ _) | (with_reducible refine Kd.C_drewN ?_ _) | (with_reducible refine Kd.C_drew ?_))); (case side2 => exact HC0.out); (case side3 => repeat (first | exact (Kd.C_below HR1.out HB.out) | (with_reducible refine Kd.C_alloc ?_ _) | (with_reducible refine Kd.C_drewN ?_ _) | (with_reducible refine Kd.C_drew ?_))); (case side4 => exact HC1.out); rintro e w10 ⟨v303, rfl, ho0, hb⟩; refine ⟨_, rfl, ?_⟩; have n0_ := Aside0.mk (Kd.R_lower ho0 (below_size (by repeat (first | (with_reducible first | exact HB.out | apply below_alloc | apply pw_below_drewN | apply below_drew1) | exact HB.out)))); have n1_ := Aside0.mk (below_step (by repeat (first | (with_reducible first | exact HB.out | apply below_alloc | apply pw_below_drewN | apply below_drew1) | exact HB.out)) hb); clear HB; have HO304 := n0_; have HB := n1_; clear n0_ n1_; (try clear hb); (try clear hb2); (try clear hk); (try clear hi); (try clear ho0)) | ((with_reducible refine gate_callee (f := 17) rfl ?_); refine goesL_ (some 24) rfl rfl Tryd.func17 (by kernel_rfl) rfl #[.slice A0 l0.length c0, .slice A1 l1.length c1] rfl (by (try simp only [List.map_toArray, List.map_cons, List.map_nil]); first | done | rfl | (simp only [List.length_drop, List.length_take]; rfl)) ?_; (with_reducible refine (point_Minus.calls kj2 _ _ l0 _ _ l1 t305 _ ?side1 ?side2 ?side3 ?side4 A9.out).mono ?_); (case side1 => repeat (first | exact (Kd.C_below HR0.out HB.out) | (with_reducible refine Kd.C_alloc ?_ _) | (with_reducible refine Kd.C_drewN ?_ _) | (with_reducible refine Kd.C_drew ?_))); (case side2 => exact HC0.out); (case side3 => repeat (first | exact (Kd.C_below HR1.out HB.out) | (with_reducible refine Kd.C_alloc ?_ _) | (with_reducible refine Kd.C_drewN ?_ _) | (with_reducible refine Kd.C_drew ?_))); (case side4 => exact HC1.out); rintro e w11 ⟨v306, rfl, ho0, hb⟩; refine ⟨_, rfl, ?_⟩; have n0_ := Aside0.mk (Kd.R_elder' (by (with_reducible repeat (first | apply Kd.R_alloc | apply Kd.R_drewN | apply Kd.R_drew)); exact HO304.out) (Kd.R_base ho0) hb); have n1_ := Aside0.mk (Kd.R_lower (Kd.R_new' ho0 (Kd.R_lt (by (with_reducible repeat (first | apply Kd.R_alloc | apply Kd.R_drewN | apply Kd.R_drew)); exact HO304.out))) (below_size (by repeat (first | (with_reducible first | exact HB.out | apply below_alloc | apply pw_below_drewN | apply below_drew1) | exact HB.out)))); have n2_ := Aside0.mk (below_step (by repeat (first | (with_reducible first | exact HB.out | apply below_alloc | apply pw_below_drewN | apply below_drew1) | exact HB.out)) hb); clear HO304; clear HB; have HO304 := n0_; have HO307 := n1_; have HB := n2_; clear n0_ n1_ n2_; (try clear hb); (try clear hb2); (try clear hk); (try clear hi); (try clear ho0)))
    go_loopg [7, 8, 9] kj2 (fun kq v7 v8 v9 w' => ∃ (x7_2 : Int) (x8_2 : Int) (x9_2 : Int), v7 = .int .i64 x7_2 ∧ v8 = .int .i64 x8_2 ∧ v9 = .int .i64 x9_2 ∧ Aside0 (coraclelaw3_PointParts.l0 kq l0 l1 t302 t305 x7_2 x8_2 x9_2 = some r) ∧ Aside0 (kq ≤ kj2) ∧ Aside0 (Kd.R k25 25 w' w.heap.size (fun k_ => some k_ ≠ (v306 : Value).ownBlock) v303 t302) ∧ Aside0 (Kd.R k25 25 w' w.heap.size (fun k_ => some k_ ≠ (v303 : Value).ownBlock) v306 t305) ∧ Aside0 (Below w.heap.size w w'))
    case atStart => exact ⟨(0), (0), (0), (by first | rfl | (simp; done) | (simp [*]; done)), (by first | rfl | (simp; done) | (simp [*]; done)), (by first | rfl | (simp; done) | (simp [*]; done)), H', ⟨Nat.le_refl _⟩, ⟨by (with_reducible repeat (first | apply Kd.R_alloc | apply Kd.R_drewN | apply Kd.R_drew)); exact Kd.R_mono HO304.out (fun _ hk => hk.2)⟩, ⟨by (with_reducible repeat (first | apply Kd.R_alloc | apply Kd.R_drewN | apply Kd.R_drew)); exact Kd.R_mono HO307.out (fun _ hk => hk.2)⟩, ⟨by repeat (first | (with_reducible first | exact HB.out | apply below_alloc | apply pw_below_drewN | apply below_drew1) | exact HB.out)⟩⟩
    case round =>
     clear H'
     try clear c1
     try clear p2
     try clear c4
     try clear c4b0
     try clear c4b1
     try clear c5
     try clear c6
     try clear c7
     try clear p2
     obtain ⟨x7_2, x8_2, x9_2, rfl, rfl, rfl, HA, HK2, HO_5, HO_6, HB⟩ := hrel
     cases gk with
     | zero => exact absurd HA.out (by simp [coraclelaw3_PointParts.l0])
     | succ k2 =>
      have H := HA.out
      clear HA
      simp only [coraclelaw3_PointParts.l0] at H
      by_cases c12 : x9_2 < (l0.length : Int)
      ·
       rw [if_pos c12] at H
       have c12b0 : decide (x9_2 < (l0.length : Int)) = true := decide_eq_true c12
       clear c12
       have HC13 := Aside0.mk H
       clear H
       go_upto_region 9 with (fail)
       go_cut [31] (fun v31 wc => ∃ (kq : Nat) (x31_12 : Bool), v31 = .bool x31_12 ∧ Aside0 (coraclelaw3_PointParts.j2 kq l0 l1 t302 t305 x7_2 x8_2 x9_2 x31_12 = some r) ∧ Aside0 (kq ≤ k2) ∧ Aside0 (Kd.R k25 25 wc w.heap.size (fun k_ => some k_ ≠ (v306 : Value).ownBlock) v303 t302) ∧ Aside0 (Kd.R k25 25 wc w.heap.size (fun k_ => some k_ ≠ (v303 : Value).ownBlock) v306 t305) ∧ Aside0 (Below w.heap.size w wc))
       case first =>
        have H := HC13.out
        clear HC13
        by_cases c14 : x7_2 < (t302.length : Int)
        ·
         rw [if_pos c14] at H
         have c14b0 : decide (x7_2 < (t302.length : Int)) = true := decide_eq_true c14
         clear c14
         (first | rw [c14b0] | (simp only [i64_w, i32_w]; rw [c14b0]) | skip)
         by_cases c15 : 0 ≤ x7_2
         ·
          rw [if_pos c15] at H
          have c15b0 : decide (0 ≤ x7_2) = true := decide_eq_true c15
          clear c15
          by_cases c16 : 0 ≤ x9_2
          ·
           rw [if_pos c16] at H
           have c16b0 : decide (0 ≤ x9_2) = true := decide_eq_true c16
           clear c16
           by_cases c17 : ((((rd_T25 t302 x7_2).f0.f0) == ((rd_T25 l0 x9_2).f0.f0) && (((rd_T25 t302 x7_2).f0.f1) == ((rd_T25 l0 x9_2).f0.f1) && (((rd_T25 t302 x7_2).f0.f2) == ((rd_T25 l0 x9_2).f0.f2) && (((rd_T25 t302 x7_2).f0.f3) == ((rd_T25 l0 x9_2).f0.f3) && (((rd_T25 t302 x7_2).f0.f4) == ((rd_T25 l0 x9_2).f0.f4) && (((rd_T25 t302 x7_2).f0.f5) == ((rd_T25 l0 x9_2).f0.f5) && (((rd_T25 t302 x7_2).f0.f6) == ((rd_T25 l0 x9_2).f0.f6) && (((rd_T25 t302 x7_2).f0.f7) == ((rd_T25 l0 x9_2).f0.f7) && (((rd_T25 t302 x7_2).f0.f8) == ((rd_T25 l0 x9_2).f0.f8) && (((rd_T25 t302 x7_2).f0.f9) == ((rd_T25 l0 x9_2).f0.f9) && (((rd_T25 t302 x7_2).f0.f10) == ((rd_T25 l0 x9_2).f0.f10) && (((rd_T25 t302 x7_2).f0.f11) == ((rd_T25 l0 x9_2).f0.f11) && (((rd_T25 t302 x7_2).f0.f12) == ((rd_T25 l0 x9_2).f0.f12) && (((rd_T25 t302 x7_2).f0.f13) == ((rd_T25 l0 x9_2).f0.f13) && (((rd_T25 t302 x7_2).f0.f14) == ((rd_T25 l0 x9_2).f0.f14) && (((rd_T25 t302 x7_2).f0.f15) == ((rd_T25 l0 x9_2).f0.f15) && (((rd_T25 t302 x7_2).f0.f16) == ((rd_T25 l0 x9_2).f0.f16) && (((rd_T25 t302 x7_2).f0.f17) == ((rd_T25 l0 x9_2).f0.f17) && (((rd_T25 t302 x7_2).f0.f18) == ((rd_T25 l0 x9_2).f0.f18) && (((rd_T25 t302 x7_2).f0.f19) == ((rd_T25 l0 x9_2).f0.f19) && (((rd_T25 t302 x7_2).f0.f20) == ((rd_T25 l0 x9_2).f0.f20) && (((rd_T25 t302 x7_2).f0.f21) == ((rd_T25 l0 x9_2).f0.f21) && (((rd_T25 t302 x7_2).f0.f22) == ((rd_T25 l0 x9_2).f0.f22) && (((rd_T25 t302 x7_2).f0.f23) == ((rd_T25 l0 x9_2).f0.f23) && (((rd_T25 t302 x7_2).f0.f24) == ((rd_T25 l0 x9_2).f0.f24) && (((rd_T25 t302 x7_2).f0.f25) == ((rd_T25 l0 x9_2).f0.f25) && (((rd_T25 t302 x7_2).f0.f26) == ((rd_T25 l0 x9_2).f0.f26) && (((rd_T25 t302 x7_2).f0.f27) == ((rd_T25 l0 x9_2).f0.f27) && (((rd_T25 t302 x7_2).f0.f28) == ((rd_T25 l0 x9_2).f0.f28) && (((rd_T25 t302 x7_2).f0.f29) == ((rd_T25 l0 x9_2).f0.f29) && (((rd_T25 t302 x7_2).f0.f30) == ((rd_T25 l0 x9_2).f0.f30) && (((rd_T25 t302 x7_2).f0.f31) == ((rd_T25 l0 x9_2).f0.f31))))))))))))))))))))))))))))))))) && (((rd_T25 t302 x7_2).f1) == ((rd_T25 l0 x9_2).f1))) = true
           ·
            rw [if_pos c17] at H
            have c17b0 : ((((rd_T25 t302 x7_2).f0.f0) == ((rd_T25 l0 x9_2).f0.f0) && (((rd_T25 t302 x7_2).f0.f1) == ((rd_T25 l0 x9_2).f0.f1) && (((rd_T25 t302 x7_2).f0.f2) == ((rd_T25 l0 x9_2).f0.f2) && (((rd_T25 t302 x7_2).f0.f3) == ((rd_T25 l0 x9_2).f0.f3) && (((rd_T25 t302 x7_2).f0.f4) == ((rd_T25 l0 x9_2).f0.f4) && (((rd_T25 t302 x7_2).f0.f5) == ((rd_T25 l0 x9_2).f0.f5) && (((rd_T25 t302 x7_2).f0.f6) == ((rd_T25 l0 x9_2).f0.f6) && (((rd_T25 t302 x7_2).f0.f7) == ((rd_T25 l0 x9_2).f0.f7) && (((rd_T25 t302 x7_2).f0.f8) == ((rd_T25 l0 x9_2).f0.f8) && (((rd_T25 t302 x7_2).f0.f9) == ((rd_T25 l0 x9_2).f0.f9) && (((rd_T25 t302 x7_2).f0.f10) == ((rd_T25 l0 x9_2).f0.f10) && (((rd_T25 t302 x7_2).f0.f11) == ((rd_T25 l0 x9_2).f0.f11) && (((rd_T25 t302 x7_2).f0.f12) == ((rd_T25 l0 x9_2).f0.f12) && (((rd_T25 t302 x7_2).f0.f13) == ((rd_T25 l0 x9_2).f0.f13) && (((rd_T25 t302 x7_2).f0.f14) == ((rd_T25 l0 x9_2).f0.f14) && (((rd_T25 t302 x7_2).f0.f15) == ((rd_T25 l0 x9_2).f0.f15) && (((rd_T25 t302 x7_2).f0.f16) == ((rd_T25 l0 x9_2).f0.f16) && (((rd_T25 t302 x7_2).f0.f17) == ((rd_T25 l0 x9_2).f0.f17) && (((rd_T25 t302 x7_2).f0.f18) == ((rd_T25 l0 x9_2).f0.f18) && (((rd_T25 t302 x7_2).f0.f19) == ((rd_T25 l0 x9_2).f0.f19) && (((rd_T25 t302 x7_2).f0.f20) == ((rd_T25 l0 x9_2).f0.f20) && (((rd_T25 t302 x7_2).f0.f21) == ((rd_T25 l0 x9_2).f0.f21) && (((rd_T25 t302 x7_2).f0.f22) == ((rd_T25 l0 x9_2).f0.f22) && (((rd_T25 t302 x7_2).f0.f23) == ((rd_T25 l0 x9_2).f0.f23) && (((rd_T25 t302 x7_2).f0.f24) == ((rd_T25 l0 x9_2).f0.f24) && (((rd_T25 t302 x7_2).f0.f25) == ((rd_T25 l0 x9_2).f0.f25) && (((rd_T25 t302 x7_2).f0.f26) == ((rd_T25 l0 x9_2).f0.f26) && (((rd_T25 t302 x7_2).f0.f27) == ((rd_T25 l0 x9_2).f0.f27) && (((rd_T25 t302 x7_2).f0.f28) == ((rd_T25 l0 x9_2).f0.f28) && (((rd_T25 t302 x7_2).f0.f29) == ((rd_T25 l0 x9_2).f0.f29) && (((rd_T25 t302 x7_2).f0.f30) == ((rd_T25 l0 x9_2).f0.f30) && (((rd_T25 t302 x7_2).f0.f31) == ((rd_T25 l0 x9_2).f0.f31))))))))))))))))))))))))))))))))) && (((rd_T25 t302 x7_2).f1) == ((rd_T25 l0 x9_2).f1))) = true := c17
            clear c17
            replace H := Option.bind_eq_some_iff.mp H
            obtain ⟨t325, A180, H⟩ := H
            replace H : (coraclelaw3_PointParts.j2 k2 l0 l1 t302 t305 x7_2 x8_2 x9_2 t325) = some r := H
            have A18 := Aside0.mk A180
            clear A180
            have H' := Aside0.mk H
            clear H
            try go_wp2
            have n0_ := Aside0.mk (Kd.R_drew HO_5.out)
            have n1_ := Aside0.mk (Kd.R_drew HO_6.out)
            have n2_ := Aside0.mk (below_drew1 HB.out)
            clear HO_5
            clear HO_6
            clear HB
            have HO_5 := n0_
            have HO_6 := n1_
            have HB := n2_
            clear n0_ n1_ n2_
            obtain ⟨Ao20, co20, eo20⟩ := Kd.R_slice HO_5.out
            (first | subst eo20 | (injection eo20 with f1_ f2_ f3_; have f4_ := f1_.symm; have f5_ := f3_.symm; clear f1_ f2_ f3_; subst f4_; subst f5_))
            have p322 : 0 ≤ (x7_2 : Int) := of_decide_eq_true (by first | (with_reducible assumption) | assumption)
            have q322 : x7_2 < (t302.length : Int) := of_decide_eq_true (by first | (with_reducible assumption) | assumption)
            obtain ⟨ad322, e322, hx322_0, hx322_1, hx322_2, hx322_3, hx322_4, hx322_5, hx322_6, hx322_7, hx322_8, hx322_9, hx322_10, hx322_11, hx322_12, hx322_13, hx322_14, hx322_15, hx322_16, hx322_17, hx322_18, hx322_19, hx322_20, hx322_21, hx322_22, hx322_23, hx322_24, hx322_25, hx322_26, hx322_27, hx322_28, hx322_29, hx322_30, hx322_31, hx322_32⟩ := at_T25 (Kd.R_reads' HO_5.out).2.2 x7_2 p322 q322
            cases e322
            replace p322 := eq_true p322
            replace q322 := eq_true q322
            have hw322_0_32 := Go.Proofs.YtmoecidfmgeafaaDoor.Wide.mk32 hx322_0 hx322_1 hx322_2 hx322_3 hx322_4 hx322_5 hx322_6 hx322_7 hx322_8 hx322_9 hx322_10 hx322_11 hx322_12 hx322_13 hx322_14 hx322_15 hx322_16 hx322_17 hx322_18 hx322_19 hx322_20 hx322_21 hx322_22 hx322_23 hx322_24 hx322_25 hx322_26 hx322_27 hx322_28 hx322_29 hx322_30 hx322_31
            have hw322_0_33 := Go.Proofs.YtmoecidfmgeafaaDoor.Wide.mk33 hx322_0 hx322_1 hx322_2 hx322_3 hx322_4 hx322_5 hx322_6 hx322_7 hx322_8 hx322_9 hx322_10 hx322_11 hx322_12 hx322_13 hx322_14 hx322_15 hx322_16 hx322_17 hx322_18 hx322_19 hx322_20 hx322_21 hx322_22 hx322_23 hx322_24 hx322_25 hx322_26 hx322_27 hx322_28 hx322_29 hx322_30 hx322_31 hx322_32
            have p323 : 0 ≤ (x9_2 : Int) := of_decide_eq_true (by first | (with_reducible assumption) | assumption)
            have q323 : x9_2 < (l0.length : Int) := of_decide_eq_true (by first | (with_reducible assumption) | assumption)
            obtain ⟨ad323, e323, hx323_0, hx323_1, hx323_2, hx323_3, hx323_4, hx323_5, hx323_6, hx323_7, hx323_8, hx323_9, hx323_10, hx323_11, hx323_12, hx323_13, hx323_14, hx323_15, hx323_16, hx323_17, hx323_18, hx323_19, hx323_20, hx323_21, hx323_22, hx323_23, hx323_24, hx323_25, hx323_26, hx323_27, hx323_28, hx323_29, hx323_30, hx323_31, hx323_32⟩ := at_T25 HR0.out x9_2 p323 q323
            have hw323_0_32 := Go.Proofs.YtmoecidfmgeafaaDoor.Wide.mk32 hx323_0 hx323_1 hx323_2 hx323_3 hx323_4 hx323_5 hx323_6 hx323_7 hx323_8 hx323_9 hx323_10 hx323_11 hx323_12 hx323_13 hx323_14 hx323_15 hx323_16 hx323_17 hx323_18 hx323_19 hx323_20 hx323_21 hx323_22 hx323_23 hx323_24 hx323_25 hx323_26 hx323_27 hx323_28 hx323_29 hx323_30 hx323_31
            have hw323_0_33 := Go.Proofs.YtmoecidfmgeafaaDoor.Wide.mk33 hx323_0 hx323_1 hx323_2 hx323_3 hx323_4 hx323_5 hx323_6 hx323_7 hx323_8 hx323_9 hx323_10 hx323_11 hx323_12 hx323_13 hx323_14 hx323_15 hx323_16 hx323_17 hx323_18 hx323_19 hx323_20 hx323_21 hx323_22 hx323_23 hx323_24 hx323_25 hx323_26 hx323_27 hx323_28 hx323_29 hx323_30 hx323_31 hx323_32
            have hw323_32 := hx323_32
            have hw323_31 := hx323_31
            have hw323_30 := hx323_30
            have hw323_29 := hx323_29
            have hw323_28 := hx323_28
            have hw323_27 := hx323_27
            have hw323_26 := hx323_26
            have hw323_25 := hx323_25
            have hw323_24 := hx323_24
            have hw323_23 := hx323_23
            have hw323_22 := hx323_22
            have hw323_21 := hx323_21
            have hw323_20 := hx323_20
            have hw323_19 := hx323_19
            have hw323_18 := hx323_18
            have hw323_17 := hx323_17
            have hw323_16 := hx323_16
            have hw323_15 := hx323_15
            have hw323_14 := hx323_14
            have hw323_13 := hx323_13
            have hw323_12 := hx323_12
            have hw323_11 := hx323_11
            have hw323_10 := hx323_10
            have hw323_9 := hx323_9
            have hw323_8 := hx323_8
            have hw323_7 := hx323_7
            have hw323_6 := hx323_6
            have hw323_5 := hx323_5
            have hw323_4 := hx323_4
            have hw323_3 := hx323_3
            have hw323_2 := hx323_2
            have hw323_1 := hx323_1
            have hw323_0 := hx323_0
            cases e323
            replace hx323_0 := (HB.out.cell (World.block_lt_of_cell? w _ hx323_0)).trans hx323_0
            replace hx323_1 := (HB.out.cell (World.block_lt_of_cell? w _ hx323_1)).trans hx323_1
            replace hx323_2 := (HB.out.cell (World.block_lt_of_cell? w _ hx323_2)).trans hx323_2
            replace hx323_3 := (HB.out.cell (World.block_lt_of_cell? w _ hx323_3)).trans hx323_3
            replace hx323_4 := (HB.out.cell (World.block_lt_of_cell? w _ hx323_4)).trans hx323_4
            replace hx323_5 := (HB.out.cell (World.block_lt_of_cell? w _ hx323_5)).trans hx323_5
            replace hx323_6 := (HB.out.cell (World.block_lt_of_cell? w _ hx323_6)).trans hx323_6
            replace hx323_7 := (HB.out.cell (World.block_lt_of_cell? w _ hx323_7)).trans hx323_7
            replace hx323_8 := (HB.out.cell (World.block_lt_of_cell? w _ hx323_8)).trans hx323_8
            replace hx323_9 := (HB.out.cell (World.block_lt_of_cell? w _ hx323_9)).trans hx323_9
            replace hx323_10 := (HB.out.cell (World.block_lt_of_cell? w _ hx323_10)).trans hx323_10
            replace hx323_11 := (HB.out.cell (World.block_lt_of_cell? w _ hx323_11)).trans hx323_11
            replace hx323_12 := (HB.out.cell (World.block_lt_of_cell? w _ hx323_12)).trans hx323_12
            replace hx323_13 := (HB.out.cell (World.block_lt_of_cell? w _ hx323_13)).trans hx323_13
            replace hx323_14 := (HB.out.cell (World.block_lt_of_cell? w _ hx323_14)).trans hx323_14
            replace hx323_15 := (HB.out.cell (World.block_lt_of_cell? w _ hx323_15)).trans hx323_15
            replace hx323_16 := (HB.out.cell (World.block_lt_of_cell? w _ hx323_16)).trans hx323_16
            replace hx323_17 := (HB.out.cell (World.block_lt_of_cell? w _ hx323_17)).trans hx323_17
            replace hx323_18 := (HB.out.cell (World.block_lt_of_cell? w _ hx323_18)).trans hx323_18
            replace hx323_19 := (HB.out.cell (World.block_lt_of_cell? w _ hx323_19)).trans hx323_19
            replace hx323_20 := (HB.out.cell (World.block_lt_of_cell? w _ hx323_20)).trans hx323_20
            replace hx323_21 := (HB.out.cell (World.block_lt_of_cell? w _ hx323_21)).trans hx323_21
            replace hx323_22 := (HB.out.cell (World.block_lt_of_cell? w _ hx323_22)).trans hx323_22
            replace hx323_23 := (HB.out.cell (World.block_lt_of_cell? w _ hx323_23)).trans hx323_23
            replace hx323_24 := (HB.out.cell (World.block_lt_of_cell? w _ hx323_24)).trans hx323_24
            replace hx323_25 := (HB.out.cell (World.block_lt_of_cell? w _ hx323_25)).trans hx323_25
            replace hx323_26 := (HB.out.cell (World.block_lt_of_cell? w _ hx323_26)).trans hx323_26
            replace hx323_27 := (HB.out.cell (World.block_lt_of_cell? w _ hx323_27)).trans hx323_27
            replace hx323_28 := (HB.out.cell (World.block_lt_of_cell? w _ hx323_28)).trans hx323_28
            replace hx323_29 := (HB.out.cell (World.block_lt_of_cell? w _ hx323_29)).trans hx323_29
            replace hx323_30 := (HB.out.cell (World.block_lt_of_cell? w _ hx323_30)).trans hx323_30
            replace hx323_31 := (HB.out.cell (World.block_lt_of_cell? w _ hx323_31)).trans hx323_31
            replace hx323_32 := (HB.out.cell (World.block_lt_of_cell? w _ hx323_32)).trans hx323_32
            replace p323 := eq_true p323
            replace q323 := eq_true q323
            have p324 : 0 ≤ (x9_2 : Int) := of_decide_eq_true (by first | (with_reducible assumption) | assumption)
            have q324 : x9_2 < (l0.length : Int) := of_decide_eq_true (by first | (with_reducible assumption) | assumption)
            obtain ⟨ad324, e324, hx324_0, hx324_1, hx324_2, hx324_3, hx324_4, hx324_5, hx324_6, hx324_7, hx324_8, hx324_9, hx324_10, hx324_11, hx324_12, hx324_13, hx324_14, hx324_15, hx324_16, hx324_17, hx324_18, hx324_19, hx324_20, hx324_21, hx324_22, hx324_23, hx324_24, hx324_25, hx324_26, hx324_27, hx324_28, hx324_29, hx324_30, hx324_31, hx324_32⟩ := at_T25 HR0.out x9_2 p324 q324
            have hw324_0_32 := Go.Proofs.YtmoecidfmgeafaaDoor.Wide.mk32 hx324_0 hx324_1 hx324_2 hx324_3 hx324_4 hx324_5 hx324_6 hx324_7 hx324_8 hx324_9 hx324_10 hx324_11 hx324_12 hx324_13 hx324_14 hx324_15 hx324_16 hx324_17 hx324_18 hx324_19 hx324_20 hx324_21 hx324_22 hx324_23 hx324_24 hx324_25 hx324_26 hx324_27 hx324_28 hx324_29 hx324_30 hx324_31
            have hw324_0_33 := Go.Proofs.YtmoecidfmgeafaaDoor.Wide.mk33 hx324_0 hx324_1 hx324_2 hx324_3 hx324_4 hx324_5 hx324_6 hx324_7 hx324_8 hx324_9 hx324_10 hx324_11 hx324_12 hx324_13 hx324_14 hx324_15 hx324_16 hx324_17 hx324_18 hx324_19 hx324_20 hx324_21 hx324_22 hx324_23 hx324_24 hx324_25 hx324_26 hx324_27 hx324_28 hx324_29 hx324_30 hx324_31 hx324_32
            have hw324_32 := hx324_32
            have hw324_31 := hx324_31
            have hw324_30 := hx324_30
            have hw324_29 := hx324_29
            have hw324_28 := hx324_28
            have hw324_27 := hx324_27
            have hw324_26 := hx324_26
            have hw324_25 := hx324_25
            have hw324_24 := hx324_24
            have hw324_23 := hx324_23
            have hw324_22 := hx324_22
            have hw324_21 := hx324_21
            have hw324_20 := hx324_20
            have hw324_19 := hx324_19
            have hw324_18 := hx324_18
            have hw324_17 := hx324_17
            have hw324_16 := hx324_16
            have hw324_15 := hx324_15
            have hw324_14 := hx324_14
            have hw324_13 := hx324_13
            have hw324_12 := hx324_12
            have hw324_11 := hx324_11
            have hw324_10 := hx324_10
            have hw324_9 := hx324_9
            have hw324_8 := hx324_8
            have hw324_7 := hx324_7
            have hw324_6 := hx324_6
            have hw324_5 := hx324_5
            have hw324_4 := hx324_4
            have hw324_3 := hx324_3
            have hw324_2 := hx324_2
            have hw324_1 := hx324_1
            have hw324_0 := hx324_0
            obtain rfl : ad323 = ad324 := (by injection e324)
            replace hx324_0 := (HB.out.cell (World.block_lt_of_cell? w _ hx324_0)).trans hx324_0
            replace hx324_1 := (HB.out.cell (World.block_lt_of_cell? w _ hx324_1)).trans hx324_1
            replace hx324_2 := (HB.out.cell (World.block_lt_of_cell? w _ hx324_2)).trans hx324_2
            replace hx324_3 := (HB.out.cell (World.block_lt_of_cell? w _ hx324_3)).trans hx324_3
            replace hx324_4 := (HB.out.cell (World.block_lt_of_cell? w _ hx324_4)).trans hx324_4
            replace hx324_5 := (HB.out.cell (World.block_lt_of_cell? w _ hx324_5)).trans hx324_5
            replace hx324_6 := (HB.out.cell (World.block_lt_of_cell? w _ hx324_6)).trans hx324_6
            replace hx324_7 := (HB.out.cell (World.block_lt_of_cell? w _ hx324_7)).trans hx324_7
            replace hx324_8 := (HB.out.cell (World.block_lt_of_cell? w _ hx324_8)).trans hx324_8
            replace hx324_9 := (HB.out.cell (World.block_lt_of_cell? w _ hx324_9)).trans hx324_9
            replace hx324_10 := (HB.out.cell (World.block_lt_of_cell? w _ hx324_10)).trans hx324_10
            replace hx324_11 := (HB.out.cell (World.block_lt_of_cell? w _ hx324_11)).trans hx324_11
            replace hx324_12 := (HB.out.cell (World.block_lt_of_cell? w _ hx324_12)).trans hx324_12
            replace hx324_13 := (HB.out.cell (World.block_lt_of_cell? w _ hx324_13)).trans hx324_13
            replace hx324_14 := (HB.out.cell (World.block_lt_of_cell? w _ hx324_14)).trans hx324_14
            replace hx324_15 := (HB.out.cell (World.block_lt_of_cell? w _ hx324_15)).trans hx324_15
            replace hx324_16 := (HB.out.cell (World.block_lt_of_cell? w _ hx324_16)).trans hx324_16
            replace hx324_17 := (HB.out.cell (World.block_lt_of_cell? w _ hx324_17)).trans hx324_17
            replace hx324_18 := (HB.out.cell (World.block_lt_of_cell? w _ hx324_18)).trans hx324_18
            replace hx324_19 := (HB.out.cell (World.block_lt_of_cell? w _ hx324_19)).trans hx324_19
            replace hx324_20 := (HB.out.cell (World.block_lt_of_cell? w _ hx324_20)).trans hx324_20
            replace hx324_21 := (HB.out.cell (World.block_lt_of_cell? w _ hx324_21)).trans hx324_21
            replace hx324_22 := (HB.out.cell (World.block_lt_of_cell? w _ hx324_22)).trans hx324_22
            replace hx324_23 := (HB.out.cell (World.block_lt_of_cell? w _ hx324_23)).trans hx324_23
            replace hx324_24 := (HB.out.cell (World.block_lt_of_cell? w _ hx324_24)).trans hx324_24
            replace hx324_25 := (HB.out.cell (World.block_lt_of_cell? w _ hx324_25)).trans hx324_25
            replace hx324_26 := (HB.out.cell (World.block_lt_of_cell? w _ hx324_26)).trans hx324_26
            replace hx324_27 := (HB.out.cell (World.block_lt_of_cell? w _ hx324_27)).trans hx324_27
            replace hx324_28 := (HB.out.cell (World.block_lt_of_cell? w _ hx324_28)).trans hx324_28
            replace hx324_29 := (HB.out.cell (World.block_lt_of_cell? w _ hx324_29)).trans hx324_29
            replace hx324_30 := (HB.out.cell (World.block_lt_of_cell? w _ hx324_30)).trans hx324_30
            replace hx324_31 := (HB.out.cell (World.block_lt_of_cell? w _ hx324_31)).trans hx324_31
            replace hx324_32 := (HB.out.cell (World.block_lt_of_cell? w _ hx324_32)).trans hx324_32
            replace p324 := eq_true p324
            replace q324 := eq_true q324
            refine start_ (n := 24) (S := fun w' => Go.Proofs.YtmoecidfmgeafaaDoor.Wide.cellsAt w' (ad322.add ((x7_2).toNat * 33)) 33 = some (.int .u8 ((rd_T25 t302 x7_2).f0.f0) :: .int .u8 ((rd_T25 t302 x7_2).f0.f1) :: .int .u8 ((rd_T25 t302 x7_2).f0.f2) :: .int .u8 ((rd_T25 t302 x7_2).f0.f3) :: .int .u8 ((rd_T25 t302 x7_2).f0.f4) :: .int .u8 ((rd_T25 t302 x7_2).f0.f5) :: .int .u8 ((rd_T25 t302 x7_2).f0.f6) :: .int .u8 ((rd_T25 t302 x7_2).f0.f7) :: .int .u8 ((rd_T25 t302 x7_2).f0.f8) :: .int .u8 ((rd_T25 t302 x7_2).f0.f9) :: .int .u8 ((rd_T25 t302 x7_2).f0.f10) :: .int .u8 ((rd_T25 t302 x7_2).f0.f11) :: .int .u8 ((rd_T25 t302 x7_2).f0.f12) :: .int .u8 ((rd_T25 t302 x7_2).f0.f13) :: .int .u8 ((rd_T25 t302 x7_2).f0.f14) :: .int .u8 ((rd_T25 t302 x7_2).f0.f15) :: .int .u8 ((rd_T25 t302 x7_2).f0.f16) :: .int .u8 ((rd_T25 t302 x7_2).f0.f17) :: .int .u8 ((rd_T25 t302 x7_2).f0.f18) :: .int .u8 ((rd_T25 t302 x7_2).f0.f19) :: .int .u8 ((rd_T25 t302 x7_2).f0.f20) :: .int .u8 ((rd_T25 t302 x7_2).f0.f21) :: .int .u8 ((rd_T25 t302 x7_2).f0.f22) :: .int .u8 ((rd_T25 t302 x7_2).f0.f23) :: .int .u8 ((rd_T25 t302 x7_2).f0.f24) :: .int .u8 ((rd_T25 t302 x7_2).f0.f25) :: .int .u8 ((rd_T25 t302 x7_2).f0.f26) :: .int .u8 ((rd_T25 t302 x7_2).f0.f27) :: .int .u8 ((rd_T25 t302 x7_2).f0.f28) :: .int .u8 ((rd_T25 t302 x7_2).f0.f29) :: .int .u8 ((rd_T25 t302 x7_2).f0.f30) :: .int .u8 ((rd_T25 t302 x7_2).f0.f31) :: .int .i64 ((rd_T25 t302 x7_2).f1) :: []) ∧ Go.Proofs.YtmoecidfmgeafaaDoor.Wide.cellsAt w' (ad323.add ((x9_2).toNat * 33)) 33 = some (.int .u8 ((rd_T25 l0 x9_2).f0.f0) :: .int .u8 ((rd_T25 l0 x9_2).f0.f1) :: .int .u8 ((rd_T25 l0 x9_2).f0.f2) :: .int .u8 ((rd_T25 l0 x9_2).f0.f3) :: .int .u8 ((rd_T25 l0 x9_2).f0.f4) :: .int .u8 ((rd_T25 l0 x9_2).f0.f5) :: .int .u8 ((rd_T25 l0 x9_2).f0.f6) :: .int .u8 ((rd_T25 l0 x9_2).f0.f7) :: .int .u8 ((rd_T25 l0 x9_2).f0.f8) :: .int .u8 ((rd_T25 l0 x9_2).f0.f9) :: .int .u8 ((rd_T25 l0 x9_2).f0.f10) :: .int .u8 ((rd_T25 l0 x9_2).f0.f11) :: .int .u8 ((rd_T25 l0 x9_2).f0.f12) :: .int .u8 ((rd_T25 l0 x9_2).f0.f13) :: .int .u8 ((rd_T25 l0 x9_2).f0.f14) :: .int .u8 ((rd_T25 l0 x9_2).f0.f15) :: .int .u8 ((rd_T25 l0 x9_2).f0.f16) :: .int .u8 ((rd_T25 l0 x9_2).f0.f17) :: .int .u8 ((rd_T25 l0 x9_2).f0.f18) :: .int .u8 ((rd_T25 l0 x9_2).f0.f19) :: .int .u8 ((rd_T25 l0 x9_2).f0.f20) :: .int .u8 ((rd_T25 l0 x9_2).f0.f21) :: .int .u8 ((rd_T25 l0 x9_2).f0.f22) :: .int .u8 ((rd_T25 l0 x9_2).f0.f23) :: .int .u8 ((rd_T25 l0 x9_2).f0.f24) :: .int .u8 ((rd_T25 l0 x9_2).f0.f25) :: .int .u8 ((rd_T25 l0 x9_2).f0.f26) :: .int .u8 ((rd_T25 l0 x9_2).f0.f27) :: .int .u8 ((rd_T25 l0 x9_2).f0.f28) :: .int .u8 ((rd_T25 l0 x9_2).f0.f29) :: .int .u8 ((rd_T25 l0 x9_2).f0.f30) :: .int .u8 ((rd_T25 l0 x9_2).f0.f31) :: .int .i64 ((rd_T25 l0 x9_2).f1) :: [])) (ds := []) #[false, false, false, false, false, false, false, false, false, false, false, false, false, false, false, false, false, false, false, false, false, false, false, false] (by kernel_rfl) rfl rfl ⟨Go.Proofs.YtmoecidfmgeafaaDoor.Wide.mk33 hx322_0 hx322_1 hx322_2 hx322_3 hx322_4 hx322_5 hx322_6 hx322_7 hx322_8 hx322_9 hx322_10 hx322_11 hx322_12 hx322_13 hx322_14 hx322_15 hx322_16 hx322_17 hx322_18 hx322_19 hx322_20 hx322_21 hx322_22 hx322_23 hx322_24 hx322_25 hx322_26 hx322_27 hx322_28 hx322_29 hx322_30 hx322_31 hx322_32, Go.Proofs.YtmoecidfmgeafaaDoor.Wide.mk33 (((HB.out.cell (World.block_lt_of_cell? w _ hw323_0)).trans hw323_0)) (((HB.out.cell (World.block_lt_of_cell? w _ hw323_1)).trans hw323_1)) (((HB.out.cell (World.block_lt_of_cell? w _ hw323_2)).trans hw323_2)) (((HB.out.cell (World.block_lt_of_cell? w _ hw323_3)).trans hw323_3)) (((HB.out.cell (World.block_lt_of_cell? w _ hw323_4)).trans hw323_4)) (((HB.out.cell (World.block_lt_of_cell? w _ hw323_5)).trans hw323_5)) (((HB.out.cell (World.block_lt_of_cell? w _ hw323_6)).trans hw323_6)) (((HB.out.cell (World.block_lt_of_cell? w _ hw323_7)).trans hw323_7)) (((HB.out.cell (World.block_lt_of_cell? w _ hw323_8)).trans hw323_8)) (((HB.out.cell (World.block_lt_of_cell? w _ hw323_9)).trans hw323_9)) (((HB.out.cell (World.block_lt_of_cell? w _ hw323_10)).trans hw323_10)) (((HB.out.cell (World.block_lt_of_cell? w _ hw323_11)).trans hw323_11)) (((HB.out.cell (World.block_lt_of_cell? w _ hw323_12)).trans hw323_12)) (((HB.out.cell (World.block_lt_of_cell? w _ hw323_13)).trans hw323_13)) (((HB.out.cell (World.block_lt_of_cell? w _ hw323_14)).trans hw323_14)) (((HB.out.cell (World.block_lt_of_cell? w _ hw323_15)).trans hw323_15)) (((HB.out.cell (World.block_lt_of_cell? w _ hw323_16)).trans hw323_16)) (((HB.out.cell (World.block_lt_of_cell? w _ hw323_17)).trans hw323_17)) (((HB.out.cell (World.block_lt_of_cell? w _ hw323_18)).trans hw323_18)) (((HB.out.cell (World.block_lt_of_cell? w _ hw323_19)).trans hw323_19)) (((HB.out.cell (World.block_lt_of_cell? w _ hw323_20)).trans hw323_20)) (((HB.out.cell (World.block_lt_of_cell? w _ hw323_21)).trans hw323_21)) (((HB.out.cell (World.block_lt_of_cell? w _ hw323_22)).trans hw323_22)) (((HB.out.cell (World.block_lt_of_cell? w _ hw323_23)).trans hw323_23)) (((HB.out.cell (World.block_lt_of_cell? w _ hw323_24)).trans hw323_24)) (((HB.out.cell (World.block_lt_of_cell? w _ hw323_25)).trans hw323_25)) (((HB.out.cell (World.block_lt_of_cell? w _ hw323_26)).trans hw323_26)) (((HB.out.cell (World.block_lt_of_cell? w _ hw323_27)).trans hw323_27)) (((HB.out.cell (World.block_lt_of_cell? w _ hw323_28)).trans hw323_28)) (((HB.out.cell (World.block_lt_of_cell? w _ hw323_29)).trans hw323_29)) (((HB.out.cell (World.block_lt_of_cell? w _ hw323_30)).trans hw323_30)) (((HB.out.cell (World.block_lt_of_cell? w _ hw323_31)).trans hw323_31)) (((HB.out.cell (World.block_lt_of_cell? w _ hw323_32)).trans hw323_32))⟩ (fun hHeld => ?_); refine with_tabW coraclelaw3_PointParts.tab9 coraclelaw3_PointParts.bits9 (fun HT_ HW_ => ?_)
            generalize wr.drew = w19 at HO_5 HO_6 HB hx322_0 hx322_1 hx322_10 hx322_11 hx322_12 hx322_13 hx322_14 hx322_15 hx322_16 hx322_17 hx322_18 hx322_19 hx322_2 hx322_20 hx322_21 hx322_22 hx322_23 hx322_24 hx322_25 hx322_26 hx322_27 hx322_28 hx322_29 hx322_3 hx322_30 hx322_31 hx322_32 hx322_4 hx322_5 hx322_6 hx322_7 hx322_8 hx322_9 hx323_0 hx323_1 hx323_10 hx323_11 hx323_12 hx323_13 hx323_14 hx323_15 hx323_16 hx323_17 hx323_18 hx323_19 hx323_2 hx323_20 hx323_21 hx323_22 hx323_23 hx323_24 hx323_25 hx323_26 hx323_27 hx323_28 hx323_29 hx323_3 hx323_30 hx323_31 hx323_32 hx323_4 hx323_5 hx323_6 hx323_7 hx323_8 hx323_9 hx324_0 hx324_1 hx324_10 hx324_11 hx324_12 hx324_13 hx324_14 hx324_15 hx324_16 hx324_17 hx324_18 hx324_19 hx324_2 hx324_20 hx324_21 hx324_22 hx324_23 hx324_24 hx324_25 hx324_26 hx324_27 hx324_28 hx324_29 hx324_3 hx324_30 hx324_31 hx324_32 hx324_4 hx324_5 hx324_6 hx324_7 hx324_8 hx324_9 hHeld ⊢
            refine pure_ (i := 0) (N := some 32) (v := ?_) (a' := ?_) #[true, false, false, false, false, false, false, false, false, false, false, false, false, false, false, false, false, false, false, false, false, false, false, false] rfl rfl (any_of HT_.out (by kernel_rfl)) (fun _ _ _ h => h) (Or.inl ⟨by rfl, ?_⟩) ?_ ?_
            rotate_left
            ·
             intro w'
             go_simp
             with_reducible rfl
            rotate_left
            ·
             simp only [Act.put, List.setIfInBounds_toArray, List.set_cons_zero, List.set_cons_succ, i64_w, i32_w]
             rfl
            refine pure_ (i := 1) (N := some 33) (v := ?_) (a' := ?_) #[true, true, false, false, false, false, false, false, false, false, false, false, false, false, false, false, false, false, false, false, false, false, false, false] rfl rfl (any_of HT_.out (by kernel_rfl)) (fun _ _ _ h => h) (Or.inl ⟨by rfl, ?_⟩) ?_ ?_
            rotate_left
            ·
             intro w'
             go_simp
             with_reducible rfl
            rotate_left
            ·
             simp only [Act.put, List.setIfInBounds_toArray, List.set_cons_zero, List.set_cons_succ, i64_w, i32_w]
             rfl
            refine pure_ (i := 2) (N := some 34) (v := ?_) (a' := ?_) #[true, true, true, false, false, false, false, false, false, false, false, false, false, false, false, false, false, false, false, false, false, false, false, false] rfl rfl (any_of HT_.out (by kernel_rfl)) (fun _ _ _ h => h) (Or.inl ⟨by rfl, ?_⟩) ?_ ?_
            rotate_left
            ·
             intro w'
             go_simp
             with_reducible rfl
            rotate_left
            ·
             simp only [Act.put, List.setIfInBounds_toArray, List.set_cons_zero, List.set_cons_succ, i64_w, i32_w]
             rfl
            refine pure_ (i := 3) (N := some 35) (v := ?_) (a' := ?_) #[true, true, true, true, false, false, false, false, false, false, false, false, false, false, false, false, false, false, false, false, false, false, false, false] rfl rfl (any_of HT_.out (by kernel_rfl)) (fun _ _ _ h => h) (Or.inl ⟨by rfl, ?_⟩) ?_ ?_
            rotate_left
            ·
             intro w'
             go_simp
             with_reducible rfl
            rotate_left
            ·
             simp only [Act.put, List.setIfInBounds_toArray, List.set_cons_zero, List.set_cons_succ, i64_w, i32_w]
             rfl
            refine pure_ (i := 4) (N := some 36) (v := ?_) (a' := ?_) #[true, true, true, true, true, false, false, false, false, false, false, false, false, false, false, false, false, false, false, false, false, false, false, false] rfl rfl (any_of HT_.out (by kernel_rfl)) (fun _ _ _ h => h) (Or.inl ⟨by rfl, ?_⟩) ?_ ?_
            rotate_left
            ·
             intro w'
             go_simp
             with_reducible rfl
            rotate_left
            ·
             simp only [Act.put, List.setIfInBounds_toArray, List.set_cons_zero, List.set_cons_succ, i64_w, i32_w]
             rfl
            refine pure_ (i := 5) (N := some 37) (v := ?_) (a' := ?_) #[true, true, true, true, true, true, false, false, false, false, false, false, false, false, false, false, false, false, false, false, false, false, false, false] rfl rfl (any_of HT_.out (by kernel_rfl)) (fun _ _ _ h => h) (Or.inl ⟨by rfl, ?_⟩) ?_ ?_
            rotate_left
            ·
             intro w'
             go_simp
             with_reducible rfl
            rotate_left
            ·
             simp only [Act.put, List.setIfInBounds_toArray, List.set_cons_zero, List.set_cons_succ, i64_w, i32_w]
             rfl
            refine pure_ (i := 6) (N := some 38) (v := ?_) (a' := ?_) #[true, true, true, true, true, true, true, false, false, false, false, false, false, false, false, false, false, false, false, false, false, false, false, false] rfl rfl (any_of HT_.out (by kernel_rfl)) (fun _ _ _ h => h) (Or.inl ⟨by rfl, ?_⟩) ?_ ?_
            rotate_left
            ·
             intro w'
             go_simp
             with_reducible rfl
            rotate_left
            ·
             simp only [Act.put, List.setIfInBounds_toArray, List.set_cons_zero, List.set_cons_succ, i64_w, i32_w]
             rfl
            refine pure_ (i := 7) (N := some 39) (v := ?_) (a' := ?_) #[true, true, true, true, true, true, true, true, false, false, false, false, false, false, false, false, false, false, false, false, false, false, false, false] rfl rfl (any_of HT_.out (by kernel_rfl)) (fun _ _ _ h => h) (Or.inl ⟨by rfl, ?_⟩) ?_ ?_
            rotate_left
            ·
             intro w'
             go_simp
             with_reducible rfl
            rotate_left
            ·
             simp only [Act.put, List.setIfInBounds_toArray, List.set_cons_zero, List.set_cons_succ, i64_w, i32_w]
             rfl
            refine pure_ (i := 9) (N := some 41) (v := ?_) (a' := ?_) #[true, true, true, true, true, true, true, true, false, true, false, false, false, false, false, false, false, false, false, false, false, false, false, false] rfl rfl (any_of HT_.out (by kernel_rfl)) (fun _ _ _ h => h) (Or.inl ⟨by rfl, ?_⟩) ?_ ?_
            rotate_left
            ·
             intro w'
             go_simp
             with_reducible rfl
            rotate_left
            ·
             simp only [Act.put, List.setIfInBounds_toArray, List.set_cons_zero, List.set_cons_succ, i64_w, i32_w]
             rfl
            refine pure_ (i := 10) (N := some 42) (v := ?_) (a' := ?_) #[true, true, true, true, true, true, true, true, false, true, true, false, false, false, false, false, false, false, false, false, false, false, false, false] rfl rfl (any_of HT_.out (by kernel_rfl)) (fun _ _ _ h => h) (Or.inl ⟨by rfl, ?_⟩) ?_ ?_
            rotate_left
            ·
             intro w'
             go_simp
             with_reducible rfl
            rotate_left
            ·
             simp only [Act.put, List.setIfInBounds_toArray, List.set_cons_zero, List.set_cons_succ, i64_w, i32_w]
             rfl
            refine pure_ (i := 11) (N := some 43) (v := ?_) (a' := ?_) #[true, true, true, true, true, true, true, true, false, true, true, true, false, false, false, false, false, false, false, false, false, false, false, false] rfl rfl (any_of HT_.out (by kernel_rfl)) (fun _ _ _ h => h) (Or.inl ⟨by rfl, ?_⟩) ?_ ?_
            rotate_left
            ·
             intro w'
             go_simp
             with_reducible rfl
            rotate_left
            ·
             simp only [Act.put, List.setIfInBounds_toArray, List.set_cons_zero, List.set_cons_succ, i64_w, i32_w]
             rfl
            refine take_ (i := 8) (N := some 40) (v := ?_) (a' := ?_) #[true, true, true, true, true, true, true, true, true, true, true, true, false, false, false, false, false, false, false, false, false, false, false, false] rfl rfl (take_ofW HT_.out HW_.out (by kernel_rfl)) (fun _ _ _ h => h) (Or.inl ⟨by rfl, ?_⟩) hHeld ?_ ?_
            rotate_left
            ·
             rintro w' ⟨s0, s1⟩
             go_simp
             with_reducible rfl
            rotate_left
            ·
             simp only [Act.put, List.setIfInBounds_toArray, List.set_cons_zero, List.set_cons_succ, i64_w, i32_w]
             rfl
            refine take_ (i := 12) (N := some 44) (v := ?_) (a' := ?_) #[true, true, true, true, true, true, true, true, true, true, true, true, true, false, false, false, false, false, false, false, false, false, false, false] rfl rfl (take_ofW HT_.out HW_.out (by kernel_rfl)) (fun _ _ _ h => h) (Or.inl ⟨by rfl, ?_⟩) hHeld ?_ ?_
            rotate_left
            ·
             rintro w' ⟨s0, s1⟩
             go_simp
             with_reducible rfl
            rotate_left
            ·
             simp only [Act.put, List.setIfInBounds_toArray, List.set_cons_zero, List.set_cons_succ, i64_w, i32_w]
             rfl
            refine pure_ (i := 13) (N := some 45) (v := ?_) (a' := ?_) #[true, true, true, true, true, true, true, true, true, true, true, true, true, true, false, false, false, false, false, false, false, false, false, false] rfl rfl (any_of HT_.out (by kernel_rfl)) (fun _ _ _ h => h) (Or.inl ⟨by rfl, ?_⟩) ?_ ?_
            rotate_left
            ·
             intro w'
             go_simp
             with_reducible rfl
            rotate_left
            ·
             simp only [Act.put, List.setIfInBounds_toArray, List.set_cons_zero, List.set_cons_succ, i64_w, i32_w]
             rfl
            refine pure_ (i := 14) (N := some 46) (v := ?_) (a' := ?_) #[true, true, true, true, true, true, true, true, true, true, true, true, true, true, true, false, false, false, false, false, false, false, false, false] rfl rfl (any_of HT_.out (by kernel_rfl)) (fun _ _ _ h => h) (Or.inl ⟨by rfl, ?_⟩) ?_ ?_
            rotate_left
            ·
             intro w'
             go_simp
             with_reducible rfl
            rotate_left
            ·
             simp only [Act.put, List.setIfInBounds_toArray, List.set_cons_zero, List.set_cons_succ, i64_w, i32_w]
             rfl
            refine pure_ (i := 15) (N := some 47) (v := ?_) (a' := ?_) #[true, true, true, true, true, true, true, true, true, true, true, true, true, true, true, true, false, false, false, false, false, false, false, false] rfl rfl (any_of HT_.out (by kernel_rfl)) (fun _ _ _ h => h) (Or.inl ⟨by rfl, ?_⟩) ?_ ?_
            rotate_left
            ·
             intro w'
             go_simp
             with_reducible rfl
            rotate_left
            ·
             simp only [Act.put, List.setIfInBounds_toArray, List.set_cons_zero, List.set_cons_succ, i64_w, i32_w]
             rfl
            refine pure_ (i := 16) (N := some 48) (v := ?_) (a' := ?_) #[true, true, true, true, true, true, true, true, true, true, true, true, true, true, true, true, true, false, false, false, false, false, false, false] rfl rfl (any_of HT_.out (by kernel_rfl)) (fun _ _ _ h => h) (Or.inl ⟨by rfl, ?_⟩) ?_ ?_
            rotate_left
            ·
             intro w'
             go_simp
             with_reducible rfl
            rotate_left
            ·
             simp only [Act.put, List.setIfInBounds_toArray, List.set_cons_zero, List.set_cons_succ, i64_w, i32_w]
             rfl
            refine pure_ (i := 17) (N := some 49) (v := ?_) (a' := ?_) #[true, true, true, true, true, true, true, true, true, true, true, true, true, true, true, true, true, true, false, false, false, false, false, false] rfl rfl (any_of HT_.out (by kernel_rfl)) (fun _ _ _ h => h) (Or.inl ⟨by rfl, ?_⟩) ?_ ?_
            rotate_left
            ·
             intro w'
             go_simp
             with_reducible rfl
            rotate_left
            ·
             simp only [Act.put, List.setIfInBounds_toArray, List.set_cons_zero, List.set_cons_succ, i64_w, i32_w]
             rfl
            refine pure_ (i := 18) (N := some 50) (v := ?_) (a' := ?_) #[true, true, true, true, true, true, true, true, true, true, true, true, true, true, true, true, true, true, true, false, false, false, false, false] rfl rfl (any_of HT_.out (by kernel_rfl)) (fun _ _ _ h => h) (Or.inl ⟨by rfl, ?_⟩) ?_ ?_
            rotate_left
            ·
             intro w'
             go_simp
             with_reducible rfl
            rotate_left
            ·
             simp only [Act.put, List.setIfInBounds_toArray, List.set_cons_zero, List.set_cons_succ, i64_w, i32_w]
             rfl
            refine pure_ (i := 19) (N := some 51) (v := ?_) (a' := ?_) #[true, true, true, true, true, true, true, true, true, true, true, true, true, true, true, true, true, true, true, true, false, false, false, false] rfl rfl (any_of HT_.out (by kernel_rfl)) (fun _ _ _ h => h) (Or.inl ⟨by rfl, ?_⟩) ?_ ?_
            rotate_left
            ·
             intro w'
             go_simp
             with_reducible rfl
            rotate_left
            ·
             simp only [Act.put, List.setIfInBounds_toArray, List.set_cons_zero, List.set_cons_succ, i64_w, i32_w]
             rfl
            refine take_ (i := 20) (N := some 52) (v := ?_) (a' := ?_) #[true, true, true, true, true, true, true, true, true, true, true, true, true, true, true, true, true, true, true, true, true, false, false, false] rfl rfl (take_ofW HT_.out HW_.out (by kernel_rfl)) (fun _ _ _ h => h) (Or.inl ⟨by rfl, ?_⟩) hHeld ?_ ?_
            rotate_left
            ·
             rintro w' ⟨s0, s1⟩
             go_simp
             with_reducible rfl
            rotate_left
            ·
             simp only [Act.put, List.setIfInBounds_toArray, List.set_cons_zero, List.set_cons_succ, i64_w, i32_w]
             rfl
            refine one_ (i := 21) (N := some 53) #[true, true, true, true, true, true, true, true, true, true, true, true, true, true, true, true, true, true, true, true, true, true, false, false] rfl rfl (one_of HT_.out (by kernel_rfl)) (by decide) (fun K hK => ?_)
            refine goes_ Tryd.func20 (by kernel_rfl) rfl #[.slice A1 l1.length c1, .agg #[.int .u8 ((rd_T25 l0 x9_2).f0.f0), .int .u8 ((rd_T25 l0 x9_2).f0.f1), .int .u8 ((rd_T25 l0 x9_2).f0.f2), .int .u8 ((rd_T25 l0 x9_2).f0.f3), .int .u8 ((rd_T25 l0 x9_2).f0.f4), .int .u8 ((rd_T25 l0 x9_2).f0.f5), .int .u8 ((rd_T25 l0 x9_2).f0.f6), .int .u8 ((rd_T25 l0 x9_2).f0.f7), .int .u8 ((rd_T25 l0 x9_2).f0.f8), .int .u8 ((rd_T25 l0 x9_2).f0.f9), .int .u8 ((rd_T25 l0 x9_2).f0.f10), .int .u8 ((rd_T25 l0 x9_2).f0.f11), .int .u8 ((rd_T25 l0 x9_2).f0.f12), .int .u8 ((rd_T25 l0 x9_2).f0.f13), .int .u8 ((rd_T25 l0 x9_2).f0.f14), .int .u8 ((rd_T25 l0 x9_2).f0.f15), .int .u8 ((rd_T25 l0 x9_2).f0.f16), .int .u8 ((rd_T25 l0 x9_2).f0.f17), .int .u8 ((rd_T25 l0 x9_2).f0.f18), .int .u8 ((rd_T25 l0 x9_2).f0.f19), .int .u8 ((rd_T25 l0 x9_2).f0.f20), .int .u8 ((rd_T25 l0 x9_2).f0.f21), .int .u8 ((rd_T25 l0 x9_2).f0.f22), .int .u8 ((rd_T25 l0 x9_2).f0.f23), .int .u8 ((rd_T25 l0 x9_2).f0.f24), .int .u8 ((rd_T25 l0 x9_2).f0.f25), .int .u8 ((rd_T25 l0 x9_2).f0.f26), .int .u8 ((rd_T25 l0 x9_2).f0.f27), .int .u8 ((rd_T25 l0 x9_2).f0.f28), .int .u8 ((rd_T25 l0 x9_2).f0.f29), .int .u8 ((rd_T25 l0 x9_2).f0.f30), .int .u8 ((rd_T25 l0 x9_2).f0.f31), .int .i64 ((rd_T25 l0 x9_2).f1)]] (by rfl) rfl rfl (by (try simp only [List.map_toArray, List.map_cons, List.map_nil]); first | done | rfl | (simp only [List.length_drop, List.length_take]; rfl)) ?_
            with_reducible refine (point_Has.calls k2 _ _ l1 ((rd_T25 l0 x9_2).f0.f0) ((rd_T25 l0 x9_2).f0.f1) ((rd_T25 l0 x9_2).f0.f2) ((rd_T25 l0 x9_2).f0.f3) ((rd_T25 l0 x9_2).f0.f4) ((rd_T25 l0 x9_2).f0.f5) ((rd_T25 l0 x9_2).f0.f6) ((rd_T25 l0 x9_2).f0.f7) ((rd_T25 l0 x9_2).f0.f8) ((rd_T25 l0 x9_2).f0.f9) ((rd_T25 l0 x9_2).f0.f10) ((rd_T25 l0 x9_2).f0.f11) ((rd_T25 l0 x9_2).f0.f12) ((rd_T25 l0 x9_2).f0.f13) ((rd_T25 l0 x9_2).f0.f14) ((rd_T25 l0 x9_2).f0.f15) ((rd_T25 l0 x9_2).f0.f16) ((rd_T25 l0 x9_2).f0.f17) ((rd_T25 l0 x9_2).f0.f18) ((rd_T25 l0 x9_2).f0.f19) ((rd_T25 l0 x9_2).f0.f20) ((rd_T25 l0 x9_2).f0.f21) ((rd_T25 l0 x9_2).f0.f22) ((rd_T25 l0 x9_2).f0.f23) ((rd_T25 l0 x9_2).f0.f24) ((rd_T25 l0 x9_2).f0.f25) ((rd_T25 l0 x9_2).f0.f26) ((rd_T25 l0 x9_2).f0.f27) ((rd_T25 l0 x9_2).f0.f28) ((rd_T25 l0 x9_2).f0.f29) ((rd_T25 l0 x9_2).f0.f30) ((rd_T25 l0 x9_2).f0.f31) ((rd_T25 l0 x9_2).f1) t325 _ ?side1 ?side2 A18.out).mono ?_
            (case side1 => repeat (first | exact (Kd.C_below HR1.out HB.out) | (with_reducible refine Kd.C_alloc ?_ _) | (with_reducible refine Kd.C_drewN ?_ _) | (with_reducible refine Kd.C_drew ?_)))
            (case side2 => exact HC1.out)
            rintro e w21 ⟨rfl, hb⟩
            have HS0_ := Go.Proofs.YtmoecidfmgeafaaDoor.Wide.cells_below hb 33 0 _ (hHeld.1)
            refine ⟨_, rfl, ?_⟩
            have n0_ := Aside0.mk (Kd.R_below (by (with_reducible repeat (first | apply Kd.R_alloc | apply Kd.R_drewN | apply Kd.R_drew)); exact HO_5.out) hb)
            have n1_ := Aside0.mk (Kd.R_below (by (with_reducible repeat (first | apply Kd.R_alloc | apply Kd.R_drewN | apply Kd.R_drew)); exact HO_6.out) hb)
            have n2_ := Aside0.mk (below_step (by repeat (first | (with_reducible first | exact HB.out | apply below_alloc | apply pw_below_drewN | apply below_drew1) | exact HB.out)) hb)
            clear HO_5
            clear HO_6
            clear HB
            have HO_5 := n0_
            have HO_6 := n1_
            have HB := n2_
            clear n0_ n1_ n2_
            (try clear hb)
            (try clear hb2)
            (try clear hk)
            (try clear hi)
            refine hK.out _ _ ⟨HS0_, Go.Proofs.YtmoecidfmgeafaaDoor.Wide.mk33 (((HB.out.cell (World.block_lt_of_cell? w _ hw323_0)).trans hw323_0)) (((HB.out.cell (World.block_lt_of_cell? w _ hw323_1)).trans hw323_1)) (((HB.out.cell (World.block_lt_of_cell? w _ hw323_2)).trans hw323_2)) (((HB.out.cell (World.block_lt_of_cell? w _ hw323_3)).trans hw323_3)) (((HB.out.cell (World.block_lt_of_cell? w _ hw323_4)).trans hw323_4)) (((HB.out.cell (World.block_lt_of_cell? w _ hw323_5)).trans hw323_5)) (((HB.out.cell (World.block_lt_of_cell? w _ hw323_6)).trans hw323_6)) (((HB.out.cell (World.block_lt_of_cell? w _ hw323_7)).trans hw323_7)) (((HB.out.cell (World.block_lt_of_cell? w _ hw323_8)).trans hw323_8)) (((HB.out.cell (World.block_lt_of_cell? w _ hw323_9)).trans hw323_9)) (((HB.out.cell (World.block_lt_of_cell? w _ hw323_10)).trans hw323_10)) (((HB.out.cell (World.block_lt_of_cell? w _ hw323_11)).trans hw323_11)) (((HB.out.cell (World.block_lt_of_cell? w _ hw323_12)).trans hw323_12)) (((HB.out.cell (World.block_lt_of_cell? w _ hw323_13)).trans hw323_13)) (((HB.out.cell (World.block_lt_of_cell? w _ hw323_14)).trans hw323_14)) (((HB.out.cell (World.block_lt_of_cell? w _ hw323_15)).trans hw323_15)) (((HB.out.cell (World.block_lt_of_cell? w _ hw323_16)).trans hw323_16)) (((HB.out.cell (World.block_lt_of_cell? w _ hw323_17)).trans hw323_17)) (((HB.out.cell (World.block_lt_of_cell? w _ hw323_18)).trans hw323_18)) (((HB.out.cell (World.block_lt_of_cell? w _ hw323_19)).trans hw323_19)) (((HB.out.cell (World.block_lt_of_cell? w _ hw323_20)).trans hw323_20)) (((HB.out.cell (World.block_lt_of_cell? w _ hw323_21)).trans hw323_21)) (((HB.out.cell (World.block_lt_of_cell? w _ hw323_22)).trans hw323_22)) (((HB.out.cell (World.block_lt_of_cell? w _ hw323_23)).trans hw323_23)) (((HB.out.cell (World.block_lt_of_cell? w _ hw323_24)).trans hw323_24)) (((HB.out.cell (World.block_lt_of_cell? w _ hw323_25)).trans hw323_25)) (((HB.out.cell (World.block_lt_of_cell? w _ hw323_26)).trans hw323_26)) (((HB.out.cell (World.block_lt_of_cell? w _ hw323_27)).trans hw323_27)) (((HB.out.cell (World.block_lt_of_cell? w _ hw323_28)).trans hw323_28)) (((HB.out.cell (World.block_lt_of_cell? w _ hw323_29)).trans hw323_29)) (((HB.out.cell (World.block_lt_of_cell? w _ hw323_30)).trans hw323_30)) (((HB.out.cell (World.block_lt_of_cell? w _ hw323_31)).trans hw323_31)) (((HB.out.cell (World.block_lt_of_cell? w _ hw323_32)).trans hw323_32))⟩ (fun hHeld => ?_)
            clear hK K
            refine norm_ (a' := ?_) ?_ ?_
            rotate_left
            ·
             show Act.put _ (some 53) _ = _
             simp only [Act.put, List.setIfInBounds_toArray, List.set_cons_zero, List.set_cons_succ, i64_w, i32_w]
             rfl
            refine pure_ (i := 22) (N := some 54) (v := ?_) (a' := ?_) #[true, true, true, true, true, true, true, true, true, true, true, true, true, true, true, true, true, true, true, true, true, true, true, false] rfl rfl (any_of HT_.out (by kernel_rfl)) (fun _ _ _ h => h) (Or.inl ⟨by rfl, ?_⟩) ?_ ?_
            rotate_left
            ·
             intro w'
             go_simp
             with_reducible rfl
            rotate_left
            ·
             simp only [Act.put, List.setIfInBounds_toArray, List.set_cons_zero, List.set_cons_succ, i64_w, i32_w]
             rfl
            refine pure_ (i := 23) (N := some 31) (v := ?_) (a' := ?_) #[true, true, true, true, true, true, true, true, true, true, true, true, true, true, true, true, true, true, true, true, true, true, true, true] rfl rfl (any_of HT_.out (by kernel_rfl)) (fun _ _ _ h => h) (Or.inl ⟨by rfl, ?_⟩) ?_ ?_
            rotate_left
            ·
             intro w'
             go_simp
             with_reducible rfl
            rotate_left
            ·
             simp only [Act.put, List.setIfInBounds_toArray, List.set_cons_zero, List.set_cons_succ, i64_w, i32_w]
             rfl
            refine done_ (done_of HT_.out (by kernel_rfl)) ?_
            try go_wp2
            go_meet
            case rel => exact ⟨_, (t325), (by first | rfl | (simp; done) | (simp [*]; done)), H', ⟨by have := HJ2.out; have := HK2.out; first | omega | exact Nat.le_refl _⟩, ⟨by (with_reducible repeat (first | apply Kd.R_alloc | apply Kd.R_drewN | apply Kd.R_drew)); exact HO_5.out⟩, ⟨by (with_reducible repeat (first | apply Kd.R_alloc | apply Kd.R_drewN | apply Kd.R_drew)); exact HO_6.out⟩, ⟨by repeat (first | (with_reducible first | exact HB.out | apply below_alloc | apply pw_below_drewN | apply below_drew1) | exact HB.out)⟩⟩
           ·
            rw [if_neg c17] at H
            have c17b0 : ((((rd_T25 t302 x7_2).f0.f0) == ((rd_T25 l0 x9_2).f0.f0) && (((rd_T25 t302 x7_2).f0.f1) == ((rd_T25 l0 x9_2).f0.f1) && (((rd_T25 t302 x7_2).f0.f2) == ((rd_T25 l0 x9_2).f0.f2) && (((rd_T25 t302 x7_2).f0.f3) == ((rd_T25 l0 x9_2).f0.f3) && (((rd_T25 t302 x7_2).f0.f4) == ((rd_T25 l0 x9_2).f0.f4) && (((rd_T25 t302 x7_2).f0.f5) == ((rd_T25 l0 x9_2).f0.f5) && (((rd_T25 t302 x7_2).f0.f6) == ((rd_T25 l0 x9_2).f0.f6) && (((rd_T25 t302 x7_2).f0.f7) == ((rd_T25 l0 x9_2).f0.f7) && (((rd_T25 t302 x7_2).f0.f8) == ((rd_T25 l0 x9_2).f0.f8) && (((rd_T25 t302 x7_2).f0.f9) == ((rd_T25 l0 x9_2).f0.f9) && (((rd_T25 t302 x7_2).f0.f10) == ((rd_T25 l0 x9_2).f0.f10) && (((rd_T25 t302 x7_2).f0.f11) == ((rd_T25 l0 x9_2).f0.f11) && (((rd_T25 t302 x7_2).f0.f12) == ((rd_T25 l0 x9_2).f0.f12) && (((rd_T25 t302 x7_2).f0.f13) == ((rd_T25 l0 x9_2).f0.f13) && (((rd_T25 t302 x7_2).f0.f14) == ((rd_T25 l0 x9_2).f0.f14) && (((rd_T25 t302 x7_2).f0.f15) == ((rd_T25 l0 x9_2).f0.f15) && (((rd_T25 t302 x7_2).f0.f16) == ((rd_T25 l0 x9_2).f0.f16) && (((rd_T25 t302 x7_2).f0.f17) == ((rd_T25 l0 x9_2).f0.f17) && (((rd_T25 t302 x7_2).f0.f18) == ((rd_T25 l0 x9_2).f0.f18) && (((rd_T25 t302 x7_2).f0.f19) == ((rd_T25 l0 x9_2).f0.f19) && (((rd_T25 t302 x7_2).f0.f20) == ((rd_T25 l0 x9_2).f0.f20) && (((rd_T25 t302 x7_2).f0.f21) == ((rd_T25 l0 x9_2).f0.f21) && (((rd_T25 t302 x7_2).f0.f22) == ((rd_T25 l0 x9_2).f0.f22) && (((rd_T25 t302 x7_2).f0.f23) == ((rd_T25 l0 x9_2).f0.f23) && (((rd_T25 t302 x7_2).f0.f24) == ((rd_T25 l0 x9_2).f0.f24) && (((rd_T25 t302 x7_2).f0.f25) == ((rd_T25 l0 x9_2).f0.f25) && (((rd_T25 t302 x7_2).f0.f26) == ((rd_T25 l0 x9_2).f0.f26) && (((rd_T25 t302 x7_2).f0.f27) == ((rd_T25 l0 x9_2).f0.f27) && (((rd_T25 t302 x7_2).f0.f28) == ((rd_T25 l0 x9_2).f0.f28) && (((rd_T25 t302 x7_2).f0.f29) == ((rd_T25 l0 x9_2).f0.f29) && (((rd_T25 t302 x7_2).f0.f30) == ((rd_T25 l0 x9_2).f0.f30) && (((rd_T25 t302 x7_2).f0.f31) == ((rd_T25 l0 x9_2).f0.f31))))))))))))))))))))))))))))))))) && (((rd_T25 t302 x7_2).f1) == ((rd_T25 l0 x9_2).f1))) = false := by simpa using c17
            clear c17
            have H' := Aside0.mk H
            clear H
            try go_wp2
            have n0_ := Aside0.mk (Kd.R_drew HO_5.out)
            have n1_ := Aside0.mk (Kd.R_drew HO_6.out)
            have n2_ := Aside0.mk (below_drew1 HB.out)
            clear HO_5
            clear HO_6
            clear HB
            have HO_5 := n0_
            have HO_6 := n1_
            have HB := n2_
            clear n0_ n1_ n2_
            obtain ⟨Ao23, co23, eo23⟩ := Kd.R_slice HO_5.out
            (first | subst eo23 | (injection eo23 with f1_ f2_ f3_; have f4_ := f1_.symm; have f5_ := f3_.symm; clear f1_ f2_ f3_; subst f4_; subst f5_))
            have p322 : 0 ≤ (x7_2 : Int) := of_decide_eq_true (by first | (with_reducible assumption) | assumption)
            have q322 : x7_2 < (t302.length : Int) := of_decide_eq_true (by first | (with_reducible assumption) | assumption)
            obtain ⟨ad322, e322, hx322_0, hx322_1, hx322_2, hx322_3, hx322_4, hx322_5, hx322_6, hx322_7, hx322_8, hx322_9, hx322_10, hx322_11, hx322_12, hx322_13, hx322_14, hx322_15, hx322_16, hx322_17, hx322_18, hx322_19, hx322_20, hx322_21, hx322_22, hx322_23, hx322_24, hx322_25, hx322_26, hx322_27, hx322_28, hx322_29, hx322_30, hx322_31, hx322_32⟩ := at_T25 (Kd.R_reads' HO_5.out).2.2 x7_2 p322 q322
            cases e322
            replace p322 := eq_true p322
            replace q322 := eq_true q322
            have hw322_0_32 := Go.Proofs.YtmoecidfmgeafaaDoor.Wide.mk32 hx322_0 hx322_1 hx322_2 hx322_3 hx322_4 hx322_5 hx322_6 hx322_7 hx322_8 hx322_9 hx322_10 hx322_11 hx322_12 hx322_13 hx322_14 hx322_15 hx322_16 hx322_17 hx322_18 hx322_19 hx322_20 hx322_21 hx322_22 hx322_23 hx322_24 hx322_25 hx322_26 hx322_27 hx322_28 hx322_29 hx322_30 hx322_31
            have hw322_0_33 := Go.Proofs.YtmoecidfmgeafaaDoor.Wide.mk33 hx322_0 hx322_1 hx322_2 hx322_3 hx322_4 hx322_5 hx322_6 hx322_7 hx322_8 hx322_9 hx322_10 hx322_11 hx322_12 hx322_13 hx322_14 hx322_15 hx322_16 hx322_17 hx322_18 hx322_19 hx322_20 hx322_21 hx322_22 hx322_23 hx322_24 hx322_25 hx322_26 hx322_27 hx322_28 hx322_29 hx322_30 hx322_31 hx322_32
            have p323 : 0 ≤ (x9_2 : Int) := of_decide_eq_true (by first | (with_reducible assumption) | assumption)
            have q323 : x9_2 < (l0.length : Int) := of_decide_eq_true (by first | (with_reducible assumption) | assumption)
            obtain ⟨ad323, e323, hx323_0, hx323_1, hx323_2, hx323_3, hx323_4, hx323_5, hx323_6, hx323_7, hx323_8, hx323_9, hx323_10, hx323_11, hx323_12, hx323_13, hx323_14, hx323_15, hx323_16, hx323_17, hx323_18, hx323_19, hx323_20, hx323_21, hx323_22, hx323_23, hx323_24, hx323_25, hx323_26, hx323_27, hx323_28, hx323_29, hx323_30, hx323_31, hx323_32⟩ := at_T25 HR0.out x9_2 p323 q323
            have hw323_0_32 := Go.Proofs.YtmoecidfmgeafaaDoor.Wide.mk32 hx323_0 hx323_1 hx323_2 hx323_3 hx323_4 hx323_5 hx323_6 hx323_7 hx323_8 hx323_9 hx323_10 hx323_11 hx323_12 hx323_13 hx323_14 hx323_15 hx323_16 hx323_17 hx323_18 hx323_19 hx323_20 hx323_21 hx323_22 hx323_23 hx323_24 hx323_25 hx323_26 hx323_27 hx323_28 hx323_29 hx323_30 hx323_31
            have hw323_0_33 := Go.Proofs.YtmoecidfmgeafaaDoor.Wide.mk33 hx323_0 hx323_1 hx323_2 hx323_3 hx323_4 hx323_5 hx323_6 hx323_7 hx323_8 hx323_9 hx323_10 hx323_11 hx323_12 hx323_13 hx323_14 hx323_15 hx323_16 hx323_17 hx323_18 hx323_19 hx323_20 hx323_21 hx323_22 hx323_23 hx323_24 hx323_25 hx323_26 hx323_27 hx323_28 hx323_29 hx323_30 hx323_31 hx323_32
            have hw323_32 := hx323_32
            have hw323_31 := hx323_31
            have hw323_30 := hx323_30
            have hw323_29 := hx323_29
            have hw323_28 := hx323_28
            have hw323_27 := hx323_27
            have hw323_26 := hx323_26
            have hw323_25 := hx323_25
            have hw323_24 := hx323_24
            have hw323_23 := hx323_23
            have hw323_22 := hx323_22
            have hw323_21 := hx323_21
            have hw323_20 := hx323_20
            have hw323_19 := hx323_19
            have hw323_18 := hx323_18
            have hw323_17 := hx323_17
            have hw323_16 := hx323_16
            have hw323_15 := hx323_15
            have hw323_14 := hx323_14
            have hw323_13 := hx323_13
            have hw323_12 := hx323_12
            have hw323_11 := hx323_11
            have hw323_10 := hx323_10
            have hw323_9 := hx323_9
            have hw323_8 := hx323_8
            have hw323_7 := hx323_7
            have hw323_6 := hx323_6
            have hw323_5 := hx323_5
            have hw323_4 := hx323_4
            have hw323_3 := hx323_3
            have hw323_2 := hx323_2
            have hw323_1 := hx323_1
            have hw323_0 := hx323_0
            cases e323
            replace hx323_0 := (HB.out.cell (World.block_lt_of_cell? w _ hx323_0)).trans hx323_0
            replace hx323_1 := (HB.out.cell (World.block_lt_of_cell? w _ hx323_1)).trans hx323_1
            replace hx323_2 := (HB.out.cell (World.block_lt_of_cell? w _ hx323_2)).trans hx323_2
            replace hx323_3 := (HB.out.cell (World.block_lt_of_cell? w _ hx323_3)).trans hx323_3
            replace hx323_4 := (HB.out.cell (World.block_lt_of_cell? w _ hx323_4)).trans hx323_4
            replace hx323_5 := (HB.out.cell (World.block_lt_of_cell? w _ hx323_5)).trans hx323_5
            replace hx323_6 := (HB.out.cell (World.block_lt_of_cell? w _ hx323_6)).trans hx323_6
            replace hx323_7 := (HB.out.cell (World.block_lt_of_cell? w _ hx323_7)).trans hx323_7
            replace hx323_8 := (HB.out.cell (World.block_lt_of_cell? w _ hx323_8)).trans hx323_8
            replace hx323_9 := (HB.out.cell (World.block_lt_of_cell? w _ hx323_9)).trans hx323_9
            replace hx323_10 := (HB.out.cell (World.block_lt_of_cell? w _ hx323_10)).trans hx323_10
            replace hx323_11 := (HB.out.cell (World.block_lt_of_cell? w _ hx323_11)).trans hx323_11
            replace hx323_12 := (HB.out.cell (World.block_lt_of_cell? w _ hx323_12)).trans hx323_12
            replace hx323_13 := (HB.out.cell (World.block_lt_of_cell? w _ hx323_13)).trans hx323_13
            replace hx323_14 := (HB.out.cell (World.block_lt_of_cell? w _ hx323_14)).trans hx323_14
            replace hx323_15 := (HB.out.cell (World.block_lt_of_cell? w _ hx323_15)).trans hx323_15
            replace hx323_16 := (HB.out.cell (World.block_lt_of_cell? w _ hx323_16)).trans hx323_16
            replace hx323_17 := (HB.out.cell (World.block_lt_of_cell? w _ hx323_17)).trans hx323_17
            replace hx323_18 := (HB.out.cell (World.block_lt_of_cell? w _ hx323_18)).trans hx323_18
            replace hx323_19 := (HB.out.cell (World.block_lt_of_cell? w _ hx323_19)).trans hx323_19
            replace hx323_20 := (HB.out.cell (World.block_lt_of_cell? w _ hx323_20)).trans hx323_20
            replace hx323_21 := (HB.out.cell (World.block_lt_of_cell? w _ hx323_21)).trans hx323_21
            replace hx323_22 := (HB.out.cell (World.block_lt_of_cell? w _ hx323_22)).trans hx323_22
            replace hx323_23 := (HB.out.cell (World.block_lt_of_cell? w _ hx323_23)).trans hx323_23
            replace hx323_24 := (HB.out.cell (World.block_lt_of_cell? w _ hx323_24)).trans hx323_24
            replace hx323_25 := (HB.out.cell (World.block_lt_of_cell? w _ hx323_25)).trans hx323_25
            replace hx323_26 := (HB.out.cell (World.block_lt_of_cell? w _ hx323_26)).trans hx323_26
            replace hx323_27 := (HB.out.cell (World.block_lt_of_cell? w _ hx323_27)).trans hx323_27
            replace hx323_28 := (HB.out.cell (World.block_lt_of_cell? w _ hx323_28)).trans hx323_28
            replace hx323_29 := (HB.out.cell (World.block_lt_of_cell? w _ hx323_29)).trans hx323_29
            replace hx323_30 := (HB.out.cell (World.block_lt_of_cell? w _ hx323_30)).trans hx323_30
            replace hx323_31 := (HB.out.cell (World.block_lt_of_cell? w _ hx323_31)).trans hx323_31
            replace hx323_32 := (HB.out.cell (World.block_lt_of_cell? w _ hx323_32)).trans hx323_32
            replace p323 := eq_true p323
            replace q323 := eq_true q323
            refine start_ (n := 24) (S := fun w' => Go.Proofs.YtmoecidfmgeafaaDoor.Wide.cellsAt w' (ad322.add ((x7_2).toNat * 33)) 33 = some (.int .u8 ((rd_T25 t302 x7_2).f0.f0) :: .int .u8 ((rd_T25 t302 x7_2).f0.f1) :: .int .u8 ((rd_T25 t302 x7_2).f0.f2) :: .int .u8 ((rd_T25 t302 x7_2).f0.f3) :: .int .u8 ((rd_T25 t302 x7_2).f0.f4) :: .int .u8 ((rd_T25 t302 x7_2).f0.f5) :: .int .u8 ((rd_T25 t302 x7_2).f0.f6) :: .int .u8 ((rd_T25 t302 x7_2).f0.f7) :: .int .u8 ((rd_T25 t302 x7_2).f0.f8) :: .int .u8 ((rd_T25 t302 x7_2).f0.f9) :: .int .u8 ((rd_T25 t302 x7_2).f0.f10) :: .int .u8 ((rd_T25 t302 x7_2).f0.f11) :: .int .u8 ((rd_T25 t302 x7_2).f0.f12) :: .int .u8 ((rd_T25 t302 x7_2).f0.f13) :: .int .u8 ((rd_T25 t302 x7_2).f0.f14) :: .int .u8 ((rd_T25 t302 x7_2).f0.f15) :: .int .u8 ((rd_T25 t302 x7_2).f0.f16) :: .int .u8 ((rd_T25 t302 x7_2).f0.f17) :: .int .u8 ((rd_T25 t302 x7_2).f0.f18) :: .int .u8 ((rd_T25 t302 x7_2).f0.f19) :: .int .u8 ((rd_T25 t302 x7_2).f0.f20) :: .int .u8 ((rd_T25 t302 x7_2).f0.f21) :: .int .u8 ((rd_T25 t302 x7_2).f0.f22) :: .int .u8 ((rd_T25 t302 x7_2).f0.f23) :: .int .u8 ((rd_T25 t302 x7_2).f0.f24) :: .int .u8 ((rd_T25 t302 x7_2).f0.f25) :: .int .u8 ((rd_T25 t302 x7_2).f0.f26) :: .int .u8 ((rd_T25 t302 x7_2).f0.f27) :: .int .u8 ((rd_T25 t302 x7_2).f0.f28) :: .int .u8 ((rd_T25 t302 x7_2).f0.f29) :: .int .u8 ((rd_T25 t302 x7_2).f0.f30) :: .int .u8 ((rd_T25 t302 x7_2).f0.f31) :: .int .i64 ((rd_T25 t302 x7_2).f1) :: []) ∧ Go.Proofs.YtmoecidfmgeafaaDoor.Wide.cellsAt w' (ad323.add ((x9_2).toNat * 33)) 33 = some (.int .u8 ((rd_T25 l0 x9_2).f0.f0) :: .int .u8 ((rd_T25 l0 x9_2).f0.f1) :: .int .u8 ((rd_T25 l0 x9_2).f0.f2) :: .int .u8 ((rd_T25 l0 x9_2).f0.f3) :: .int .u8 ((rd_T25 l0 x9_2).f0.f4) :: .int .u8 ((rd_T25 l0 x9_2).f0.f5) :: .int .u8 ((rd_T25 l0 x9_2).f0.f6) :: .int .u8 ((rd_T25 l0 x9_2).f0.f7) :: .int .u8 ((rd_T25 l0 x9_2).f0.f8) :: .int .u8 ((rd_T25 l0 x9_2).f0.f9) :: .int .u8 ((rd_T25 l0 x9_2).f0.f10) :: .int .u8 ((rd_T25 l0 x9_2).f0.f11) :: .int .u8 ((rd_T25 l0 x9_2).f0.f12) :: .int .u8 ((rd_T25 l0 x9_2).f0.f13) :: .int .u8 ((rd_T25 l0 x9_2).f0.f14) :: .int .u8 ((rd_T25 l0 x9_2).f0.f15) :: .int .u8 ((rd_T25 l0 x9_2).f0.f16) :: .int .u8 ((rd_T25 l0 x9_2).f0.f17) :: .int .u8 ((rd_T25 l0 x9_2).f0.f18) :: .int .u8 ((rd_T25 l0 x9_2).f0.f19) :: .int .u8 ((rd_T25 l0 x9_2).f0.f20) :: .int .u8 ((rd_T25 l0 x9_2).f0.f21) :: .int .u8 ((rd_T25 l0 x9_2).f0.f22) :: .int .u8 ((rd_T25 l0 x9_2).f0.f23) :: .int .u8 ((rd_T25 l0 x9_2).f0.f24) :: .int .u8 ((rd_T25 l0 x9_2).f0.f25) :: .int .u8 ((rd_T25 l0 x9_2).f0.f26) :: .int .u8 ((rd_T25 l0 x9_2).f0.f27) :: .int .u8 ((rd_T25 l0 x9_2).f0.f28) :: .int .u8 ((rd_T25 l0 x9_2).f0.f29) :: .int .u8 ((rd_T25 l0 x9_2).f0.f30) :: .int .u8 ((rd_T25 l0 x9_2).f0.f31) :: .int .i64 ((rd_T25 l0 x9_2).f1) :: [])) (ds := []) #[false, false, false, false, false, false, false, false, false, false, false, false, false, false, false, false, false, false, false, false, false, false, false, false] (by kernel_rfl) rfl rfl ⟨Go.Proofs.YtmoecidfmgeafaaDoor.Wide.mk33 hx322_0 hx322_1 hx322_2 hx322_3 hx322_4 hx322_5 hx322_6 hx322_7 hx322_8 hx322_9 hx322_10 hx322_11 hx322_12 hx322_13 hx322_14 hx322_15 hx322_16 hx322_17 hx322_18 hx322_19 hx322_20 hx322_21 hx322_22 hx322_23 hx322_24 hx322_25 hx322_26 hx322_27 hx322_28 hx322_29 hx322_30 hx322_31 hx322_32, Go.Proofs.YtmoecidfmgeafaaDoor.Wide.mk33 (((HB.out.cell (World.block_lt_of_cell? w _ hw323_0)).trans hw323_0)) (((HB.out.cell (World.block_lt_of_cell? w _ hw323_1)).trans hw323_1)) (((HB.out.cell (World.block_lt_of_cell? w _ hw323_2)).trans hw323_2)) (((HB.out.cell (World.block_lt_of_cell? w _ hw323_3)).trans hw323_3)) (((HB.out.cell (World.block_lt_of_cell? w _ hw323_4)).trans hw323_4)) (((HB.out.cell (World.block_lt_of_cell? w _ hw323_5)).trans hw323_5)) (((HB.out.cell (World.block_lt_of_cell? w _ hw323_6)).trans hw323_6)) (((HB.out.cell (World.block_lt_of_cell? w _ hw323_7)).trans hw323_7)) (((HB.out.cell (World.block_lt_of_cell? w _ hw323_8)).trans hw323_8)) (((HB.out.cell (World.block_lt_of_cell? w _ hw323_9)).trans hw323_9)) (((HB.out.cell (World.block_lt_of_cell? w _ hw323_10)).trans hw323_10)) (((HB.out.cell (World.block_lt_of_cell? w _ hw323_11)).trans hw323_11)) (((HB.out.cell (World.block_lt_of_cell? w _ hw323_12)).trans hw323_12)) (((HB.out.cell (World.block_lt_of_cell? w _ hw323_13)).trans hw323_13)) (((HB.out.cell (World.block_lt_of_cell? w _ hw323_14)).trans hw323_14)) (((HB.out.cell (World.block_lt_of_cell? w _ hw323_15)).trans hw323_15)) (((HB.out.cell (World.block_lt_of_cell? w _ hw323_16)).trans hw323_16)) (((HB.out.cell (World.block_lt_of_cell? w _ hw323_17)).trans hw323_17)) (((HB.out.cell (World.block_lt_of_cell? w _ hw323_18)).trans hw323_18)) (((HB.out.cell (World.block_lt_of_cell? w _ hw323_19)).trans hw323_19)) (((HB.out.cell (World.block_lt_of_cell? w _ hw323_20)).trans hw323_20)) (((HB.out.cell (World.block_lt_of_cell? w _ hw323_21)).trans hw323_21)) (((HB.out.cell (World.block_lt_of_cell? w _ hw323_22)).trans hw323_22)) (((HB.out.cell (World.block_lt_of_cell? w _ hw323_23)).trans hw323_23)) (((HB.out.cell (World.block_lt_of_cell? w _ hw323_24)).trans hw323_24)) (((HB.out.cell (World.block_lt_of_cell? w _ hw323_25)).trans hw323_25)) (((HB.out.cell (World.block_lt_of_cell? w _ hw323_26)).trans hw323_26)) (((HB.out.cell (World.block_lt_of_cell? w _ hw323_27)).trans hw323_27)) (((HB.out.cell (World.block_lt_of_cell? w _ hw323_28)).trans hw323_28)) (((HB.out.cell (World.block_lt_of_cell? w _ hw323_29)).trans hw323_29)) (((HB.out.cell (World.block_lt_of_cell? w _ hw323_30)).trans hw323_30)) (((HB.out.cell (World.block_lt_of_cell? w _ hw323_31)).trans hw323_31)) (((HB.out.cell (World.block_lt_of_cell? w _ hw323_32)).trans hw323_32))⟩ (fun hHeld => ?_); refine with_tabW coraclelaw3_PointParts.tab9 coraclelaw3_PointParts.bits9 (fun HT_ HW_ => ?_)
            generalize wr.drew = w22 at HO_5 HO_6 HB hx322_0 hx322_1 hx322_10 hx322_11 hx322_12 hx322_13 hx322_14 hx322_15 hx322_16 hx322_17 hx322_18 hx322_19 hx322_2 hx322_20 hx322_21 hx322_22 hx322_23 hx322_24 hx322_25 hx322_26 hx322_27 hx322_28 hx322_29 hx322_3 hx322_30 hx322_31 hx322_32 hx322_4 hx322_5 hx322_6 hx322_7 hx322_8 hx322_9 hx323_0 hx323_1 hx323_10 hx323_11 hx323_12 hx323_13 hx323_14 hx323_15 hx323_16 hx323_17 hx323_18 hx323_19 hx323_2 hx323_20 hx323_21 hx323_22 hx323_23 hx323_24 hx323_25 hx323_26 hx323_27 hx323_28 hx323_29 hx323_3 hx323_30 hx323_31 hx323_32 hx323_4 hx323_5 hx323_6 hx323_7 hx323_8 hx323_9 hHeld ⊢
            refine pure_ (i := 0) (N := some 32) (v := ?_) (a' := ?_) #[true, false, false, false, false, false, false, false, false, false, false, false, false, false, false, false, false, false, false, false, false, false, false, false] rfl rfl (any_of HT_.out (by kernel_rfl)) (fun _ _ _ h => h) (Or.inl ⟨by rfl, ?_⟩) ?_ ?_
            rotate_left
            ·
             intro w'
             go_simp
             with_reducible rfl
            rotate_left
            ·
             simp only [Act.put, List.setIfInBounds_toArray, List.set_cons_zero, List.set_cons_succ, i64_w, i32_w]
             rfl
            refine pure_ (i := 1) (N := some 33) (v := ?_) (a' := ?_) #[true, true, false, false, false, false, false, false, false, false, false, false, false, false, false, false, false, false, false, false, false, false, false, false] rfl rfl (any_of HT_.out (by kernel_rfl)) (fun _ _ _ h => h) (Or.inl ⟨by rfl, ?_⟩) ?_ ?_
            rotate_left
            ·
             intro w'
             go_simp
             with_reducible rfl
            rotate_left
            ·
             simp only [Act.put, List.setIfInBounds_toArray, List.set_cons_zero, List.set_cons_succ, i64_w, i32_w]
             rfl
            refine pure_ (i := 2) (N := some 34) (v := ?_) (a' := ?_) #[true, true, true, false, false, false, false, false, false, false, false, false, false, false, false, false, false, false, false, false, false, false, false, false] rfl rfl (any_of HT_.out (by kernel_rfl)) (fun _ _ _ h => h) (Or.inl ⟨by rfl, ?_⟩) ?_ ?_
            rotate_left
            ·
             intro w'
             go_simp
             with_reducible rfl
            rotate_left
            ·
             simp only [Act.put, List.setIfInBounds_toArray, List.set_cons_zero, List.set_cons_succ, i64_w, i32_w]
             rfl
            refine pure_ (i := 3) (N := some 35) (v := ?_) (a' := ?_) #[true, true, true, true, false, false, false, false, false, false, false, false, false, false, false, false, false, false, false, false, false, false, false, false] rfl rfl (any_of HT_.out (by kernel_rfl)) (fun _ _ _ h => h) (Or.inl ⟨by rfl, ?_⟩) ?_ ?_
            rotate_left
            ·
             intro w'
             go_simp
             with_reducible rfl
            rotate_left
            ·
             simp only [Act.put, List.setIfInBounds_toArray, List.set_cons_zero, List.set_cons_succ, i64_w, i32_w]
             rfl
            refine pure_ (i := 4) (N := some 36) (v := ?_) (a' := ?_) #[true, true, true, true, true, false, false, false, false, false, false, false, false, false, false, false, false, false, false, false, false, false, false, false] rfl rfl (any_of HT_.out (by kernel_rfl)) (fun _ _ _ h => h) (Or.inl ⟨by rfl, ?_⟩) ?_ ?_
            rotate_left
            ·
             intro w'
             go_simp
             with_reducible rfl
            rotate_left
            ·
             simp only [Act.put, List.setIfInBounds_toArray, List.set_cons_zero, List.set_cons_succ, i64_w, i32_w]
             rfl
            refine pure_ (i := 5) (N := some 37) (v := ?_) (a' := ?_) #[true, true, true, true, true, true, false, false, false, false, false, false, false, false, false, false, false, false, false, false, false, false, false, false] rfl rfl (any_of HT_.out (by kernel_rfl)) (fun _ _ _ h => h) (Or.inl ⟨by rfl, ?_⟩) ?_ ?_
            rotate_left
            ·
             intro w'
             go_simp
             with_reducible rfl
            rotate_left
            ·
             simp only [Act.put, List.setIfInBounds_toArray, List.set_cons_zero, List.set_cons_succ, i64_w, i32_w]
             rfl
            refine pure_ (i := 6) (N := some 38) (v := ?_) (a' := ?_) #[true, true, true, true, true, true, true, false, false, false, false, false, false, false, false, false, false, false, false, false, false, false, false, false] rfl rfl (any_of HT_.out (by kernel_rfl)) (fun _ _ _ h => h) (Or.inl ⟨by rfl, ?_⟩) ?_ ?_
            rotate_left
            ·
             intro w'
             go_simp
             with_reducible rfl
            rotate_left
            ·
             simp only [Act.put, List.setIfInBounds_toArray, List.set_cons_zero, List.set_cons_succ, i64_w, i32_w]
             rfl
            refine pure_ (i := 7) (N := some 39) (v := ?_) (a' := ?_) #[true, true, true, true, true, true, true, true, false, false, false, false, false, false, false, false, false, false, false, false, false, false, false, false] rfl rfl (any_of HT_.out (by kernel_rfl)) (fun _ _ _ h => h) (Or.inl ⟨by rfl, ?_⟩) ?_ ?_
            rotate_left
            ·
             intro w'
             go_simp
             with_reducible rfl
            rotate_left
            ·
             simp only [Act.put, List.setIfInBounds_toArray, List.set_cons_zero, List.set_cons_succ, i64_w, i32_w]
             rfl
            refine pure_ (i := 9) (N := some 41) (v := ?_) (a' := ?_) #[true, true, true, true, true, true, true, true, false, true, false, false, false, false, false, false, false, false, false, false, false, false, false, false] rfl rfl (any_of HT_.out (by kernel_rfl)) (fun _ _ _ h => h) (Or.inl ⟨by rfl, ?_⟩) ?_ ?_
            rotate_left
            ·
             intro w'
             go_simp
             with_reducible rfl
            rotate_left
            ·
             simp only [Act.put, List.setIfInBounds_toArray, List.set_cons_zero, List.set_cons_succ, i64_w, i32_w]
             rfl
            refine pure_ (i := 10) (N := some 42) (v := ?_) (a' := ?_) #[true, true, true, true, true, true, true, true, false, true, true, false, false, false, false, false, false, false, false, false, false, false, false, false] rfl rfl (any_of HT_.out (by kernel_rfl)) (fun _ _ _ h => h) (Or.inl ⟨by rfl, ?_⟩) ?_ ?_
            rotate_left
            ·
             intro w'
             go_simp
             with_reducible rfl
            rotate_left
            ·
             simp only [Act.put, List.setIfInBounds_toArray, List.set_cons_zero, List.set_cons_succ, i64_w, i32_w]
             rfl
            refine pure_ (i := 11) (N := some 43) (v := ?_) (a' := ?_) #[true, true, true, true, true, true, true, true, false, true, true, true, false, false, false, false, false, false, false, false, false, false, false, false] rfl rfl (any_of HT_.out (by kernel_rfl)) (fun _ _ _ h => h) (Or.inl ⟨by rfl, ?_⟩) ?_ ?_
            rotate_left
            ·
             intro w'
             go_simp
             with_reducible rfl
            rotate_left
            ·
             simp only [Act.put, List.setIfInBounds_toArray, List.set_cons_zero, List.set_cons_succ, i64_w, i32_w]
             rfl
            refine take_ (i := 8) (N := some 40) (v := ?_) (a' := ?_) #[true, true, true, true, true, true, true, true, true, true, true, true, false, false, false, false, false, false, false, false, false, false, false, false] rfl rfl (take_ofW HT_.out HW_.out (by kernel_rfl)) (fun _ _ _ h => h) (Or.inl ⟨by rfl, ?_⟩) hHeld ?_ ?_
            rotate_left
            ·
             rintro w' ⟨s0, s1⟩
             go_simp
             with_reducible rfl
            rotate_left
            ·
             simp only [Act.put, List.setIfInBounds_toArray, List.set_cons_zero, List.set_cons_succ, i64_w, i32_w]
             rfl
            refine take_ (i := 12) (N := some 44) (v := ?_) (a' := ?_) #[true, true, true, true, true, true, true, true, true, true, true, true, true, false, false, false, false, false, false, false, false, false, false, false] rfl rfl (take_ofW HT_.out HW_.out (by kernel_rfl)) (fun _ _ _ h => h) (Or.inl ⟨by rfl, ?_⟩) hHeld ?_ ?_
            rotate_left
            ·
             rintro w' ⟨s0, s1⟩
             go_simp
             with_reducible rfl
            rotate_left
            ·
             simp only [Act.put, List.setIfInBounds_toArray, List.set_cons_zero, List.set_cons_succ, i64_w, i32_w]
             rfl
            refine pure_ (i := 13) (N := some 45) (v := ?_) (a' := ?_) #[true, true, true, true, true, true, true, true, true, true, true, true, true, true, false, false, false, false, false, false, false, false, false, false] rfl rfl (any_of HT_.out (by kernel_rfl)) (fun _ _ _ h => h) (Or.inl ⟨by rfl, ?_⟩) ?_ ?_
            rotate_left
            ·
             intro w'
             go_simp
             with_reducible rfl
            rotate_left
            ·
             simp only [Act.put, List.setIfInBounds_toArray, List.set_cons_zero, List.set_cons_succ, i64_w, i32_w]
             rfl
            refine pure_ (i := 14) (N := some 46) (v := ?_) (a' := ?_) #[true, true, true, true, true, true, true, true, true, true, true, true, true, true, true, false, false, false, false, false, false, false, false, false] rfl rfl (any_of HT_.out (by kernel_rfl)) (fun _ _ _ h => h) (Or.inl ⟨by rfl, ?_⟩) ?_ ?_
            rotate_left
            ·
             intro w'
             go_simp
             with_reducible rfl
            rotate_left
            ·
             simp only [Act.put, List.setIfInBounds_toArray, List.set_cons_zero, List.set_cons_succ, i64_w, i32_w]
             rfl
            refine pure_ (i := 15) (N := some 47) (v := ?_) (a' := ?_) #[true, true, true, true, true, true, true, true, true, true, true, true, true, true, true, true, false, false, false, false, false, false, false, false] rfl rfl (any_of HT_.out (by kernel_rfl)) (fun _ _ _ h => h) (Or.inl ⟨by rfl, ?_⟩) ?_ ?_
            rotate_left
            ·
             intro w'
             go_simp
             with_reducible rfl
            rotate_left
            ·
             simp only [Act.put, List.setIfInBounds_toArray, List.set_cons_zero, List.set_cons_succ, i64_w, i32_w]
             rfl
            refine pure_ (i := 16) (N := some 48) (v := undef) (a' := ?_) #[true, true, true, true, true, true, true, true, true, true, true, true, true, true, true, true, true, false, false, false, false, false, false, false] rfl rfl (any_of HT_.out (by kernel_rfl)) (fun _ _ _ h => h) (Or.inr ⟨by rfl, rfl⟩) ?_ ?_
            rotate_left
            ·
             simp only [Act.put, List.setIfInBounds_toArray, List.set_cons_zero, List.set_cons_succ, i64_w, i32_w]
             rfl
            refine pure_ (i := 17) (N := some 49) (v := undef) (a' := ?_) #[true, true, true, true, true, true, true, true, true, true, true, true, true, true, true, true, true, true, false, false, false, false, false, false] rfl rfl (any_of HT_.out (by kernel_rfl)) (fun _ _ _ h => h) (Or.inr ⟨by rfl, rfl⟩) ?_ ?_
            rotate_left
            ·
             simp only [Act.put, List.setIfInBounds_toArray, List.set_cons_zero, List.set_cons_succ, i64_w, i32_w]
             rfl
            refine pure_ (i := 18) (N := some 50) (v := undef) (a' := ?_) #[true, true, true, true, true, true, true, true, true, true, true, true, true, true, true, true, true, true, true, false, false, false, false, false] rfl rfl (any_of HT_.out (by kernel_rfl)) (fun _ _ _ h => h) (Or.inr ⟨by rfl, rfl⟩) ?_ ?_
            rotate_left
            ·
             simp only [Act.put, List.setIfInBounds_toArray, List.set_cons_zero, List.set_cons_succ, i64_w, i32_w]
             rfl
            refine pure_ (i := 19) (N := some 51) (v := undef) (a' := ?_) #[true, true, true, true, true, true, true, true, true, true, true, true, true, true, true, true, true, true, true, true, false, false, false, false] rfl rfl (any_of HT_.out (by kernel_rfl)) (fun _ _ _ h => h) (Or.inr ⟨by rfl, rfl⟩) ?_ ?_
            rotate_left
            ·
             simp only [Act.put, List.setIfInBounds_toArray, List.set_cons_zero, List.set_cons_succ, i64_w, i32_w]
             rfl
            refine pure_ (i := 20) (N := some 52) (v := undef) (a' := ?_) #[true, true, true, true, true, true, true, true, true, true, true, true, true, true, true, true, true, true, true, true, true, false, false, false] rfl rfl (any_of HT_.out (by kernel_rfl)) (fun _ _ _ h => h) (Or.inr ⟨by rfl, rfl⟩) ?_ ?_
            rotate_left
            ·
             simp only [Act.put, List.setIfInBounds_toArray, List.set_cons_zero, List.set_cons_succ, i64_w, i32_w]
             rfl
            refine pure_ (i := 21) (N := some 53) (v := undef) (a' := ?_) #[true, true, true, true, true, true, true, true, true, true, true, true, true, true, true, true, true, true, true, true, true, true, false, false] rfl rfl (any_of HT_.out (by kernel_rfl)) (fun _ _ _ h => h) (Or.inr ⟨by rfl, rfl⟩) ?_ ?_
            rotate_left
            ·
             simp only [Act.put, List.setIfInBounds_toArray, List.set_cons_zero, List.set_cons_succ, i64_w, i32_w]
             rfl
            refine pure_ (i := 22) (N := some 54) (v := ?_) (a' := ?_) #[true, true, true, true, true, true, true, true, true, true, true, true, true, true, true, true, true, true, true, true, true, true, true, false] rfl rfl (any_of HT_.out (by kernel_rfl)) (fun _ _ _ h => h) (Or.inl ⟨by rfl, ?_⟩) ?_ ?_
            rotate_left
            ·
             intro w'
             go_simp
             with_reducible rfl
            rotate_left
            ·
             simp only [Act.put, List.setIfInBounds_toArray, List.set_cons_zero, List.set_cons_succ, i64_w, i32_w]
             rfl
            refine pure_ (i := 23) (N := some 31) (v := ?_) (a' := ?_) #[true, true, true, true, true, true, true, true, true, true, true, true, true, true, true, true, true, true, true, true, true, true, true, true] rfl rfl (any_of HT_.out (by kernel_rfl)) (fun _ _ _ h => h) (Or.inl ⟨by rfl, ?_⟩) ?_ ?_
            rotate_left
            ·
             intro w'
             go_simp
             with_reducible rfl
            rotate_left
            ·
             simp only [Act.put, List.setIfInBounds_toArray, List.set_cons_zero, List.set_cons_succ, i64_w, i32_w]
             rfl
            refine done_ (done_of HT_.out (by kernel_rfl)) ?_
            try go_wp2
            go_meet
            case rel => exact ⟨_, (false), (by first | rfl | (simp; done) | (simp [*]; done)), H', ⟨by have := HJ2.out; have := HK2.out; first | omega | exact Nat.le_refl _⟩, ⟨by (with_reducible repeat (first | apply Kd.R_alloc | apply Kd.R_drewN | apply Kd.R_drew)); exact HO_5.out⟩, ⟨by (with_reducible repeat (first | apply Kd.R_alloc | apply Kd.R_drewN | apply Kd.R_drew)); exact HO_6.out⟩, ⟨by repeat (first | (with_reducible first | exact HB.out | apply below_alloc | apply pw_below_drewN | apply below_drew1) | exact HB.out)⟩⟩
          ·
           rw [if_neg c16] at H
           exact absurd H (by simp)
         ·
          rw [if_neg c15] at H
          exact absurd H (by simp)
        ·
         rw [if_neg c14] at H
         have c14b0 : decide (x7_2 < (t302.length : Int)) = false := decide_eq_false c14
         clear c14
         (first | rw [c14b0] | (simp only [i64_w, i32_w]; rw [c14b0]) | skip)
         have H' := Aside0.mk H
         clear H
         try go_wp2
         have n0_ := Aside0.mk (Kd.R_drew HO_5.out)
         have n1_ := Aside0.mk (Kd.R_drew HO_6.out)
         have n2_ := Aside0.mk (below_drew1 HB.out)
         clear HO_5
         clear HO_6
         clear HB
         have HO_5 := n0_
         have HO_6 := n1_
         have HB := n2_
         clear n0_ n1_ n2_
         obtain ⟨Ao25, co25, eo25⟩ := Kd.R_slice HO_5.out
         (first | subst eo25 | (injection eo25 with f1_ f2_ f3_; have f4_ := f1_.symm; have f5_ := f3_.symm; clear f1_ f2_ f3_; subst f4_; subst f5_))
         refine start_ (n := 24) (S := fun w' => True) (ds := []) #[false, false, false, false, false, false, false, false, false, false, false, false, false, false, false, false, false, false, false, false, false, false, false, false] (by kernel_rfl) rfl rfl trivial (fun hHeld => ?_); refine with_tabW coraclelaw3_PointParts.tab9 coraclelaw3_PointParts.bits9 (fun HT_ HW_ => ?_)
         generalize wr.drew = w24 at HO_5 HO_6 HB hHeld ⊢
         refine pure_ (i := 0) (N := some 32) (v := ?_) (a' := ?_) #[true, false, false, false, false, false, false, false, false, false, false, false, false, false, false, false, false, false, false, false, false, false, false, false] rfl rfl (any_of HT_.out (by kernel_rfl)) (fun _ _ _ h => h) (Or.inl ⟨by rfl, ?_⟩) ?_ ?_
         rotate_left
         ·
          intro w'
          go_simp
          with_reducible rfl
         rotate_left
         ·
          simp only [Act.put, List.setIfInBounds_toArray, List.set_cons_zero, List.set_cons_succ, i64_w, i32_w]
          rfl
         refine pure_ (i := 1) (N := some 33) (v := ?_) (a' := ?_) #[true, true, false, false, false, false, false, false, false, false, false, false, false, false, false, false, false, false, false, false, false, false, false, false] rfl rfl (any_of HT_.out (by kernel_rfl)) (fun _ _ _ h => h) (Or.inl ⟨by rfl, ?_⟩) ?_ ?_
         rotate_left
         ·
          intro w'
          go_simp
          with_reducible rfl
         rotate_left
         ·
          simp only [Act.put, List.setIfInBounds_toArray, List.set_cons_zero, List.set_cons_succ, i64_w, i32_w]
          rfl
         refine pure_ (i := 2) (N := some 34) (v := ?_) (a' := ?_) #[true, true, true, false, false, false, false, false, false, false, false, false, false, false, false, false, false, false, false, false, false, false, false, false] rfl rfl (any_of HT_.out (by kernel_rfl)) (fun _ _ _ h => h) (Or.inl ⟨by rfl, ?_⟩) ?_ ?_
         rotate_left
         ·
          intro w'
          go_simp
          with_reducible rfl
         rotate_left
         ·
          simp only [Act.put, List.setIfInBounds_toArray, List.set_cons_zero, List.set_cons_succ, i64_w, i32_w]
          rfl
         refine pure_ (i := 3) (N := some 35) (v := ?_) (a' := ?_) #[true, true, true, true, false, false, false, false, false, false, false, false, false, false, false, false, false, false, false, false, false, false, false, false] rfl rfl (any_of HT_.out (by kernel_rfl)) (fun _ _ _ h => h) (Or.inl ⟨by rfl, ?_⟩) ?_ ?_
         rotate_left
         ·
          intro w'
          go_simp
          with_reducible rfl
         rotate_left
         ·
          simp only [Act.put, List.setIfInBounds_toArray, List.set_cons_zero, List.set_cons_succ, i64_w, i32_w]
          rfl
         refine pure_ (i := 4) (N := some 36) (v := ?_) (a' := ?_) #[true, true, true, true, true, false, false, false, false, false, false, false, false, false, false, false, false, false, false, false, false, false, false, false] rfl rfl (any_of HT_.out (by kernel_rfl)) (fun _ _ _ h => h) (Or.inl ⟨by rfl, ?_⟩) ?_ ?_
         rotate_left
         ·
          intro w'
          go_simp
          with_reducible rfl
         rotate_left
         ·
          simp only [Act.put, List.setIfInBounds_toArray, List.set_cons_zero, List.set_cons_succ, i64_w, i32_w]
          rfl
         refine pure_ (i := 5) (N := some 37) (v := undef) (a' := ?_) #[true, true, true, true, true, true, false, false, false, false, false, false, false, false, false, false, false, false, false, false, false, false, false, false] rfl rfl (any_of HT_.out (by kernel_rfl)) (fun _ _ _ h => h) (Or.inr ⟨by rfl, rfl⟩) ?_ ?_
         rotate_left
         ·
          simp only [Act.put, List.setIfInBounds_toArray, List.set_cons_zero, List.set_cons_succ, i64_w, i32_w]
          rfl
         refine pure_ (i := 6) (N := some 38) (v := undef) (a' := ?_) #[true, true, true, true, true, true, true, false, false, false, false, false, false, false, false, false, false, false, false, false, false, false, false, false] rfl rfl (any_of HT_.out (by kernel_rfl)) (fun _ _ _ h => h) (Or.inr ⟨by rfl, rfl⟩) ?_ ?_
         rotate_left
         ·
          simp only [Act.put, List.setIfInBounds_toArray, List.set_cons_zero, List.set_cons_succ, i64_w, i32_w]
          rfl
         refine pure_ (i := 7) (N := some 39) (v := undef) (a' := ?_) #[true, true, true, true, true, true, true, true, false, false, false, false, false, false, false, false, false, false, false, false, false, false, false, false] rfl rfl (any_of HT_.out (by kernel_rfl)) (fun _ _ _ h => h) (Or.inr ⟨by rfl, rfl⟩) ?_ ?_
         rotate_left
         ·
          simp only [Act.put, List.setIfInBounds_toArray, List.set_cons_zero, List.set_cons_succ, i64_w, i32_w]
          rfl
         refine pure_ (i := 8) (N := some 40) (v := undef) (a' := ?_) #[true, true, true, true, true, true, true, true, true, false, false, false, false, false, false, false, false, false, false, false, false, false, false, false] rfl rfl (any_of HT_.out (by kernel_rfl)) (fun _ _ _ h => h) (Or.inr ⟨by rfl, rfl⟩) ?_ ?_
         rotate_left
         ·
          simp only [Act.put, List.setIfInBounds_toArray, List.set_cons_zero, List.set_cons_succ, i64_w, i32_w]
          rfl
         refine pure_ (i := 9) (N := some 41) (v := undef) (a' := ?_) #[true, true, true, true, true, true, true, true, true, true, false, false, false, false, false, false, false, false, false, false, false, false, false, false] rfl rfl (any_of HT_.out (by kernel_rfl)) (fun _ _ _ h => h) (Or.inr ⟨by rfl, rfl⟩) ?_ ?_
         rotate_left
         ·
          simp only [Act.put, List.setIfInBounds_toArray, List.set_cons_zero, List.set_cons_succ, i64_w, i32_w]
          rfl
         refine pure_ (i := 10) (N := some 42) (v := undef) (a' := ?_) #[true, true, true, true, true, true, true, true, true, true, true, false, false, false, false, false, false, false, false, false, false, false, false, false] rfl rfl (any_of HT_.out (by kernel_rfl)) (fun _ _ _ h => h) (Or.inr ⟨by rfl, rfl⟩) ?_ ?_
         rotate_left
         ·
          simp only [Act.put, List.setIfInBounds_toArray, List.set_cons_zero, List.set_cons_succ, i64_w, i32_w]
          rfl
         refine pure_ (i := 11) (N := some 43) (v := undef) (a' := ?_) #[true, true, true, true, true, true, true, true, true, true, true, true, false, false, false, false, false, false, false, false, false, false, false, false] rfl rfl (any_of HT_.out (by kernel_rfl)) (fun _ _ _ h => h) (Or.inr ⟨by rfl, rfl⟩) ?_ ?_
         rotate_left
         ·
          simp only [Act.put, List.setIfInBounds_toArray, List.set_cons_zero, List.set_cons_succ, i64_w, i32_w]
          rfl
         refine pure_ (i := 12) (N := some 44) (v := undef) (a' := ?_) #[true, true, true, true, true, true, true, true, true, true, true, true, true, false, false, false, false, false, false, false, false, false, false, false] rfl rfl (any_of HT_.out (by kernel_rfl)) (fun _ _ _ h => h) (Or.inr ⟨by rfl, rfl⟩) ?_ ?_
         rotate_left
         ·
          simp only [Act.put, List.setIfInBounds_toArray, List.set_cons_zero, List.set_cons_succ, i64_w, i32_w]
          rfl
         refine pure_ (i := 13) (N := some 45) (v := undef) (a' := ?_) #[true, true, true, true, true, true, true, true, true, true, true, true, true, true, false, false, false, false, false, false, false, false, false, false] rfl rfl (any_of HT_.out (by kernel_rfl)) (fun _ _ _ h => h) (Or.inr ⟨by rfl, rfl⟩) ?_ ?_
         rotate_left
         ·
          simp only [Act.put, List.setIfInBounds_toArray, List.set_cons_zero, List.set_cons_succ, i64_w, i32_w]
          rfl
         refine pure_ (i := 14) (N := some 46) (v := ?_) (a' := ?_) #[true, true, true, true, true, true, true, true, true, true, true, true, true, true, true, false, false, false, false, false, false, false, false, false] rfl rfl (any_of HT_.out (by kernel_rfl)) (fun _ _ _ h => h) (Or.inl ⟨by rfl, ?_⟩) ?_ ?_
         rotate_left
         ·
          intro w'
          go_simp
          with_reducible rfl
         rotate_left
         ·
          simp only [Act.put, List.setIfInBounds_toArray, List.set_cons_zero, List.set_cons_succ, i64_w, i32_w]
          rfl
         refine pure_ (i := 15) (N := some 47) (v := ?_) (a' := ?_) #[true, true, true, true, true, true, true, true, true, true, true, true, true, true, true, true, false, false, false, false, false, false, false, false] rfl rfl (any_of HT_.out (by kernel_rfl)) (fun _ _ _ h => h) (Or.inl ⟨by rfl, ?_⟩) ?_ ?_
         rotate_left
         ·
          intro w'
          go_simp
          with_reducible rfl
         rotate_left
         ·
          simp only [Act.put, List.setIfInBounds_toArray, List.set_cons_zero, List.set_cons_succ, i64_w, i32_w]
          rfl
         refine pure_ (i := 16) (N := some 48) (v := undef) (a' := ?_) #[true, true, true, true, true, true, true, true, true, true, true, true, true, true, true, true, true, false, false, false, false, false, false, false] rfl rfl (any_of HT_.out (by kernel_rfl)) (fun _ _ _ h => h) (Or.inr ⟨by rfl, rfl⟩) ?_ ?_
         rotate_left
         ·
          simp only [Act.put, List.setIfInBounds_toArray, List.set_cons_zero, List.set_cons_succ, i64_w, i32_w]
          rfl
         refine pure_ (i := 17) (N := some 49) (v := undef) (a' := ?_) #[true, true, true, true, true, true, true, true, true, true, true, true, true, true, true, true, true, true, false, false, false, false, false, false] rfl rfl (any_of HT_.out (by kernel_rfl)) (fun _ _ _ h => h) (Or.inr ⟨by rfl, rfl⟩) ?_ ?_
         rotate_left
         ·
          simp only [Act.put, List.setIfInBounds_toArray, List.set_cons_zero, List.set_cons_succ, i64_w, i32_w]
          rfl
         refine pure_ (i := 18) (N := some 50) (v := undef) (a' := ?_) #[true, true, true, true, true, true, true, true, true, true, true, true, true, true, true, true, true, true, true, false, false, false, false, false] rfl rfl (any_of HT_.out (by kernel_rfl)) (fun _ _ _ h => h) (Or.inr ⟨by rfl, rfl⟩) ?_ ?_
         rotate_left
         ·
          simp only [Act.put, List.setIfInBounds_toArray, List.set_cons_zero, List.set_cons_succ, i64_w, i32_w]
          rfl
         refine pure_ (i := 19) (N := some 51) (v := undef) (a' := ?_) #[true, true, true, true, true, true, true, true, true, true, true, true, true, true, true, true, true, true, true, true, false, false, false, false] rfl rfl (any_of HT_.out (by kernel_rfl)) (fun _ _ _ h => h) (Or.inr ⟨by rfl, rfl⟩) ?_ ?_
         rotate_left
         ·
          simp only [Act.put, List.setIfInBounds_toArray, List.set_cons_zero, List.set_cons_succ, i64_w, i32_w]
          rfl
         refine pure_ (i := 20) (N := some 52) (v := undef) (a' := ?_) #[true, true, true, true, true, true, true, true, true, true, true, true, true, true, true, true, true, true, true, true, true, false, false, false] rfl rfl (any_of HT_.out (by kernel_rfl)) (fun _ _ _ h => h) (Or.inr ⟨by rfl, rfl⟩) ?_ ?_
         rotate_left
         ·
          simp only [Act.put, List.setIfInBounds_toArray, List.set_cons_zero, List.set_cons_succ, i64_w, i32_w]
          rfl
         refine pure_ (i := 21) (N := some 53) (v := undef) (a' := ?_) #[true, true, true, true, true, true, true, true, true, true, true, true, true, true, true, true, true, true, true, true, true, true, false, false] rfl rfl (any_of HT_.out (by kernel_rfl)) (fun _ _ _ h => h) (Or.inr ⟨by rfl, rfl⟩) ?_ ?_
         rotate_left
         ·
          simp only [Act.put, List.setIfInBounds_toArray, List.set_cons_zero, List.set_cons_succ, i64_w, i32_w]
          rfl
         refine pure_ (i := 22) (N := some 54) (v := ?_) (a' := ?_) #[true, true, true, true, true, true, true, true, true, true, true, true, true, true, true, true, true, true, true, true, true, true, true, false] rfl rfl (any_of HT_.out (by kernel_rfl)) (fun _ _ _ h => h) (Or.inl ⟨by rfl, ?_⟩) ?_ ?_
         rotate_left
         ·
          intro w'
          go_simp
          with_reducible rfl
         rotate_left
         ·
          simp only [Act.put, List.setIfInBounds_toArray, List.set_cons_zero, List.set_cons_succ, i64_w, i32_w]
          rfl
         refine pure_ (i := 23) (N := some 31) (v := ?_) (a' := ?_) #[true, true, true, true, true, true, true, true, true, true, true, true, true, true, true, true, true, true, true, true, true, true, true, true] rfl rfl (any_of HT_.out (by kernel_rfl)) (fun _ _ _ h => h) (Or.inl ⟨by rfl, ?_⟩) ?_ ?_
         rotate_left
         ·
          intro w'
          go_simp
          with_reducible rfl
         rotate_left
         ·
          simp only [Act.put, List.setIfInBounds_toArray, List.set_cons_zero, List.set_cons_succ, i64_w, i32_w]
          rfl
         refine done_ (done_of HT_.out (by kernel_rfl)) ?_
         try go_wp2
         go_meet
         case rel => exact ⟨_, (false), (by first | rfl | (simp; done) | (simp [*]; done)), H', ⟨by have := HJ2.out; have := HK2.out; first | omega | exact Nat.le_refl _⟩, ⟨by (with_reducible repeat (first | apply Kd.R_alloc | apply Kd.R_drewN | apply Kd.R_drew)); exact HO_5.out⟩, ⟨by (with_reducible repeat (first | apply Kd.R_alloc | apply Kd.R_drewN | apply Kd.R_drew)); exact HO_6.out⟩, ⟨by repeat (first | (with_reducible first | exact HB.out | apply below_alloc | apply pw_below_drewN | apply below_drew1) | exact HB.out)⟩⟩
       case rest =>
        clear HC13
        try clear c1
        try clear c2
        try clear p2
        try clear p3
        try clear q3
        try clear hx3
        try clear c14
        try clear c14b0
        try clear c15
        try clear c16
        try clear c17
        try clear c17b0
        try clear c20
        try clear hx322_0
        try clear hx322_1
        try clear hx322_10
        try clear hx322_11
        try clear hx322_12
        try clear hx322_13
        try clear hx322_14
        try clear hx322_15
        try clear hx322_16
        try clear hx322_17
        try clear hx322_18
        try clear hx322_19
        try clear hx322_2
        try clear hx322_20
        try clear hx322_21
        try clear hx322_22
        try clear hx322_23
        try clear hx322_24
        try clear hx322_25
        try clear hx322_26
        try clear hx322_27
        try clear hx322_28
        try clear hx322_29
        try clear hx322_3
        try clear hx322_30
        try clear hx322_31
        try clear hx322_32
        try clear hx322_4
        try clear hx322_5
        try clear hx322_6
        try clear hx322_7
        try clear hx322_8
        try clear hx322_9
        try clear hx323_0
        try clear hx323_1
        try clear hx323_10
        try clear hx323_11
        try clear hx323_12
        try clear hx323_13
        try clear hx323_14
        try clear hx323_15
        try clear hx323_16
        try clear hx323_17
        try clear hx323_18
        try clear hx323_19
        try clear hx323_2
        try clear hx323_20
        try clear hx323_21
        try clear hx323_22
        try clear hx323_23
        try clear hx323_24
        try clear hx323_25
        try clear hx323_26
        try clear hx323_27
        try clear hx323_28
        try clear hx323_29
        try clear hx323_3
        try clear hx323_30
        try clear hx323_31
        try clear hx323_32
        try clear hx323_4
        try clear hx323_5
        try clear hx323_6
        try clear hx323_7
        try clear hx323_8
        try clear hx323_9
        try clear p322
        try clear p323
        try clear q322
        try clear q323
        obtain ⟨kq, x31_12, rfl, HA, HJ12, HO_5, HO_6, HB⟩ := hcut
        cases kq with
        | zero => exact absurd HA.out (by simp [coraclelaw3_PointParts.j2])
        | succ kj12 =>
         have H := HA.out
         clear HA
         simp only [coraclelaw3_PointParts.j2] at H
         by_cases c26 : x31_12 = true
         ·
          subst c26
          have H1 : (coraclelaw3_PointParts.l0 kj12 l0 l1 t302 t305 (wrap64 (x7_2 + 1)) x8_2 (wrap64 (x9_2 + 1))) = some r := by rw [if_pos rfl] at H; exact H
          clear H
          have H := H1
          clear H1
          have H' := Aside0.mk H
          clear H
          go_wp2
          go_roundg kj12
          case measure => have := HJ2.out; have := HK2.out; have := HJ12.out; omega
          case rel => exact ⟨(wrap64 (x7_2 + 1)), (x8_2), (wrap64 (x9_2 + 1)), (by first | rfl | (simp; done) | (simp [*]; done)), (by first | rfl | (simp; done) | (simp [*]; done)), (by first | rfl | (simp; done) | (simp [*]; done)), H', ⟨by have := HJ2.out; have := HK2.out; have := HJ12.out; omega⟩, ⟨by (with_reducible repeat (first | apply Kd.R_alloc | apply Kd.R_drewN | apply Kd.R_drew)); exact HO_5.out⟩, ⟨by (with_reducible repeat (first | apply Kd.R_alloc | apply Kd.R_drewN | apply Kd.R_drew)); exact HO_6.out⟩, ⟨by repeat (first | (with_reducible first | exact HB.out | apply below_alloc | apply pw_below_drewN | apply below_drew1) | exact HB.out)⟩⟩
         ·
          replace c26 := Bool.eq_false_iff.mpr c26
          subst c26
          have H1 : (if x8_2 < (t305.length : Int) then (if 0 ≤ x8_2 then (if 0 ≤ x9_2 then (if x9_2 < (l0.length : Int) then (if ((((rd_T25 t305 x8_2).f0.f0) == ((rd_T25 l0 x9_2).f0.f0) && (((rd_T25 t305 x8_2).f0.f1) == ((rd_T25 l0 x9_2).f0.f1) && (((rd_T25 t305 x8_2).f0.f2) == ((rd_T25 l0 x9_2).f0.f2) && (((rd_T25 t305 x8_2).f0.f3) == ((rd_T25 l0 x9_2).f0.f3) && (((rd_T25 t305 x8_2).f0.f4) == ((rd_T25 l0 x9_2).f0.f4) && (((rd_T25 t305 x8_2).f0.f5) == ((rd_T25 l0 x9_2).f0.f5) && (((rd_T25 t305 x8_2).f0.f6) == ((rd_T25 l0 x9_2).f0.f6) && (((rd_T25 t305 x8_2).f0.f7) == ((rd_T25 l0 x9_2).f0.f7) && (((rd_T25 t305 x8_2).f0.f8) == ((rd_T25 l0 x9_2).f0.f8) && (((rd_T25 t305 x8_2).f0.f9) == ((rd_T25 l0 x9_2).f0.f9) && (((rd_T25 t305 x8_2).f0.f10) == ((rd_T25 l0 x9_2).f0.f10) && (((rd_T25 t305 x8_2).f0.f11) == ((rd_T25 l0 x9_2).f0.f11) && (((rd_T25 t305 x8_2).f0.f12) == ((rd_T25 l0 x9_2).f0.f12) && (((rd_T25 t305 x8_2).f0.f13) == ((rd_T25 l0 x9_2).f0.f13) && (((rd_T25 t305 x8_2).f0.f14) == ((rd_T25 l0 x9_2).f0.f14) && (((rd_T25 t305 x8_2).f0.f15) == ((rd_T25 l0 x9_2).f0.f15) && (((rd_T25 t305 x8_2).f0.f16) == ((rd_T25 l0 x9_2).f0.f16) && (((rd_T25 t305 x8_2).f0.f17) == ((rd_T25 l0 x9_2).f0.f17) && (((rd_T25 t305 x8_2).f0.f18) == ((rd_T25 l0 x9_2).f0.f18) && (((rd_T25 t305 x8_2).f0.f19) == ((rd_T25 l0 x9_2).f0.f19) && (((rd_T25 t305 x8_2).f0.f20) == ((rd_T25 l0 x9_2).f0.f20) && (((rd_T25 t305 x8_2).f0.f21) == ((rd_T25 l0 x9_2).f0.f21) && (((rd_T25 t305 x8_2).f0.f22) == ((rd_T25 l0 x9_2).f0.f22) && (((rd_T25 t305 x8_2).f0.f23) == ((rd_T25 l0 x9_2).f0.f23) && (((rd_T25 t305 x8_2).f0.f24) == ((rd_T25 l0 x9_2).f0.f24) && (((rd_T25 t305 x8_2).f0.f25) == ((rd_T25 l0 x9_2).f0.f25) && (((rd_T25 t305 x8_2).f0.f26) == ((rd_T25 l0 x9_2).f0.f26) && (((rd_T25 t305 x8_2).f0.f27) == ((rd_T25 l0 x9_2).f0.f27) && (((rd_T25 t305 x8_2).f0.f28) == ((rd_T25 l0 x9_2).f0.f28) && (((rd_T25 t305 x8_2).f0.f29) == ((rd_T25 l0 x9_2).f0.f29) && (((rd_T25 t305 x8_2).f0.f30) == ((rd_T25 l0 x9_2).f0.f30) && (((rd_T25 t305 x8_2).f0.f31) == ((rd_T25 l0 x9_2).f0.f31))))))))))))))))))))))))))))))))) && (((rd_T25 t305 x8_2).f1) == ((rd_T25 l0 x9_2).f1))) = true then ((point_Has.f kj12 l1 ((rd_T25 l0 x9_2).f0.f0) ((rd_T25 l0 x9_2).f0.f1) ((rd_T25 l0 x9_2).f0.f2) ((rd_T25 l0 x9_2).f0.f3) ((rd_T25 l0 x9_2).f0.f4) ((rd_T25 l0 x9_2).f0.f5) ((rd_T25 l0 x9_2).f0.f6) ((rd_T25 l0 x9_2).f0.f7) ((rd_T25 l0 x9_2).f0.f8) ((rd_T25 l0 x9_2).f0.f9) ((rd_T25 l0 x9_2).f0.f10) ((rd_T25 l0 x9_2).f0.f11) ((rd_T25 l0 x9_2).f0.f12) ((rd_T25 l0 x9_2).f0.f13) ((rd_T25 l0 x9_2).f0.f14) ((rd_T25 l0 x9_2).f0.f15) ((rd_T25 l0 x9_2).f0.f16) ((rd_T25 l0 x9_2).f0.f17) ((rd_T25 l0 x9_2).f0.f18) ((rd_T25 l0 x9_2).f0.f19) ((rd_T25 l0 x9_2).f0.f20) ((rd_T25 l0 x9_2).f0.f21) ((rd_T25 l0 x9_2).f0.f22) ((rd_T25 l0 x9_2).f0.f23) ((rd_T25 l0 x9_2).f0.f24) ((rd_T25 l0 x9_2).f0.f25) ((rd_T25 l0 x9_2).f0.f26) ((rd_T25 l0 x9_2).f0.f27) ((rd_T25 l0 x9_2).f0.f28) ((rd_T25 l0 x9_2).f0.f29) ((rd_T25 l0 x9_2).f0.f30) ((rd_T25 l0 x9_2).f0.f31) ((rd_T25 l0 x9_2).f1)).bind fun t329 => (if t329 = true then (some false) else (coraclelaw3_PointParts.l0 kj12 l0 l1 t302 t305 x7_2 (wrap64 (x8_2 + 1)) (wrap64 (x9_2 + 1))))) else (some false)) else (none)) else (none)) else (none)) else (some false)) = some r := by rw [if_neg (show ¬ (false = true) by decide)] at H; exact H
          clear H
          have H := H1
          clear H1
          by_cases c27 : x8_2 < (t305.length : Int)
          ·
           rw [if_pos c27] at H
           have c27b0 : decide (x8_2 < (t305.length : Int)) = true := decide_eq_true c27
           clear c27
           by_cases c28 : 0 ≤ x8_2
           ·
            rw [if_pos c28] at H
            have c28b0 : decide (0 ≤ x8_2) = true := decide_eq_true c28
            clear c28
            by_cases c29 : 0 ≤ x9_2
            ·
             rw [if_pos c29] at H
             have c29b0 : decide (0 ≤ x9_2) = true := decide_eq_true c29
             clear c29
             by_cases c30 : x9_2 < (l0.length : Int)
             ·
              rw [if_pos c30] at H
              have c30b0 : decide (x9_2 < (l0.length : Int)) = true := decide_eq_true c30
              clear c30
              by_cases c31 : ((((rd_T25 t305 x8_2).f0.f0) == ((rd_T25 l0 x9_2).f0.f0) && (((rd_T25 t305 x8_2).f0.f1) == ((rd_T25 l0 x9_2).f0.f1) && (((rd_T25 t305 x8_2).f0.f2) == ((rd_T25 l0 x9_2).f0.f2) && (((rd_T25 t305 x8_2).f0.f3) == ((rd_T25 l0 x9_2).f0.f3) && (((rd_T25 t305 x8_2).f0.f4) == ((rd_T25 l0 x9_2).f0.f4) && (((rd_T25 t305 x8_2).f0.f5) == ((rd_T25 l0 x9_2).f0.f5) && (((rd_T25 t305 x8_2).f0.f6) == ((rd_T25 l0 x9_2).f0.f6) && (((rd_T25 t305 x8_2).f0.f7) == ((rd_T25 l0 x9_2).f0.f7) && (((rd_T25 t305 x8_2).f0.f8) == ((rd_T25 l0 x9_2).f0.f8) && (((rd_T25 t305 x8_2).f0.f9) == ((rd_T25 l0 x9_2).f0.f9) && (((rd_T25 t305 x8_2).f0.f10) == ((rd_T25 l0 x9_2).f0.f10) && (((rd_T25 t305 x8_2).f0.f11) == ((rd_T25 l0 x9_2).f0.f11) && (((rd_T25 t305 x8_2).f0.f12) == ((rd_T25 l0 x9_2).f0.f12) && (((rd_T25 t305 x8_2).f0.f13) == ((rd_T25 l0 x9_2).f0.f13) && (((rd_T25 t305 x8_2).f0.f14) == ((rd_T25 l0 x9_2).f0.f14) && (((rd_T25 t305 x8_2).f0.f15) == ((rd_T25 l0 x9_2).f0.f15) && (((rd_T25 t305 x8_2).f0.f16) == ((rd_T25 l0 x9_2).f0.f16) && (((rd_T25 t305 x8_2).f0.f17) == ((rd_T25 l0 x9_2).f0.f17) && (((rd_T25 t305 x8_2).f0.f18) == ((rd_T25 l0 x9_2).f0.f18) && (((rd_T25 t305 x8_2).f0.f19) == ((rd_T25 l0 x9_2).f0.f19) && (((rd_T25 t305 x8_2).f0.f20) == ((rd_T25 l0 x9_2).f0.f20) && (((rd_T25 t305 x8_2).f0.f21) == ((rd_T25 l0 x9_2).f0.f21) && (((rd_T25 t305 x8_2).f0.f22) == ((rd_T25 l0 x9_2).f0.f22) && (((rd_T25 t305 x8_2).f0.f23) == ((rd_T25 l0 x9_2).f0.f23) && (((rd_T25 t305 x8_2).f0.f24) == ((rd_T25 l0 x9_2).f0.f24) && (((rd_T25 t305 x8_2).f0.f25) == ((rd_T25 l0 x9_2).f0.f25) && (((rd_T25 t305 x8_2).f0.f26) == ((rd_T25 l0 x9_2).f0.f26) && (((rd_T25 t305 x8_2).f0.f27) == ((rd_T25 l0 x9_2).f0.f27) && (((rd_T25 t305 x8_2).f0.f28) == ((rd_T25 l0 x9_2).f0.f28) && (((rd_T25 t305 x8_2).f0.f29) == ((rd_T25 l0 x9_2).f0.f29) && (((rd_T25 t305 x8_2).f0.f30) == ((rd_T25 l0 x9_2).f0.f30) && (((rd_T25 t305 x8_2).f0.f31) == ((rd_T25 l0 x9_2).f0.f31))))))))))))))))))))))))))))))))) && (((rd_T25 t305 x8_2).f1) == ((rd_T25 l0 x9_2).f1))) = true
              ·
               rw [if_pos c31] at H
               have c31b0 : ((((rd_T25 t305 x8_2).f0.f0) == ((rd_T25 l0 x9_2).f0.f0) && (((rd_T25 t305 x8_2).f0.f1) == ((rd_T25 l0 x9_2).f0.f1) && (((rd_T25 t305 x8_2).f0.f2) == ((rd_T25 l0 x9_2).f0.f2) && (((rd_T25 t305 x8_2).f0.f3) == ((rd_T25 l0 x9_2).f0.f3) && (((rd_T25 t305 x8_2).f0.f4) == ((rd_T25 l0 x9_2).f0.f4) && (((rd_T25 t305 x8_2).f0.f5) == ((rd_T25 l0 x9_2).f0.f5) && (((rd_T25 t305 x8_2).f0.f6) == ((rd_T25 l0 x9_2).f0.f6) && (((rd_T25 t305 x8_2).f0.f7) == ((rd_T25 l0 x9_2).f0.f7) && (((rd_T25 t305 x8_2).f0.f8) == ((rd_T25 l0 x9_2).f0.f8) && (((rd_T25 t305 x8_2).f0.f9) == ((rd_T25 l0 x9_2).f0.f9) && (((rd_T25 t305 x8_2).f0.f10) == ((rd_T25 l0 x9_2).f0.f10) && (((rd_T25 t305 x8_2).f0.f11) == ((rd_T25 l0 x9_2).f0.f11) && (((rd_T25 t305 x8_2).f0.f12) == ((rd_T25 l0 x9_2).f0.f12) && (((rd_T25 t305 x8_2).f0.f13) == ((rd_T25 l0 x9_2).f0.f13) && (((rd_T25 t305 x8_2).f0.f14) == ((rd_T25 l0 x9_2).f0.f14) && (((rd_T25 t305 x8_2).f0.f15) == ((rd_T25 l0 x9_2).f0.f15) && (((rd_T25 t305 x8_2).f0.f16) == ((rd_T25 l0 x9_2).f0.f16) && (((rd_T25 t305 x8_2).f0.f17) == ((rd_T25 l0 x9_2).f0.f17) && (((rd_T25 t305 x8_2).f0.f18) == ((rd_T25 l0 x9_2).f0.f18) && (((rd_T25 t305 x8_2).f0.f19) == ((rd_T25 l0 x9_2).f0.f19) && (((rd_T25 t305 x8_2).f0.f20) == ((rd_T25 l0 x9_2).f0.f20) && (((rd_T25 t305 x8_2).f0.f21) == ((rd_T25 l0 x9_2).f0.f21) && (((rd_T25 t305 x8_2).f0.f22) == ((rd_T25 l0 x9_2).f0.f22) && (((rd_T25 t305 x8_2).f0.f23) == ((rd_T25 l0 x9_2).f0.f23) && (((rd_T25 t305 x8_2).f0.f24) == ((rd_T25 l0 x9_2).f0.f24) && (((rd_T25 t305 x8_2).f0.f25) == ((rd_T25 l0 x9_2).f0.f25) && (((rd_T25 t305 x8_2).f0.f26) == ((rd_T25 l0 x9_2).f0.f26) && (((rd_T25 t305 x8_2).f0.f27) == ((rd_T25 l0 x9_2).f0.f27) && (((rd_T25 t305 x8_2).f0.f28) == ((rd_T25 l0 x9_2).f0.f28) && (((rd_T25 t305 x8_2).f0.f29) == ((rd_T25 l0 x9_2).f0.f29) && (((rd_T25 t305 x8_2).f0.f30) == ((rd_T25 l0 x9_2).f0.f30) && (((rd_T25 t305 x8_2).f0.f31) == ((rd_T25 l0 x9_2).f0.f31))))))))))))))))))))))))))))))))) && (((rd_T25 t305 x8_2).f1) == ((rd_T25 l0 x9_2).f1))) = true := c31
               clear c31
               replace H := Option.bind_eq_some_iff.mp H
               obtain ⟨t329, A320, H⟩ := H
               replace H : (if t329 = true then (some false) else (coraclelaw3_PointParts.l0 kj12 l0 l1 t302 t305 x7_2 (wrap64 (x8_2 + 1)) (wrap64 (x9_2 + 1)))) = some r := H
               have A32 := Aside0.mk A320
               clear A320
               by_cases c33 : t329 = true
               ·
                subst c33
                have H1 : (some false) = some r := by rw [if_pos rfl] at H; exact H
                exact absurd (H1.trans (congrArg some HTOLD.out)) (by decide)
               ·
                replace c33 := Bool.eq_false_iff.mpr c33
                subst c33
                have H1 : (coraclelaw3_PointParts.l0 kj12 l0 l1 t302 t305 x7_2 (wrap64 (x8_2 + 1)) (wrap64 (x9_2 + 1))) = some r := by rw [if_neg (show ¬ (false = true) by decide)] at H; exact H
                clear H
                have H := H1
                clear H1
                have H' := Aside0.mk H
                clear H
                try go_wp2
                have n0_ := Aside0.mk (Kd.R_drew HO_5.out)
                have n1_ := Aside0.mk (Kd.R_drew HO_6.out)
                have n2_ := Aside0.mk (below_drew1 HB.out)
                clear HO_5
                clear HO_6
                clear HB
                have HO_5 := n0_
                have HO_6 := n1_
                have HB := n2_
                clear n0_ n1_ n2_
                obtain ⟨Ao38, co38, eo38⟩ := Kd.R_slice HO_6.out
                (first | subst eo38 | (injection eo38 with f1_ f2_ f3_; have f4_ := f1_.symm; have f5_ := f3_.symm; clear f1_ f2_ f3_; subst f4_; subst f5_))
                have p326 : 0 ≤ (x8_2 : Int) := of_decide_eq_true (by first | (with_reducible assumption) | assumption)
                have q326 : x8_2 < (t305.length : Int) := of_decide_eq_true (by first | (with_reducible assumption) | assumption)
                obtain ⟨ad326, e326, hx326_0, hx326_1, hx326_2, hx326_3, hx326_4, hx326_5, hx326_6, hx326_7, hx326_8, hx326_9, hx326_10, hx326_11, hx326_12, hx326_13, hx326_14, hx326_15, hx326_16, hx326_17, hx326_18, hx326_19, hx326_20, hx326_21, hx326_22, hx326_23, hx326_24, hx326_25, hx326_26, hx326_27, hx326_28, hx326_29, hx326_30, hx326_31, hx326_32⟩ := at_T25 (Kd.R_reads' HO_6.out).2.2 x8_2 p326 q326
                cases e326
                replace p326 := eq_true p326
                replace q326 := eq_true q326
                have hw326_0_32 := Go.Proofs.YtmoecidfmgeafaaDoor.Wide.mk32 hx326_0 hx326_1 hx326_2 hx326_3 hx326_4 hx326_5 hx326_6 hx326_7 hx326_8 hx326_9 hx326_10 hx326_11 hx326_12 hx326_13 hx326_14 hx326_15 hx326_16 hx326_17 hx326_18 hx326_19 hx326_20 hx326_21 hx326_22 hx326_23 hx326_24 hx326_25 hx326_26 hx326_27 hx326_28 hx326_29 hx326_30 hx326_31
                have hw326_0_33 := Go.Proofs.YtmoecidfmgeafaaDoor.Wide.mk33 hx326_0 hx326_1 hx326_2 hx326_3 hx326_4 hx326_5 hx326_6 hx326_7 hx326_8 hx326_9 hx326_10 hx326_11 hx326_12 hx326_13 hx326_14 hx326_15 hx326_16 hx326_17 hx326_18 hx326_19 hx326_20 hx326_21 hx326_22 hx326_23 hx326_24 hx326_25 hx326_26 hx326_27 hx326_28 hx326_29 hx326_30 hx326_31 hx326_32
                have p327 : 0 ≤ (x9_2 : Int) := of_decide_eq_true (by first | (with_reducible assumption) | assumption)
                have q327 : x9_2 < (l0.length : Int) := of_decide_eq_true (by first | (with_reducible assumption) | assumption)
                obtain ⟨ad327, e327, hx327_0, hx327_1, hx327_2, hx327_3, hx327_4, hx327_5, hx327_6, hx327_7, hx327_8, hx327_9, hx327_10, hx327_11, hx327_12, hx327_13, hx327_14, hx327_15, hx327_16, hx327_17, hx327_18, hx327_19, hx327_20, hx327_21, hx327_22, hx327_23, hx327_24, hx327_25, hx327_26, hx327_27, hx327_28, hx327_29, hx327_30, hx327_31, hx327_32⟩ := at_T25 HR0.out x9_2 p327 q327
                have hw327_0_32 := Go.Proofs.YtmoecidfmgeafaaDoor.Wide.mk32 hx327_0 hx327_1 hx327_2 hx327_3 hx327_4 hx327_5 hx327_6 hx327_7 hx327_8 hx327_9 hx327_10 hx327_11 hx327_12 hx327_13 hx327_14 hx327_15 hx327_16 hx327_17 hx327_18 hx327_19 hx327_20 hx327_21 hx327_22 hx327_23 hx327_24 hx327_25 hx327_26 hx327_27 hx327_28 hx327_29 hx327_30 hx327_31
                have hw327_0_33 := Go.Proofs.YtmoecidfmgeafaaDoor.Wide.mk33 hx327_0 hx327_1 hx327_2 hx327_3 hx327_4 hx327_5 hx327_6 hx327_7 hx327_8 hx327_9 hx327_10 hx327_11 hx327_12 hx327_13 hx327_14 hx327_15 hx327_16 hx327_17 hx327_18 hx327_19 hx327_20 hx327_21 hx327_22 hx327_23 hx327_24 hx327_25 hx327_26 hx327_27 hx327_28 hx327_29 hx327_30 hx327_31 hx327_32
                have hw327_32 := hx327_32
                have hw327_31 := hx327_31
                have hw327_30 := hx327_30
                have hw327_29 := hx327_29
                have hw327_28 := hx327_28
                have hw327_27 := hx327_27
                have hw327_26 := hx327_26
                have hw327_25 := hx327_25
                have hw327_24 := hx327_24
                have hw327_23 := hx327_23
                have hw327_22 := hx327_22
                have hw327_21 := hx327_21
                have hw327_20 := hx327_20
                have hw327_19 := hx327_19
                have hw327_18 := hx327_18
                have hw327_17 := hx327_17
                have hw327_16 := hx327_16
                have hw327_15 := hx327_15
                have hw327_14 := hx327_14
                have hw327_13 := hx327_13
                have hw327_12 := hx327_12
                have hw327_11 := hx327_11
                have hw327_10 := hx327_10
                have hw327_9 := hx327_9
                have hw327_8 := hx327_8
                have hw327_7 := hx327_7
                have hw327_6 := hx327_6
                have hw327_5 := hx327_5
                have hw327_4 := hx327_4
                have hw327_3 := hx327_3
                have hw327_2 := hx327_2
                have hw327_1 := hx327_1
                have hw327_0 := hx327_0
                cases e327
                replace hx327_0 := (HB.out.cell (World.block_lt_of_cell? w _ hx327_0)).trans hx327_0
                replace hx327_1 := (HB.out.cell (World.block_lt_of_cell? w _ hx327_1)).trans hx327_1
                replace hx327_2 := (HB.out.cell (World.block_lt_of_cell? w _ hx327_2)).trans hx327_2
                replace hx327_3 := (HB.out.cell (World.block_lt_of_cell? w _ hx327_3)).trans hx327_3
                replace hx327_4 := (HB.out.cell (World.block_lt_of_cell? w _ hx327_4)).trans hx327_4
                replace hx327_5 := (HB.out.cell (World.block_lt_of_cell? w _ hx327_5)).trans hx327_5
                replace hx327_6 := (HB.out.cell (World.block_lt_of_cell? w _ hx327_6)).trans hx327_6
                replace hx327_7 := (HB.out.cell (World.block_lt_of_cell? w _ hx327_7)).trans hx327_7
                replace hx327_8 := (HB.out.cell (World.block_lt_of_cell? w _ hx327_8)).trans hx327_8
                replace hx327_9 := (HB.out.cell (World.block_lt_of_cell? w _ hx327_9)).trans hx327_9
                replace hx327_10 := (HB.out.cell (World.block_lt_of_cell? w _ hx327_10)).trans hx327_10
                replace hx327_11 := (HB.out.cell (World.block_lt_of_cell? w _ hx327_11)).trans hx327_11
                replace hx327_12 := (HB.out.cell (World.block_lt_of_cell? w _ hx327_12)).trans hx327_12
                replace hx327_13 := (HB.out.cell (World.block_lt_of_cell? w _ hx327_13)).trans hx327_13
                replace hx327_14 := (HB.out.cell (World.block_lt_of_cell? w _ hx327_14)).trans hx327_14
                replace hx327_15 := (HB.out.cell (World.block_lt_of_cell? w _ hx327_15)).trans hx327_15
                replace hx327_16 := (HB.out.cell (World.block_lt_of_cell? w _ hx327_16)).trans hx327_16
                replace hx327_17 := (HB.out.cell (World.block_lt_of_cell? w _ hx327_17)).trans hx327_17
                replace hx327_18 := (HB.out.cell (World.block_lt_of_cell? w _ hx327_18)).trans hx327_18
                replace hx327_19 := (HB.out.cell (World.block_lt_of_cell? w _ hx327_19)).trans hx327_19
                replace hx327_20 := (HB.out.cell (World.block_lt_of_cell? w _ hx327_20)).trans hx327_20
                replace hx327_21 := (HB.out.cell (World.block_lt_of_cell? w _ hx327_21)).trans hx327_21
                replace hx327_22 := (HB.out.cell (World.block_lt_of_cell? w _ hx327_22)).trans hx327_22
                replace hx327_23 := (HB.out.cell (World.block_lt_of_cell? w _ hx327_23)).trans hx327_23
                replace hx327_24 := (HB.out.cell (World.block_lt_of_cell? w _ hx327_24)).trans hx327_24
                replace hx327_25 := (HB.out.cell (World.block_lt_of_cell? w _ hx327_25)).trans hx327_25
                replace hx327_26 := (HB.out.cell (World.block_lt_of_cell? w _ hx327_26)).trans hx327_26
                replace hx327_27 := (HB.out.cell (World.block_lt_of_cell? w _ hx327_27)).trans hx327_27
                replace hx327_28 := (HB.out.cell (World.block_lt_of_cell? w _ hx327_28)).trans hx327_28
                replace hx327_29 := (HB.out.cell (World.block_lt_of_cell? w _ hx327_29)).trans hx327_29
                replace hx327_30 := (HB.out.cell (World.block_lt_of_cell? w _ hx327_30)).trans hx327_30
                replace hx327_31 := (HB.out.cell (World.block_lt_of_cell? w _ hx327_31)).trans hx327_31
                replace hx327_32 := (HB.out.cell (World.block_lt_of_cell? w _ hx327_32)).trans hx327_32
                replace p327 := eq_true p327
                replace q327 := eq_true q327
                have p328 : 0 ≤ (x9_2 : Int) := of_decide_eq_true (by first | (with_reducible assumption) | assumption)
                have q328 : x9_2 < (l0.length : Int) := of_decide_eq_true (by first | (with_reducible assumption) | assumption)
                obtain ⟨ad328, e328, hx328_0, hx328_1, hx328_2, hx328_3, hx328_4, hx328_5, hx328_6, hx328_7, hx328_8, hx328_9, hx328_10, hx328_11, hx328_12, hx328_13, hx328_14, hx328_15, hx328_16, hx328_17, hx328_18, hx328_19, hx328_20, hx328_21, hx328_22, hx328_23, hx328_24, hx328_25, hx328_26, hx328_27, hx328_28, hx328_29, hx328_30, hx328_31, hx328_32⟩ := at_T25 HR0.out x9_2 p328 q328
                have hw328_0_32 := Go.Proofs.YtmoecidfmgeafaaDoor.Wide.mk32 hx328_0 hx328_1 hx328_2 hx328_3 hx328_4 hx328_5 hx328_6 hx328_7 hx328_8 hx328_9 hx328_10 hx328_11 hx328_12 hx328_13 hx328_14 hx328_15 hx328_16 hx328_17 hx328_18 hx328_19 hx328_20 hx328_21 hx328_22 hx328_23 hx328_24 hx328_25 hx328_26 hx328_27 hx328_28 hx328_29 hx328_30 hx328_31
                have hw328_0_33 := Go.Proofs.YtmoecidfmgeafaaDoor.Wide.mk33 hx328_0 hx328_1 hx328_2 hx328_3 hx328_4 hx328_5 hx328_6 hx328_7 hx328_8 hx328_9 hx328_10 hx328_11 hx328_12 hx328_13 hx328_14 hx328_15 hx328_16 hx328_17 hx328_18 hx328_19 hx328_20 hx328_21 hx328_22 hx328_23 hx328_24 hx328_25 hx328_26 hx328_27 hx328_28 hx328_29 hx328_30 hx328_31 hx328_32
                have hw328_32 := hx328_32
                have hw328_31 := hx328_31
                have hw328_30 := hx328_30
                have hw328_29 := hx328_29
                have hw328_28 := hx328_28
                have hw328_27 := hx328_27
                have hw328_26 := hx328_26
                have hw328_25 := hx328_25
                have hw328_24 := hx328_24
                have hw328_23 := hx328_23
                have hw328_22 := hx328_22
                have hw328_21 := hx328_21
                have hw328_20 := hx328_20
                have hw328_19 := hx328_19
                have hw328_18 := hx328_18
                have hw328_17 := hx328_17
                have hw328_16 := hx328_16
                have hw328_15 := hx328_15
                have hw328_14 := hx328_14
                have hw328_13 := hx328_13
                have hw328_12 := hx328_12
                have hw328_11 := hx328_11
                have hw328_10 := hx328_10
                have hw328_9 := hx328_9
                have hw328_8 := hx328_8
                have hw328_7 := hx328_7
                have hw328_6 := hx328_6
                have hw328_5 := hx328_5
                have hw328_4 := hx328_4
                have hw328_3 := hx328_3
                have hw328_2 := hx328_2
                have hw328_1 := hx328_1
                have hw328_0 := hx328_0
                obtain rfl : ad327 = ad328 := (by injection e328)
                replace hx328_0 := (HB.out.cell (World.block_lt_of_cell? w _ hx328_0)).trans hx328_0
                replace hx328_1 := (HB.out.cell (World.block_lt_of_cell? w _ hx328_1)).trans hx328_1
                replace hx328_2 := (HB.out.cell (World.block_lt_of_cell? w _ hx328_2)).trans hx328_2
                replace hx328_3 := (HB.out.cell (World.block_lt_of_cell? w _ hx328_3)).trans hx328_3
                replace hx328_4 := (HB.out.cell (World.block_lt_of_cell? w _ hx328_4)).trans hx328_4
                replace hx328_5 := (HB.out.cell (World.block_lt_of_cell? w _ hx328_5)).trans hx328_5
                replace hx328_6 := (HB.out.cell (World.block_lt_of_cell? w _ hx328_6)).trans hx328_6
                replace hx328_7 := (HB.out.cell (World.block_lt_of_cell? w _ hx328_7)).trans hx328_7
                replace hx328_8 := (HB.out.cell (World.block_lt_of_cell? w _ hx328_8)).trans hx328_8
                replace hx328_9 := (HB.out.cell (World.block_lt_of_cell? w _ hx328_9)).trans hx328_9
                replace hx328_10 := (HB.out.cell (World.block_lt_of_cell? w _ hx328_10)).trans hx328_10
                replace hx328_11 := (HB.out.cell (World.block_lt_of_cell? w _ hx328_11)).trans hx328_11
                replace hx328_12 := (HB.out.cell (World.block_lt_of_cell? w _ hx328_12)).trans hx328_12
                replace hx328_13 := (HB.out.cell (World.block_lt_of_cell? w _ hx328_13)).trans hx328_13
                replace hx328_14 := (HB.out.cell (World.block_lt_of_cell? w _ hx328_14)).trans hx328_14
                replace hx328_15 := (HB.out.cell (World.block_lt_of_cell? w _ hx328_15)).trans hx328_15
                replace hx328_16 := (HB.out.cell (World.block_lt_of_cell? w _ hx328_16)).trans hx328_16
                replace hx328_17 := (HB.out.cell (World.block_lt_of_cell? w _ hx328_17)).trans hx328_17
                replace hx328_18 := (HB.out.cell (World.block_lt_of_cell? w _ hx328_18)).trans hx328_18
                replace hx328_19 := (HB.out.cell (World.block_lt_of_cell? w _ hx328_19)).trans hx328_19
                replace hx328_20 := (HB.out.cell (World.block_lt_of_cell? w _ hx328_20)).trans hx328_20
                replace hx328_21 := (HB.out.cell (World.block_lt_of_cell? w _ hx328_21)).trans hx328_21
                replace hx328_22 := (HB.out.cell (World.block_lt_of_cell? w _ hx328_22)).trans hx328_22
                replace hx328_23 := (HB.out.cell (World.block_lt_of_cell? w _ hx328_23)).trans hx328_23
                replace hx328_24 := (HB.out.cell (World.block_lt_of_cell? w _ hx328_24)).trans hx328_24
                replace hx328_25 := (HB.out.cell (World.block_lt_of_cell? w _ hx328_25)).trans hx328_25
                replace hx328_26 := (HB.out.cell (World.block_lt_of_cell? w _ hx328_26)).trans hx328_26
                replace hx328_27 := (HB.out.cell (World.block_lt_of_cell? w _ hx328_27)).trans hx328_27
                replace hx328_28 := (HB.out.cell (World.block_lt_of_cell? w _ hx328_28)).trans hx328_28
                replace hx328_29 := (HB.out.cell (World.block_lt_of_cell? w _ hx328_29)).trans hx328_29
                replace hx328_30 := (HB.out.cell (World.block_lt_of_cell? w _ hx328_30)).trans hx328_30
                replace hx328_31 := (HB.out.cell (World.block_lt_of_cell? w _ hx328_31)).trans hx328_31
                replace hx328_32 := (HB.out.cell (World.block_lt_of_cell? w _ hx328_32)).trans hx328_32
                replace p328 := eq_true p328
                replace q328 := eq_true q328
                refine start_ (n := 25) (S := fun w' => Go.Proofs.YtmoecidfmgeafaaDoor.Wide.cellsAt w' (ad326.add ((x8_2).toNat * 33)) 33 = some (.int .u8 ((rd_T25 t305 x8_2).f0.f0) :: .int .u8 ((rd_T25 t305 x8_2).f0.f1) :: .int .u8 ((rd_T25 t305 x8_2).f0.f2) :: .int .u8 ((rd_T25 t305 x8_2).f0.f3) :: .int .u8 ((rd_T25 t305 x8_2).f0.f4) :: .int .u8 ((rd_T25 t305 x8_2).f0.f5) :: .int .u8 ((rd_T25 t305 x8_2).f0.f6) :: .int .u8 ((rd_T25 t305 x8_2).f0.f7) :: .int .u8 ((rd_T25 t305 x8_2).f0.f8) :: .int .u8 ((rd_T25 t305 x8_2).f0.f9) :: .int .u8 ((rd_T25 t305 x8_2).f0.f10) :: .int .u8 ((rd_T25 t305 x8_2).f0.f11) :: .int .u8 ((rd_T25 t305 x8_2).f0.f12) :: .int .u8 ((rd_T25 t305 x8_2).f0.f13) :: .int .u8 ((rd_T25 t305 x8_2).f0.f14) :: .int .u8 ((rd_T25 t305 x8_2).f0.f15) :: .int .u8 ((rd_T25 t305 x8_2).f0.f16) :: .int .u8 ((rd_T25 t305 x8_2).f0.f17) :: .int .u8 ((rd_T25 t305 x8_2).f0.f18) :: .int .u8 ((rd_T25 t305 x8_2).f0.f19) :: .int .u8 ((rd_T25 t305 x8_2).f0.f20) :: .int .u8 ((rd_T25 t305 x8_2).f0.f21) :: .int .u8 ((rd_T25 t305 x8_2).f0.f22) :: .int .u8 ((rd_T25 t305 x8_2).f0.f23) :: .int .u8 ((rd_T25 t305 x8_2).f0.f24) :: .int .u8 ((rd_T25 t305 x8_2).f0.f25) :: .int .u8 ((rd_T25 t305 x8_2).f0.f26) :: .int .u8 ((rd_T25 t305 x8_2).f0.f27) :: .int .u8 ((rd_T25 t305 x8_2).f0.f28) :: .int .u8 ((rd_T25 t305 x8_2).f0.f29) :: .int .u8 ((rd_T25 t305 x8_2).f0.f30) :: .int .u8 ((rd_T25 t305 x8_2).f0.f31) :: .int .i64 ((rd_T25 t305 x8_2).f1) :: []) ∧ Go.Proofs.YtmoecidfmgeafaaDoor.Wide.cellsAt w' (ad327.add ((x9_2).toNat * 33)) 33 = some (.int .u8 ((rd_T25 l0 x9_2).f0.f0) :: .int .u8 ((rd_T25 l0 x9_2).f0.f1) :: .int .u8 ((rd_T25 l0 x9_2).f0.f2) :: .int .u8 ((rd_T25 l0 x9_2).f0.f3) :: .int .u8 ((rd_T25 l0 x9_2).f0.f4) :: .int .u8 ((rd_T25 l0 x9_2).f0.f5) :: .int .u8 ((rd_T25 l0 x9_2).f0.f6) :: .int .u8 ((rd_T25 l0 x9_2).f0.f7) :: .int .u8 ((rd_T25 l0 x9_2).f0.f8) :: .int .u8 ((rd_T25 l0 x9_2).f0.f9) :: .int .u8 ((rd_T25 l0 x9_2).f0.f10) :: .int .u8 ((rd_T25 l0 x9_2).f0.f11) :: .int .u8 ((rd_T25 l0 x9_2).f0.f12) :: .int .u8 ((rd_T25 l0 x9_2).f0.f13) :: .int .u8 ((rd_T25 l0 x9_2).f0.f14) :: .int .u8 ((rd_T25 l0 x9_2).f0.f15) :: .int .u8 ((rd_T25 l0 x9_2).f0.f16) :: .int .u8 ((rd_T25 l0 x9_2).f0.f17) :: .int .u8 ((rd_T25 l0 x9_2).f0.f18) :: .int .u8 ((rd_T25 l0 x9_2).f0.f19) :: .int .u8 ((rd_T25 l0 x9_2).f0.f20) :: .int .u8 ((rd_T25 l0 x9_2).f0.f21) :: .int .u8 ((rd_T25 l0 x9_2).f0.f22) :: .int .u8 ((rd_T25 l0 x9_2).f0.f23) :: .int .u8 ((rd_T25 l0 x9_2).f0.f24) :: .int .u8 ((rd_T25 l0 x9_2).f0.f25) :: .int .u8 ((rd_T25 l0 x9_2).f0.f26) :: .int .u8 ((rd_T25 l0 x9_2).f0.f27) :: .int .u8 ((rd_T25 l0 x9_2).f0.f28) :: .int .u8 ((rd_T25 l0 x9_2).f0.f29) :: .int .u8 ((rd_T25 l0 x9_2).f0.f30) :: .int .u8 ((rd_T25 l0 x9_2).f0.f31) :: .int .i64 ((rd_T25 l0 x9_2).f1) :: [])) (ds := []) #[false, false, false, false, false, false, false, false, false, false, false, false, false, false, false, false, false, false, false, false, false, false, false, false, false] (by kernel_rfl) rfl rfl ⟨Go.Proofs.YtmoecidfmgeafaaDoor.Wide.mk33 hx326_0 hx326_1 hx326_2 hx326_3 hx326_4 hx326_5 hx326_6 hx326_7 hx326_8 hx326_9 hx326_10 hx326_11 hx326_12 hx326_13 hx326_14 hx326_15 hx326_16 hx326_17 hx326_18 hx326_19 hx326_20 hx326_21 hx326_22 hx326_23 hx326_24 hx326_25 hx326_26 hx326_27 hx326_28 hx326_29 hx326_30 hx326_31 hx326_32, Go.Proofs.YtmoecidfmgeafaaDoor.Wide.mk33 (((HB.out.cell (World.block_lt_of_cell? w _ hw327_0)).trans hw327_0)) (((HB.out.cell (World.block_lt_of_cell? w _ hw327_1)).trans hw327_1)) (((HB.out.cell (World.block_lt_of_cell? w _ hw327_2)).trans hw327_2)) (((HB.out.cell (World.block_lt_of_cell? w _ hw327_3)).trans hw327_3)) (((HB.out.cell (World.block_lt_of_cell? w _ hw327_4)).trans hw327_4)) (((HB.out.cell (World.block_lt_of_cell? w _ hw327_5)).trans hw327_5)) (((HB.out.cell (World.block_lt_of_cell? w _ hw327_6)).trans hw327_6)) (((HB.out.cell (World.block_lt_of_cell? w _ hw327_7)).trans hw327_7)) (((HB.out.cell (World.block_lt_of_cell? w _ hw327_8)).trans hw327_8)) (((HB.out.cell (World.block_lt_of_cell? w _ hw327_9)).trans hw327_9)) (((HB.out.cell (World.block_lt_of_cell? w _ hw327_10)).trans hw327_10)) (((HB.out.cell (World.block_lt_of_cell? w _ hw327_11)).trans hw327_11)) (((HB.out.cell (World.block_lt_of_cell? w _ hw327_12)).trans hw327_12)) (((HB.out.cell (World.block_lt_of_cell? w _ hw327_13)).trans hw327_13)) (((HB.out.cell (World.block_lt_of_cell? w _ hw327_14)).trans hw327_14)) (((HB.out.cell (World.block_lt_of_cell? w _ hw327_15)).trans hw327_15)) (((HB.out.cell (World.block_lt_of_cell? w _ hw327_16)).trans hw327_16)) (((HB.out.cell (World.block_lt_of_cell? w _ hw327_17)).trans hw327_17)) (((HB.out.cell (World.block_lt_of_cell? w _ hw327_18)).trans hw327_18)) (((HB.out.cell (World.block_lt_of_cell? w _ hw327_19)).trans hw327_19)) (((HB.out.cell (World.block_lt_of_cell? w _ hw327_20)).trans hw327_20)) (((HB.out.cell (World.block_lt_of_cell? w _ hw327_21)).trans hw327_21)) (((HB.out.cell (World.block_lt_of_cell? w _ hw327_22)).trans hw327_22)) (((HB.out.cell (World.block_lt_of_cell? w _ hw327_23)).trans hw327_23)) (((HB.out.cell (World.block_lt_of_cell? w _ hw327_24)).trans hw327_24)) (((HB.out.cell (World.block_lt_of_cell? w _ hw327_25)).trans hw327_25)) (((HB.out.cell (World.block_lt_of_cell? w _ hw327_26)).trans hw327_26)) (((HB.out.cell (World.block_lt_of_cell? w _ hw327_27)).trans hw327_27)) (((HB.out.cell (World.block_lt_of_cell? w _ hw327_28)).trans hw327_28)) (((HB.out.cell (World.block_lt_of_cell? w _ hw327_29)).trans hw327_29)) (((HB.out.cell (World.block_lt_of_cell? w _ hw327_30)).trans hw327_30)) (((HB.out.cell (World.block_lt_of_cell? w _ hw327_31)).trans hw327_31)) (((HB.out.cell (World.block_lt_of_cell? w _ hw327_32)).trans hw327_32))⟩ (fun hHeld => ?_); refine with_tabW coraclelaw3_PointParts.tab11 coraclelaw3_PointParts.bits11 (fun HT_ HW_ => ?_)
                generalize wc.drew = w37 at HO_5 HO_6 HB hx326_0 hx326_1 hx326_10 hx326_11 hx326_12 hx326_13 hx326_14 hx326_15 hx326_16 hx326_17 hx326_18 hx326_19 hx326_2 hx326_20 hx326_21 hx326_22 hx326_23 hx326_24 hx326_25 hx326_26 hx326_27 hx326_28 hx326_29 hx326_3 hx326_30 hx326_31 hx326_32 hx326_4 hx326_5 hx326_6 hx326_7 hx326_8 hx326_9 hx327_0 hx327_1 hx327_10 hx327_11 hx327_12 hx327_13 hx327_14 hx327_15 hx327_16 hx327_17 hx327_18 hx327_19 hx327_2 hx327_20 hx327_21 hx327_22 hx327_23 hx327_24 hx327_25 hx327_26 hx327_27 hx327_28 hx327_29 hx327_3 hx327_30 hx327_31 hx327_32 hx327_4 hx327_5 hx327_6 hx327_7 hx327_8 hx327_9 hx328_0 hx328_1 hx328_10 hx328_11 hx328_12 hx328_13 hx328_14 hx328_15 hx328_16 hx328_17 hx328_18 hx328_19 hx328_2 hx328_20 hx328_21 hx328_22 hx328_23 hx328_24 hx328_25 hx328_26 hx328_27 hx328_28 hx328_29 hx328_3 hx328_30 hx328_31 hx328_32 hx328_4 hx328_5 hx328_6 hx328_7 hx328_8 hx328_9 hHeld ⊢
                refine pure_ (i := 0) (N := some 58) (v := ?_) (a' := ?_) #[true, false, false, false, false, false, false, false, false, false, false, false, false, false, false, false, false, false, false, false, false, false, false, false, false] rfl rfl (any_of HT_.out (by kernel_rfl)) (fun _ _ _ h => h) (Or.inl ⟨by rfl, ?_⟩) ?_ ?_
                rotate_left
                ·
                 intro w'
                 go_simp
                 with_reducible rfl
                rotate_left
                ·
                 simp only [Act.put, List.setIfInBounds_toArray, List.set_cons_zero, List.set_cons_succ, i64_w, i32_w]
                 rfl
                refine pure_ (i := 1) (N := some 59) (v := ?_) (a' := ?_) #[true, true, false, false, false, false, false, false, false, false, false, false, false, false, false, false, false, false, false, false, false, false, false, false, false] rfl rfl (any_of HT_.out (by kernel_rfl)) (fun _ _ _ h => h) (Or.inl ⟨by rfl, ?_⟩) ?_ ?_
                rotate_left
                ·
                 intro w'
                 go_simp
                 with_reducible rfl
                rotate_left
                ·
                 simp only [Act.put, List.setIfInBounds_toArray, List.set_cons_zero, List.set_cons_succ, i64_w, i32_w]
                 rfl
                refine pure_ (i := 2) (N := some 60) (v := ?_) (a' := ?_) #[true, true, true, false, false, false, false, false, false, false, false, false, false, false, false, false, false, false, false, false, false, false, false, false, false] rfl rfl (any_of HT_.out (by kernel_rfl)) (fun _ _ _ h => h) (Or.inl ⟨by rfl, ?_⟩) ?_ ?_
                rotate_left
                ·
                 intro w'
                 go_simp
                 with_reducible rfl
                rotate_left
                ·
                 simp only [Act.put, List.setIfInBounds_toArray, List.set_cons_zero, List.set_cons_succ, i64_w, i32_w]
                 rfl
                refine pure_ (i := 3) (N := some 61) (v := ?_) (a' := ?_) #[true, true, true, true, false, false, false, false, false, false, false, false, false, false, false, false, false, false, false, false, false, false, false, false, false] rfl rfl (any_of HT_.out (by kernel_rfl)) (fun _ _ _ h => h) (Or.inl ⟨by rfl, ?_⟩) ?_ ?_
                rotate_left
                ·
                 intro w'
                 go_simp
                 with_reducible rfl
                rotate_left
                ·
                 simp only [Act.put, List.setIfInBounds_toArray, List.set_cons_zero, List.set_cons_succ, i64_w, i32_w]
                 rfl
                refine pure_ (i := 4) (N := some 62) (v := ?_) (a' := ?_) #[true, true, true, true, true, false, false, false, false, false, false, false, false, false, false, false, false, false, false, false, false, false, false, false, false] rfl rfl (any_of HT_.out (by kernel_rfl)) (fun _ _ _ h => h) (Or.inl ⟨by rfl, ?_⟩) ?_ ?_
                rotate_left
                ·
                 intro w'
                 go_simp
                 with_reducible rfl
                rotate_left
                ·
                 simp only [Act.put, List.setIfInBounds_toArray, List.set_cons_zero, List.set_cons_succ, i64_w, i32_w]
                 rfl
                refine pure_ (i := 5) (N := some 63) (v := ?_) (a' := ?_) #[true, true, true, true, true, true, false, false, false, false, false, false, false, false, false, false, false, false, false, false, false, false, false, false, false] rfl rfl (any_of HT_.out (by kernel_rfl)) (fun _ _ _ h => h) (Or.inl ⟨by rfl, ?_⟩) ?_ ?_
                rotate_left
                ·
                 intro w'
                 go_simp
                 with_reducible rfl
                rotate_left
                ·
                 simp only [Act.put, List.setIfInBounds_toArray, List.set_cons_zero, List.set_cons_succ, i64_w, i32_w]
                 rfl
                refine pure_ (i := 6) (N := some 64) (v := ?_) (a' := ?_) #[true, true, true, true, true, true, true, false, false, false, false, false, false, false, false, false, false, false, false, false, false, false, false, false, false] rfl rfl (any_of HT_.out (by kernel_rfl)) (fun _ _ _ h => h) (Or.inl ⟨by rfl, ?_⟩) ?_ ?_
                rotate_left
                ·
                 intro w'
                 go_simp
                 with_reducible rfl
                rotate_left
                ·
                 simp only [Act.put, List.setIfInBounds_toArray, List.set_cons_zero, List.set_cons_succ, i64_w, i32_w]
                 rfl
                refine pure_ (i := 7) (N := some 65) (v := ?_) (a' := ?_) #[true, true, true, true, true, true, true, true, false, false, false, false, false, false, false, false, false, false, false, false, false, false, false, false, false] rfl rfl (any_of HT_.out (by kernel_rfl)) (fun _ _ _ h => h) (Or.inl ⟨by rfl, ?_⟩) ?_ ?_
                rotate_left
                ·
                 intro w'
                 go_simp
                 with_reducible rfl
                rotate_left
                ·
                 simp only [Act.put, List.setIfInBounds_toArray, List.set_cons_zero, List.set_cons_succ, i64_w, i32_w]
                 rfl
                refine pure_ (i := 9) (N := some 67) (v := ?_) (a' := ?_) #[true, true, true, true, true, true, true, true, false, true, false, false, false, false, false, false, false, false, false, false, false, false, false, false, false] rfl rfl (any_of HT_.out (by kernel_rfl)) (fun _ _ _ h => h) (Or.inl ⟨by rfl, ?_⟩) ?_ ?_
                rotate_left
                ·
                 intro w'
                 go_simp
                 with_reducible rfl
                rotate_left
                ·
                 simp only [Act.put, List.setIfInBounds_toArray, List.set_cons_zero, List.set_cons_succ, i64_w, i32_w]
                 rfl
                refine pure_ (i := 10) (N := some 68) (v := ?_) (a' := ?_) #[true, true, true, true, true, true, true, true, false, true, true, false, false, false, false, false, false, false, false, false, false, false, false, false, false] rfl rfl (any_of HT_.out (by kernel_rfl)) (fun _ _ _ h => h) (Or.inl ⟨by rfl, ?_⟩) ?_ ?_
                rotate_left
                ·
                 intro w'
                 go_simp
                 with_reducible rfl
                rotate_left
                ·
                 simp only [Act.put, List.setIfInBounds_toArray, List.set_cons_zero, List.set_cons_succ, i64_w, i32_w]
                 rfl
                refine pure_ (i := 11) (N := some 69) (v := ?_) (a' := ?_) #[true, true, true, true, true, true, true, true, false, true, true, true, false, false, false, false, false, false, false, false, false, false, false, false, false] rfl rfl (any_of HT_.out (by kernel_rfl)) (fun _ _ _ h => h) (Or.inl ⟨by rfl, ?_⟩) ?_ ?_
                rotate_left
                ·
                 intro w'
                 go_simp
                 with_reducible rfl
                rotate_left
                ·
                 simp only [Act.put, List.setIfInBounds_toArray, List.set_cons_zero, List.set_cons_succ, i64_w, i32_w]
                 rfl
                refine take_ (i := 8) (N := some 66) (v := ?_) (a' := ?_) #[true, true, true, true, true, true, true, true, true, true, true, true, false, false, false, false, false, false, false, false, false, false, false, false, false] rfl rfl (take_ofW HT_.out HW_.out (by kernel_rfl)) (fun _ _ _ h => h) (Or.inl ⟨by rfl, ?_⟩) hHeld ?_ ?_
                rotate_left
                ·
                 rintro w' ⟨s0, s1⟩
                 go_simp
                 with_reducible rfl
                rotate_left
                ·
                 simp only [Act.put, List.setIfInBounds_toArray, List.set_cons_zero, List.set_cons_succ, i64_w, i32_w]
                 rfl
                refine take_ (i := 12) (N := some 70) (v := ?_) (a' := ?_) #[true, true, true, true, true, true, true, true, true, true, true, true, true, false, false, false, false, false, false, false, false, false, false, false, false] rfl rfl (take_ofW HT_.out HW_.out (by kernel_rfl)) (fun _ _ _ h => h) (Or.inl ⟨by rfl, ?_⟩) hHeld ?_ ?_
                rotate_left
                ·
                 rintro w' ⟨s0, s1⟩
                 go_simp
                 with_reducible rfl
                rotate_left
                ·
                 simp only [Act.put, List.setIfInBounds_toArray, List.set_cons_zero, List.set_cons_succ, i64_w, i32_w]
                 rfl
                refine pure_ (i := 13) (N := some 71) (v := ?_) (a' := ?_) #[true, true, true, true, true, true, true, true, true, true, true, true, true, true, false, false, false, false, false, false, false, false, false, false, false] rfl rfl (any_of HT_.out (by kernel_rfl)) (fun _ _ _ h => h) (Or.inl ⟨by rfl, ?_⟩) ?_ ?_
                rotate_left
                ·
                 intro w'
                 go_simp
                 with_reducible rfl
                rotate_left
                ·
                 simp only [Act.put, List.setIfInBounds_toArray, List.set_cons_zero, List.set_cons_succ, i64_w, i32_w]
                 rfl
                refine pure_ (i := 14) (N := some 72) (v := ?_) (a' := ?_) #[true, true, true, true, true, true, true, true, true, true, true, true, true, true, true, false, false, false, false, false, false, false, false, false, false] rfl rfl (any_of HT_.out (by kernel_rfl)) (fun _ _ _ h => h) (Or.inl ⟨by rfl, ?_⟩) ?_ ?_
                rotate_left
                ·
                 intro w'
                 go_simp
                 with_reducible rfl
                rotate_left
                ·
                 simp only [Act.put, List.setIfInBounds_toArray, List.set_cons_zero, List.set_cons_succ, i64_w, i32_w]
                 rfl
                refine pure_ (i := 15) (N := some 73) (v := ?_) (a' := ?_) #[true, true, true, true, true, true, true, true, true, true, true, true, true, true, true, true, false, false, false, false, false, false, false, false, false] rfl rfl (any_of HT_.out (by kernel_rfl)) (fun _ _ _ h => h) (Or.inl ⟨by rfl, ?_⟩) ?_ ?_
                rotate_left
                ·
                 intro w'
                 go_simp
                 with_reducible rfl
                rotate_left
                ·
                 simp only [Act.put, List.setIfInBounds_toArray, List.set_cons_zero, List.set_cons_succ, i64_w, i32_w]
                 rfl
                refine pure_ (i := 16) (N := some 74) (v := ?_) (a' := ?_) #[true, true, true, true, true, true, true, true, true, true, true, true, true, true, true, true, true, false, false, false, false, false, false, false, false] rfl rfl (any_of HT_.out (by kernel_rfl)) (fun _ _ _ h => h) (Or.inl ⟨by rfl, ?_⟩) ?_ ?_
                rotate_left
                ·
                 intro w'
                 go_simp
                 with_reducible rfl
                rotate_left
                ·
                 simp only [Act.put, List.setIfInBounds_toArray, List.set_cons_zero, List.set_cons_succ, i64_w, i32_w]
                 rfl
                refine pure_ (i := 17) (N := some 75) (v := ?_) (a' := ?_) #[true, true, true, true, true, true, true, true, true, true, true, true, true, true, true, true, true, true, false, false, false, false, false, false, false] rfl rfl (any_of HT_.out (by kernel_rfl)) (fun _ _ _ h => h) (Or.inl ⟨by rfl, ?_⟩) ?_ ?_
                rotate_left
                ·
                 intro w'
                 go_simp
                 with_reducible rfl
                rotate_left
                ·
                 simp only [Act.put, List.setIfInBounds_toArray, List.set_cons_zero, List.set_cons_succ, i64_w, i32_w]
                 rfl
                refine pure_ (i := 18) (N := some 76) (v := ?_) (a' := ?_) #[true, true, true, true, true, true, true, true, true, true, true, true, true, true, true, true, true, true, true, false, false, false, false, false, false] rfl rfl (any_of HT_.out (by kernel_rfl)) (fun _ _ _ h => h) (Or.inl ⟨by rfl, ?_⟩) ?_ ?_
                rotate_left
                ·
                 intro w'
                 go_simp
                 with_reducible rfl
                rotate_left
                ·
                 simp only [Act.put, List.setIfInBounds_toArray, List.set_cons_zero, List.set_cons_succ, i64_w, i32_w]
                 rfl
                refine pure_ (i := 19) (N := some 77) (v := ?_) (a' := ?_) #[true, true, true, true, true, true, true, true, true, true, true, true, true, true, true, true, true, true, true, true, false, false, false, false, false] rfl rfl (any_of HT_.out (by kernel_rfl)) (fun _ _ _ h => h) (Or.inl ⟨by rfl, ?_⟩) ?_ ?_
                rotate_left
                ·
                 intro w'
                 go_simp
                 with_reducible rfl
                rotate_left
                ·
                 simp only [Act.put, List.setIfInBounds_toArray, List.set_cons_zero, List.set_cons_succ, i64_w, i32_w]
                 rfl
                refine take_ (i := 20) (N := some 78) (v := ?_) (a' := ?_) #[true, true, true, true, true, true, true, true, true, true, true, true, true, true, true, true, true, true, true, true, true, false, false, false, false] rfl rfl (take_ofW HT_.out HW_.out (by kernel_rfl)) (fun _ _ _ h => h) (Or.inl ⟨by rfl, ?_⟩) hHeld ?_ ?_
                rotate_left
                ·
                 rintro w' ⟨s0, s1⟩
                 go_simp
                 with_reducible rfl
                rotate_left
                ·
                 simp only [Act.put, List.setIfInBounds_toArray, List.set_cons_zero, List.set_cons_succ, i64_w, i32_w]
                 rfl
                refine one_ (i := 21) (N := some 79) #[true, true, true, true, true, true, true, true, true, true, true, true, true, true, true, true, true, true, true, true, true, true, false, false, false] rfl rfl (one_of HT_.out (by kernel_rfl)) (by decide) (fun K hK => ?_)
                refine goes_ Tryd.func20 (by kernel_rfl) rfl #[.slice A1 l1.length c1, .agg #[.int .u8 ((rd_T25 l0 x9_2).f0.f0), .int .u8 ((rd_T25 l0 x9_2).f0.f1), .int .u8 ((rd_T25 l0 x9_2).f0.f2), .int .u8 ((rd_T25 l0 x9_2).f0.f3), .int .u8 ((rd_T25 l0 x9_2).f0.f4), .int .u8 ((rd_T25 l0 x9_2).f0.f5), .int .u8 ((rd_T25 l0 x9_2).f0.f6), .int .u8 ((rd_T25 l0 x9_2).f0.f7), .int .u8 ((rd_T25 l0 x9_2).f0.f8), .int .u8 ((rd_T25 l0 x9_2).f0.f9), .int .u8 ((rd_T25 l0 x9_2).f0.f10), .int .u8 ((rd_T25 l0 x9_2).f0.f11), .int .u8 ((rd_T25 l0 x9_2).f0.f12), .int .u8 ((rd_T25 l0 x9_2).f0.f13), .int .u8 ((rd_T25 l0 x9_2).f0.f14), .int .u8 ((rd_T25 l0 x9_2).f0.f15), .int .u8 ((rd_T25 l0 x9_2).f0.f16), .int .u8 ((rd_T25 l0 x9_2).f0.f17), .int .u8 ((rd_T25 l0 x9_2).f0.f18), .int .u8 ((rd_T25 l0 x9_2).f0.f19), .int .u8 ((rd_T25 l0 x9_2).f0.f20), .int .u8 ((rd_T25 l0 x9_2).f0.f21), .int .u8 ((rd_T25 l0 x9_2).f0.f22), .int .u8 ((rd_T25 l0 x9_2).f0.f23), .int .u8 ((rd_T25 l0 x9_2).f0.f24), .int .u8 ((rd_T25 l0 x9_2).f0.f25), .int .u8 ((rd_T25 l0 x9_2).f0.f26), .int .u8 ((rd_T25 l0 x9_2).f0.f27), .int .u8 ((rd_T25 l0 x9_2).f0.f28), .int .u8 ((rd_T25 l0 x9_2).f0.f29), .int .u8 ((rd_T25 l0 x9_2).f0.f30), .int .u8 ((rd_T25 l0 x9_2).f0.f31), .int .i64 ((rd_T25 l0 x9_2).f1)]] (by rfl) rfl rfl (by (try simp only [List.map_toArray, List.map_cons, List.map_nil]); first | done | rfl | (simp only [List.length_drop, List.length_take]; rfl)) ?_
                with_reducible refine (point_Has.calls kj12 _ _ l1 ((rd_T25 l0 x9_2).f0.f0) ((rd_T25 l0 x9_2).f0.f1) ((rd_T25 l0 x9_2).f0.f2) ((rd_T25 l0 x9_2).f0.f3) ((rd_T25 l0 x9_2).f0.f4) ((rd_T25 l0 x9_2).f0.f5) ((rd_T25 l0 x9_2).f0.f6) ((rd_T25 l0 x9_2).f0.f7) ((rd_T25 l0 x9_2).f0.f8) ((rd_T25 l0 x9_2).f0.f9) ((rd_T25 l0 x9_2).f0.f10) ((rd_T25 l0 x9_2).f0.f11) ((rd_T25 l0 x9_2).f0.f12) ((rd_T25 l0 x9_2).f0.f13) ((rd_T25 l0 x9_2).f0.f14) ((rd_T25 l0 x9_2).f0.f15) ((rd_T25 l0 x9_2).f0.f16) ((rd_T25 l0 x9_2).f0.f17) ((rd_T25 l0 x9_2).f0.f18) ((rd_T25 l0 x9_2).f0.f19) ((rd_T25 l0 x9_2).f0.f20) ((rd_T25 l0 x9_2).f0.f21) ((rd_T25 l0 x9_2).f0.f22) ((rd_T25 l0 x9_2).f0.f23) ((rd_T25 l0 x9_2).f0.f24) ((rd_T25 l0 x9_2).f0.f25) ((rd_T25 l0 x9_2).f0.f26) ((rd_T25 l0 x9_2).f0.f27) ((rd_T25 l0 x9_2).f0.f28) ((rd_T25 l0 x9_2).f0.f29) ((rd_T25 l0 x9_2).f0.f30) ((rd_T25 l0 x9_2).f0.f31) ((rd_T25 l0 x9_2).f1) false _ ?side1 ?side2 A32.out).mono ?_
                (case side1 => repeat (first | exact (Kd.C_below HR1.out HB.out) | (with_reducible refine Kd.C_alloc ?_ _) | (with_reducible refine Kd.C_drewN ?_ _) | (with_reducible refine Kd.C_drew ?_)))
                (case side2 => exact HC1.out)
                rintro e w39 ⟨rfl, hb⟩
                have HS0_ := Go.Proofs.YtmoecidfmgeafaaDoor.Wide.cells_below hb 33 0 _ (hHeld.1)
                refine ⟨_, rfl, ?_⟩
                have n0_ := Aside0.mk (Kd.R_below (by (with_reducible repeat (first | apply Kd.R_alloc | apply Kd.R_drewN | apply Kd.R_drew)); exact HO_5.out) hb)
                have n1_ := Aside0.mk (Kd.R_below (by (with_reducible repeat (first | apply Kd.R_alloc | apply Kd.R_drewN | apply Kd.R_drew)); exact HO_6.out) hb)
                have n2_ := Aside0.mk (below_step (by repeat (first | (with_reducible first | exact HB.out | apply below_alloc | apply pw_below_drewN | apply below_drew1) | exact HB.out)) hb)
                clear HO_5
                clear HO_6
                clear HB
                have HO_5 := n0_
                have HO_6 := n1_
                have HB := n2_
                clear n0_ n1_ n2_
                (try clear hb)
                (try clear hb2)
                (try clear hk)
                (try clear hi)
                refine hK.out _ _ ⟨HS0_, Go.Proofs.YtmoecidfmgeafaaDoor.Wide.mk33 (((HB.out.cell (World.block_lt_of_cell? w _ hw327_0)).trans hw327_0)) (((HB.out.cell (World.block_lt_of_cell? w _ hw327_1)).trans hw327_1)) (((HB.out.cell (World.block_lt_of_cell? w _ hw327_2)).trans hw327_2)) (((HB.out.cell (World.block_lt_of_cell? w _ hw327_3)).trans hw327_3)) (((HB.out.cell (World.block_lt_of_cell? w _ hw327_4)).trans hw327_4)) (((HB.out.cell (World.block_lt_of_cell? w _ hw327_5)).trans hw327_5)) (((HB.out.cell (World.block_lt_of_cell? w _ hw327_6)).trans hw327_6)) (((HB.out.cell (World.block_lt_of_cell? w _ hw327_7)).trans hw327_7)) (((HB.out.cell (World.block_lt_of_cell? w _ hw327_8)).trans hw327_8)) (((HB.out.cell (World.block_lt_of_cell? w _ hw327_9)).trans hw327_9)) (((HB.out.cell (World.block_lt_of_cell? w _ hw327_10)).trans hw327_10)) (((HB.out.cell (World.block_lt_of_cell? w _ hw327_11)).trans hw327_11)) (((HB.out.cell (World.block_lt_of_cell? w _ hw327_12)).trans hw327_12)) (((HB.out.cell (World.block_lt_of_cell? w _ hw327_13)).trans hw327_13)) (((HB.out.cell (World.block_lt_of_cell? w _ hw327_14)).trans hw327_14)) (((HB.out.cell (World.block_lt_of_cell? w _ hw327_15)).trans hw327_15)) (((HB.out.cell (World.block_lt_of_cell? w _ hw327_16)).trans hw327_16)) (((HB.out.cell (World.block_lt_of_cell? w _ hw327_17)).trans hw327_17)) (((HB.out.cell (World.block_lt_of_cell? w _ hw327_18)).trans hw327_18)) (((HB.out.cell (World.block_lt_of_cell? w _ hw327_19)).trans hw327_19)) (((HB.out.cell (World.block_lt_of_cell? w _ hw327_20)).trans hw327_20)) (((HB.out.cell (World.block_lt_of_cell? w _ hw327_21)).trans hw327_21)) (((HB.out.cell (World.block_lt_of_cell? w _ hw327_22)).trans hw327_22)) (((HB.out.cell (World.block_lt_of_cell? w _ hw327_23)).trans hw327_23)) (((HB.out.cell (World.block_lt_of_cell? w _ hw327_24)).trans hw327_24)) (((HB.out.cell (World.block_lt_of_cell? w _ hw327_25)).trans hw327_25)) (((HB.out.cell (World.block_lt_of_cell? w _ hw327_26)).trans hw327_26)) (((HB.out.cell (World.block_lt_of_cell? w _ hw327_27)).trans hw327_27)) (((HB.out.cell (World.block_lt_of_cell? w _ hw327_28)).trans hw327_28)) (((HB.out.cell (World.block_lt_of_cell? w _ hw327_29)).trans hw327_29)) (((HB.out.cell (World.block_lt_of_cell? w _ hw327_30)).trans hw327_30)) (((HB.out.cell (World.block_lt_of_cell? w _ hw327_31)).trans hw327_31)) (((HB.out.cell (World.block_lt_of_cell? w _ hw327_32)).trans hw327_32))⟩ (fun hHeld => ?_)
                clear hK K
                refine norm_ (a' := ?_) ?_ ?_
                rotate_left
                ·
                 show Act.put _ (some 79) _ = _
                 simp only [Act.put, List.setIfInBounds_toArray, List.set_cons_zero, List.set_cons_succ, i64_w, i32_w]
                 rfl
                refine pure_ (i := 22) (N := some 80) (v := ?_) (a' := ?_) #[true, true, true, true, true, true, true, true, true, true, true, true, true, true, true, true, true, true, true, true, true, true, true, false, false] rfl rfl (any_of HT_.out (by kernel_rfl)) (fun _ _ _ h => h) (Or.inl ⟨by rfl, ?_⟩) ?_ ?_
                rotate_left
                ·
                 intro w'
                 go_simp
                 with_reducible rfl
                rotate_left
                ·
                 simp only [Act.put, List.setIfInBounds_toArray, List.set_cons_zero, List.set_cons_succ, i64_w, i32_w]
                 rfl
                refine pure_ (i := 23) (N := some 81) (v := ?_) (a' := ?_) #[true, true, true, true, true, true, true, true, true, true, true, true, true, true, true, true, true, true, true, true, true, true, true, true, false] rfl rfl (any_of HT_.out (by kernel_rfl)) (fun _ _ _ h => h) (Or.inl ⟨by rfl, ?_⟩) ?_ ?_
                rotate_left
                ·
                 intro w'
                 go_simp
                 with_reducible rfl
                rotate_left
                ·
                 simp only [Act.put, List.setIfInBounds_toArray, List.set_cons_zero, List.set_cons_succ, i64_w, i32_w]
                 rfl
                refine pure_ (i := 24) (N := some 57) (v := ?_) (a' := ?_) #[true, true, true, true, true, true, true, true, true, true, true, true, true, true, true, true, true, true, true, true, true, true, true, true, true] rfl rfl (any_of HT_.out (by kernel_rfl)) (fun _ _ _ h => h) (Or.inl ⟨by rfl, ?_⟩) ?_ ?_
                rotate_left
                ·
                 intro w'
                 go_simp
                 with_reducible rfl
                rotate_left
                ·
                 simp only [Act.put, List.setIfInBounds_toArray, List.set_cons_zero, List.set_cons_succ, i64_w, i32_w]
                 rfl
                refine done_ (done_of HT_.out (by kernel_rfl)) ?_
                try go_wp2
                go_roundg kj12
                case measure => have := HJ2.out; have := HK2.out; have := HJ12.out; omega
                case rel => exact ⟨(x7_2), (wrap64 (x8_2 + 1)), (wrap64 (x9_2 + 1)), (by first | rfl | (simp; done) | (simp [*]; done)), (by first | rfl | (simp; done) | (simp [*]; done)), (by first | rfl | (simp; done) | (simp [*]; done)), H', ⟨by have := HJ2.out; have := HK2.out; have := HJ12.out; omega⟩, ⟨by (with_reducible repeat (first | apply Kd.R_alloc | apply Kd.R_drewN | apply Kd.R_drew)); exact HO_5.out⟩, ⟨by (with_reducible repeat (first | apply Kd.R_alloc | apply Kd.R_drewN | apply Kd.R_drew)); exact HO_6.out⟩, ⟨by repeat (first | (with_reducible first | exact HB.out | apply below_alloc | apply pw_below_drewN | apply below_drew1) | exact HB.out)⟩⟩
              ·
               rw [if_neg c31] at H
               exact absurd (H.trans (congrArg some HTOLD.out)) (by decide)
             ·
              rw [if_neg c30] at H
              exact absurd H (by simp)
            ·
             rw [if_neg c29] at H
             exact absurd H (by simp)
           ·
            rw [if_neg c28] at H
            exact absurd H (by simp)
          ·
           rw [if_neg c27] at H
           exact absurd (H.trans (congrArg some HTOLD.out)) (by decide)
      ·
       rw [if_neg c12] at H
       have c12b0 : decide (x9_2 < (l0.length : Int)) = false := decide_eq_false c12
       clear c12
       by_cases c44 : x7_2 = (t302.length : Int)
       ·
        rw [if_pos c44] at H
        have c44b0 : (x7_2 == (t302.length : Int)) = true := beq_iff_eq.mpr c44
        have c44b1 : (x7_2 != (t302.length : Int)) = false := bne_eq_false_iff_eq.mpr c44
        clear c44
        by_cases c45 : x8_2 = (t305.length : Int)
        ·
         rw [if_pos c45] at H
         have c45b0 : (x8_2 == (t305.length : Int)) = true := beq_iff_eq.mpr c45
         have c45b1 : (x8_2 != (t305.length : Int)) = false := bne_eq_false_iff_eq.mpr c45
         clear c45
         obtain ⟨y308, hy308⟩ : ∃ y_ : List (S25), y_ = (([] : List (S25))) := ⟨_, rfl⟩
         replace H : (if y308.length + t302.length < 3518437208883 then ((some (y308 ++ t302 : List (S25))).bind fun y311 => (if y311.length + t305.length < 3518437208883 then ((point_Alike.f k2 (y311 ++ t305) l0).bind fun t317 => (if t317 = true then ((point_Both.f k2 t305 l1).bind fun t318 => (if (t318.length : Int) = 0 then ((coraclelaw3_awake.f).bind fun t321 => (some t321)) else (some false))) else (some false))) else (none))) else (none)) = some r := by first | (rw [hy308]; with_reducible exact H) | (have H2_ := (Option.bind_some _ _).symm.trans H; rw [hy308]; with_reducible exact H2_) | (have H2_ := (Option.bind_some _ _).symm.trans H; with_reducible exact H2_) | with_reducible exact H | (rw [hy308]; exact H) | exact H
         have Ny308 := Aside0.mk hy308
         clear hy308
         by_cases c46 : y308.length + t302.length < 3518437208883
         ·
          rw [if_pos c46] at H
          have LMc46 := Aside0.mk c46
          clear c46
          obtain ⟨y311, hy311⟩ : ∃ y_ : List (S25), y_ = (y308 ++ t302) := ⟨_, rfl⟩
          replace H : (if y311.length + t305.length < 3518437208883 then ((point_Alike.f k2 (y311 ++ t305) l0).bind fun t317 => (if t317 = true then ((point_Both.f k2 t305 l1).bind fun t318 => (if (t318.length : Int) = 0 then ((coraclelaw3_awake.f).bind fun t321 => (some t321)) else (some false))) else (some false))) else (none)) = some r := by first | (rw [hy311]; with_reducible exact H) | (have H2_ := (Option.bind_some _ _).symm.trans H; rw [hy311]; with_reducible exact H2_) | (have H2_ := (Option.bind_some _ _).symm.trans H; with_reducible exact H2_) | with_reducible exact H | (rw [hy311]; exact H) | exact H
          have Ny311 := Aside0.mk hy311
          clear hy311
          by_cases c47 : y311.length + t305.length < 3518437208883
          ·
           rw [if_pos c47] at H
           have LMc47 := Aside0.mk c47
           clear c47
           obtain ⟨y314, hy314⟩ : ∃ y_ : List (S25), y_ = (y311 ++ t305) := ⟨_, rfl⟩
           replace H : ((point_Alike.f k2 y314 l0).bind fun t317 => (if t317 = true then ((point_Both.f k2 t305 l1).bind fun t318 => (if (t318.length : Int) = 0 then ((coraclelaw3_awake.f).bind fun t321 => (some t321)) else (some false))) else (some false))) = some r := by first | (rw [hy314]; with_reducible exact H) | (have H2_ := (Option.bind_some _ _).symm.trans H; rw [hy314]; with_reducible exact H2_) | (have H2_ := (Option.bind_some _ _).symm.trans H; with_reducible exact H2_) | with_reducible exact H | (rw [hy314]; exact H) | exact H
           have Ny314 := Aside0.mk hy314
           clear hy314
           replace H := Option.bind_eq_some_iff.mp H
           obtain ⟨t317, A480, H⟩ := H
           replace H : (if t317 = true then ((point_Both.f k2 t305 l1).bind fun t318 => (if (t318.length : Int) = 0 then ((coraclelaw3_awake.f).bind fun t321 => (some t321)) else (some false))) else (some false)) = some r := H
           have A48 := Aside0.mk A480
           clear A480
           by_cases c49 : t317 = true
           ·
            subst c49
            have H1 : ((point_Both.f k2 t305 l1).bind fun t318 => (if (t318.length : Int) = 0 then ((coraclelaw3_awake.f).bind fun t321 => (some t321)) else (some false))) = some r := by rw [if_pos rfl] at H; exact H
            clear H
            have H := H1
            clear H1
            replace H := Option.bind_eq_some_iff.mp H
            obtain ⟨t318, A500, H⟩ := H
            replace H : (if (t318.length : Int) = 0 then ((coraclelaw3_awake.f).bind fun t321 => (some t321)) else (some false)) = some r := H
            have A50 := Aside0.mk A500
            clear A500
            by_cases c51 : (t318.length : Int) = 0
            ·
             rw [if_pos c51] at H
             have c51b0 : ((t318.length : Int) == 0) = true := beq_iff_eq.mpr c51
             have c51b1 : ((t318.length : Int) != 0) = false := bne_eq_false_iff_eq.mpr c51
             clear c51
             replace H := Option.bind_eq_some_iff.mp H
             obtain ⟨t321, A520, H⟩ := H
             replace H : (some t321) = some r := H
             have A52 := Aside0.mk A520
             clear A520
             obtain rfl := Option.some.inj H
             obtain ⟨Ao53, co53, eo53⟩ := Kd.R_slice HO_5.out
             subst eo53
             obtain ⟨Ao54, co54, eo54⟩ := Kd.R_slice HO_6.out
             subst eo54
             go_wp2_with (first | ((with_reducible refine gate_dst (N := 95) rfl ?_); (try (refine gate_guard (by rfl) ?_; dsimp only)); refine Kd.R_lit k25 _ 25 ?hg (N := 95) ?hd (xs := ([] : List (S25))) (inner := []) (ok := fun _ => True) (okp := fun _ => True) ?hr ?hp (fun _ hk => hk) trivial (Below.refl _ _) (Nat.le_refl _) (by simp) ?_; (case hd => rfl); (case hg => rfl); (case hr => first | (go_simp; done) | (go_simp; rfl)); (case hp => exact (Reps.none _ _)); intro v309 w55 ho56 hb hg_ hnew_; clear hg_ hnew_; (first | rw [← Ny308.out] at ho56 | (simp only [Int.reduceToNat] at ho56; rw [← Ny308.out] at ho56)); have n0_ := Aside0.mk (Kd.R_elder' (by (with_reducible repeat (first | apply Kd.R_alloc | apply Kd.R_drewN | apply Kd.R_drew)); exact HO_5.out) (Kd.R_base ho56) hb); have n1_ := Aside0.mk (Kd.R_elder' (by (with_reducible repeat (first | apply Kd.R_alloc | apply Kd.R_drewN | apply Kd.R_drew)); exact HO_6.out) (Kd.R_base ho56) hb); have n2_ := Aside0.mk (Kd.R_lower (Kd.R_new' (Kd.R_new' ho56 (Kd.R_lt (by (with_reducible repeat (first | apply Kd.R_alloc | apply Kd.R_drewN | apply Kd.R_drew)); exact HO_5.out))) (Kd.R_lt (by (with_reducible repeat (first | apply Kd.R_alloc | apply Kd.R_drewN | apply Kd.R_drew)); exact HO_6.out))) (below_size (by repeat (first | (with_reducible first | exact HB.out | apply below_alloc | apply pw_below_drewN | apply below_drew1) | exact HB.out)))); have n3_ := Aside0.mk (below_step (by repeat (first | (with_reducible first | exact HB.out | apply below_alloc | apply pw_below_drewN | apply below_drew1) | exact HB.out)) hb); clear HO_5; clear HO_6; clear HB; have HO_5 := n0_; have HO_6 := n1_; have HO310 := n2_; have HB := n3_; clear n0_ n1_ n2_ n3_; clear hb ho56) | ((with_reducible refine gate_builtin (b := .append) (xs := #[.tmp 95, .tmp 96]) rfl ?_); (try (refine gate_guard (by rfl) ?_; dsimp only)); at_builtin; refine Kd.R_append_rows k25 (w0 := w) w.heap.size rfl (.tmp 95) (.tmp 96) 31 25 (.agg #[(.int .u8 0), (.int .u8 0), (.int .u8 0), (.int .u8 0), (.int .u8 0), (.int .u8 0), (.int .u8 0), (.int .u8 0), (.int .u8 0), (.int .u8 0), (.int .u8 0), (.int .u8 0), (.int .u8 0), (.int .u8 0), (.int .u8 0), (.int .u8 0), (.int .u8 0), (.int .u8 0), (.int .u8 0), (.int .u8 0), (.int .u8 0), (.int .u8 0), (.int .u8 0), (.int .u8 0), (.int .u8 0), (.int .u8 0), (.int .u8 0), (.int .u8 0), (.int .u8 0), (.int .u8 0), (.int .u8 0), (.int .u8 0), (.int .i64 0)]) 40 rfl Tryd.underlying31 info25 rfl (by decide) (by omega) v309 y308 t302 _ _ _ (fun k_ => some k_ ≠ (.slice Ao53 t302.length co53 : Value).ownBlock ∧ some k_ ≠ (.slice Ao54 t305.length co54 : Value).ownBlock) (fun _ => False) rfl rfl ?aO ?aR (fun _ _ h => h) (fun _ h => h.elim) ?aF ?aB ?aS ?aL ?_; (case aR => repeat (first | exact (Kd.R_reads' HO_5.out).2.2 | (with_reducible refine Kd.C_alloc ?_ _) | (with_reducible refine Kd.C_drewN ?_ _) | (with_reducible refine Kd.C_drew ?_))); (case aB => exact (by repeat (first | (with_reducible first | exact HB.out | apply below_alloc | apply pw_below_drewN | apply below_drew1) | exact HB.out))); (case aF => exact (fun k_ hk => ⟨Kd.fresh' (Kd.R_lt (by (with_reducible repeat (first | apply Kd.R_alloc | apply Kd.R_drewN | apply Kd.R_drew)); exact HO_5.out)) k_ hk, Kd.fresh' (Kd.R_lt (by (with_reducible repeat (first | apply Kd.R_alloc | apply Kd.R_drewN | apply Kd.R_drew)); exact HO_6.out)) k_ hk⟩)); (case aO => exact (by (with_reducible repeat (first | apply Kd.R_alloc | apply Kd.R_drewN | apply Kd.R_drew)); exact Kd.R_mono HO310.out (fun _ hk => ⟨hk.1.2, hk.2⟩))); (case aS => exact (below_size (by repeat (first | (with_reducible first | exact HB.out | apply below_alloc | apply pw_below_drewN | apply below_drew1) | exact HB.out)))); (case aL => have := LMc46.out; omega); intro v312 w57 ho hb hg hat; rw [← Ny311.out] at ho; have n0_ := Aside0.mk (Kd.R_after (ok := (fun k_ => some k_ ≠ (.slice Ao54 t305.length co54 : Value).ownBlock)) (by (with_reducible repeat (first | apply Kd.R_alloc | apply Kd.R_drewN | apply Kd.R_drew)); exact HO_5.out) hg hat); have n1_ := Aside0.mk (Kd.R_after (ok := (fun k_ => some k_ ≠ (.slice Ao53 t302.length co53 : Value).ownBlock)) (by (with_reducible repeat (first | apply Kd.R_alloc | apply Kd.R_drewN | apply Kd.R_drew)); exact HO_6.out) hg hat); have n2_ := Aside0.mk (hb); have n3_ := Aside0.mk (ho); clear HO_5; clear HO_6; clear HB; clear HO310; have HO_5 := n0_; have HO_6 := n1_; have HB := n2_; have HO313 := n3_; clear n0_ n1_ n2_ n3_; clear ho hb hg hat) | ((with_reducible refine gate_builtin (b := .append) (xs := #[.tmp 97, .tmp 98]) rfl ?_); (try (refine gate_guard (by rfl) ?_; dsimp only)); at_builtin; refine Kd.R_append_rows k25 (w0 := w) w.heap.size rfl (.tmp 97) (.tmp 98) 31 25 (.agg #[(.int .u8 0), (.int .u8 0), (.int .u8 0), (.int .u8 0), (.int .u8 0), (.int .u8 0), (.int .u8 0), (.int .u8 0), (.int .u8 0), (.int .u8 0), (.int .u8 0), (.int .u8 0), (.int .u8 0), (.int .u8 0), (.int .u8 0), (.int .u8 0), (.int .u8 0), (.int .u8 0), (.int .u8 0), (.int .u8 0), (.int .u8 0), (.int .u8 0), (.int .u8 0), (.int .u8 0), (.int .u8 0), (.int .u8 0), (.int .u8 0), (.int .u8 0), (.int .u8 0), (.int .u8 0), (.int .u8 0), (.int .u8 0), (.int .i64 0)]) 40 rfl Tryd.underlying31 info25 rfl (by decide) (by omega) v312 y311 t305 _ _ _ (fun k_ => some k_ ≠ (.slice Ao53 t302.length co53 : Value).ownBlock ∧ some k_ ≠ (.slice Ao54 t305.length co54 : Value).ownBlock) (fun _ => False) rfl rfl ?aO ?aR (fun _ _ h => h) (fun _ h => h.elim) ?aF ?aB ?aS ?aL ?_; (case aR => repeat (first | exact (Kd.R_reads' HO_6.out).2.2 | (with_reducible refine Kd.C_alloc ?_ _) | (with_reducible refine Kd.C_drewN ?_ _) | (with_reducible refine Kd.C_drew ?_))); (case aB => exact (by repeat (first | (with_reducible first | exact HB.out | apply below_alloc | apply pw_below_drewN | apply below_drew1) | exact HB.out))); (case aF => exact (fun k_ hk => ⟨Kd.fresh' (Kd.R_lt (by (with_reducible repeat (first | apply Kd.R_alloc | apply Kd.R_drewN | apply Kd.R_drew)); exact HO_5.out)) k_ hk, Kd.fresh' (Kd.R_lt (by (with_reducible repeat (first | apply Kd.R_alloc | apply Kd.R_drewN | apply Kd.R_drew)); exact HO_6.out)) k_ hk⟩)); (case aO => exact (by (with_reducible repeat (first | apply Kd.R_alloc | apply Kd.R_drewN | apply Kd.R_drew)); exact HO313.out)); (case aS => exact (below_size (by repeat (first | (with_reducible first | exact HB.out | apply below_alloc | apply pw_below_drewN | apply below_drew1) | exact HB.out)))); (case aL => have := LMc47.out; omega); intro v315 w58 ho hb hg hat; rw [← Ny314.out] at ho; have n0_ := Aside0.mk (Kd.R_after (ok := (fun k_ => some k_ ≠ (.slice Ao54 t305.length co54 : Value).ownBlock)) (by (with_reducible repeat (first | apply Kd.R_alloc | apply Kd.R_drewN | apply Kd.R_drew)); exact HO_5.out) hg hat); have n1_ := Aside0.mk (Kd.R_after (ok := (fun k_ => some k_ ≠ (.slice Ao53 t302.length co53 : Value).ownBlock)) (by (with_reducible repeat (first | apply Kd.R_alloc | apply Kd.R_drewN | apply Kd.R_drew)); exact HO_6.out) hg hat); have n2_ := Aside0.mk (hb); have n3_ := Aside0.mk (ho); clear HO_5; clear HO_6; clear HB; clear HO313; have HO_5 := n0_; have HO_6 := n1_; have HB := n2_; have HO316 := n3_; clear n0_ n1_ n2_ n3_; clear ho hb hg hat; obtain ⟨Ao59, co59, eo59⟩ := Kd.R_slice HO316.out; subst eo59) | (go_at_call 18; (with_reducible refine (point_Alike.calls k2 _ _ y314 _ _ l0 true _ ?side1 ?side2 ?side3 ?side4 A48.out).mono ?_); (case side1 => repeat (first | exact (Kd.R_reads' HO316.out).2.2 | (with_reducible refine Kd.C_alloc ?_ _) | (with_reducible refine Kd.C_drewN ?_ _) | (with_reducible refine Kd.C_drew ?_))); (case side2 => exact (Kd.R_reads' HO316.out).2.1); (case side3 => repeat (first | exact (Kd.C_below HR0.out HB.out) | (with_reducible refine Kd.C_alloc ?_ _) | (with_reducible refine Kd.C_drewN ?_ _) | (with_reducible refine Kd.C_drew ?_))); (case side4 => exact HC0.out); rintro e w60 ⟨rfl, hb⟩; have n0_ := Aside0.mk (Kd.R_below (by (with_reducible repeat (first | apply Kd.R_alloc | apply Kd.R_drewN | apply Kd.R_drew)); exact HO_5.out) hb); have n1_ := Aside0.mk (Kd.R_below (by (with_reducible repeat (first | apply Kd.R_alloc | apply Kd.R_drewN | apply Kd.R_drew)); exact HO_6.out) hb); have n2_ := Aside0.mk (Kd.R_below (by (with_reducible repeat (first | apply Kd.R_alloc | apply Kd.R_drewN | apply Kd.R_drew)); exact HO316.out) hb); have n3_ := Aside0.mk (below_step (by repeat (first | (with_reducible first | exact HB.out | apply below_alloc | apply pw_below_drewN | apply below_drew1) | exact HB.out)) hb); clear HO_5; clear HO_6; clear HO316; clear HB; have HO_5 := n0_; have HO_6 := n1_; have HO316 := n2_; have HB := n3_; clear n0_ n1_ n2_ n3_; (try clear hb); (try clear hb2); (try clear hk); (try clear hi)) | (go_at_call 16; (with_reducible refine (point_Both.calls k2 _ _ t305 _ _ l1 t318 _ ?side1 ?side2 ?side3 ?side4 A50.out).mono ?_); (case side1 => repeat (first | exact (Kd.R_reads' HO_6.out).2.2 | (with_reducible refine Kd.C_alloc ?_ _) | (with_reducible refine Kd.C_drewN ?_ _) | (with_reducible refine Kd.C_drew ?_))); (case side2 => exact (Kd.R_reads' HO_6.out).2.1); (case side3 => repeat (first | exact (Kd.C_below HR1.out HB.out) | (with_reducible refine Kd.C_alloc ?_ _) | (with_reducible refine Kd.C_drewN ?_ _) | (with_reducible refine Kd.C_drew ?_))); (case side4 => exact HC1.out); rintro e w61 ⟨v319, rfl, ho0, hb⟩; have n0_ := Aside0.mk (Kd.R_elder' (by (with_reducible repeat (first | apply Kd.R_alloc | apply Kd.R_drewN | apply Kd.R_drew)); exact HO_5.out) (Kd.R_base ho0) hb); have n1_ := Aside0.mk (Kd.R_elder' (by (with_reducible repeat (first | apply Kd.R_alloc | apply Kd.R_drewN | apply Kd.R_drew)); exact HO_6.out) (Kd.R_base ho0) hb); have n2_ := Aside0.mk (Kd.R_elder' (by (with_reducible repeat (first | apply Kd.R_alloc | apply Kd.R_drewN | apply Kd.R_drew)); exact HO316.out) (Kd.R_base ho0) hb); have n3_ := Aside0.mk (Kd.R_lower (Kd.R_new' (Kd.R_new' (Kd.R_new' ho0 (Kd.R_lt (by (with_reducible repeat (first | apply Kd.R_alloc | apply Kd.R_drewN | apply Kd.R_drew)); exact HO_5.out))) (Kd.R_lt (by (with_reducible repeat (first | apply Kd.R_alloc | apply Kd.R_drewN | apply Kd.R_drew)); exact HO_6.out))) (Kd.R_lt (by (with_reducible repeat (first | apply Kd.R_alloc | apply Kd.R_drewN | apply Kd.R_drew)); exact HO316.out))) (below_size (by repeat (first | (with_reducible first | exact HB.out | apply below_alloc | apply pw_below_drewN | apply below_drew1) | exact HB.out)))); have n4_ := Aside0.mk (below_step (by repeat (first | (with_reducible first | exact HB.out | apply below_alloc | apply pw_below_drewN | apply below_drew1) | exact HB.out)) hb); clear HO_5; clear HO_6; clear HO316; clear HB; have HO_5 := n0_; have HO_6 := n1_; have HO316 := n2_; have HO320 := n3_; have HB := n4_; clear n0_ n1_ n2_ n3_ n4_; (try clear hb); (try clear hb2); (try clear hk); (try clear hi); (try clear ho0); obtain ⟨Ao62, co62, eo62⟩ := Kd.R_slice HO320.out; subst eo62) | (go_at_call 7; (with_reducible refine (coraclelaw3_awake.calls  t321 _ A52.out).mono ?_); rintro e w63 ⟨rfl, hb⟩; have n0_ := Aside0.mk (Kd.R_below (by (with_reducible repeat (first | apply Kd.R_alloc | apply Kd.R_drewN | apply Kd.R_drew)); exact HO_5.out) hb); have n1_ := Aside0.mk (Kd.R_below (by (with_reducible repeat (first | apply Kd.R_alloc | apply Kd.R_drewN | apply Kd.R_drew)); exact HO_6.out) hb); have n2_ := Aside0.mk (Kd.R_below (by (with_reducible repeat (first | apply Kd.R_alloc | apply Kd.R_drewN | apply Kd.R_drew)); exact HO316.out) hb); have n3_ := Aside0.mk (Kd.R_below (by (with_reducible repeat (first | apply Kd.R_alloc | apply Kd.R_drewN | apply Kd.R_drew)); exact HO320.out) hb); have n4_ := Aside0.mk (below_step (by repeat (first | (with_reducible first | exact HB.out | apply below_alloc | apply pw_below_drewN | apply below_drew1) | exact HB.out)) hb); clear HO_5; clear HO_6; clear HO316; clear HO320; clear HB; have HO_5 := n0_; have HO_6 := n1_; have HO316 := n2_; have HO320 := n3_; have HB := n4_; clear n0_ n1_ n2_ n3_ n4_; (try clear hb); (try clear hb2); (try clear hk); (try clear hi)))
             go_ret
             exact ⟨by first | rfl | (simp [errW_none, errW_some] <;> rfl) | (simp [*, errW_none, errW_some] <;> rfl), by repeat (first | (with_reducible first | exact HB.out | apply below_alloc | apply pw_below_drewN | apply below_drew1) | exact HB.out)⟩
            ·
             rw [if_neg c51] at H
             exact absurd (H.trans (congrArg some HTOLD.out)) (by decide)
           ·
            replace c49 := Bool.eq_false_iff.mpr c49
            subst c49
            have H1 : (some false) = some r := by rw [if_neg (show ¬ (false = true) by decide)] at H; exact H
            exact absurd (H1.trans (congrArg some HTOLD.out)) (by decide)
          ·
           rw [if_neg c47] at H
           exact absurd H (by simp)
         ·
          rw [if_neg c46] at H
          exact absurd H (by simp)
        ·
         rw [if_neg c45] at H
         have c45b0 : (x8_2 == (t305.length : Int)) = false := beq_eq_false_iff_ne.mpr c45
         have c45b1 : (x8_2 != (t305.length : Int)) = true := bne_iff_ne.mpr c45
         obtain rfl := Option.some.inj H
         obtain ⟨Ao82, co82, eo82⟩ := Kd.R_slice HO_5.out
         subst eo82
         obtain ⟨Ao83, co83, eo83⟩ := Kd.R_slice HO_6.out
         subst eo83
         go_wp2
         go_ret
         exact ⟨by first | rfl | (simp [errW_none, errW_some] <;> rfl) | (simp [*, errW_none, errW_some] <;> rfl), by repeat (first | (with_reducible first | exact HB.out | apply below_alloc | apply pw_below_drewN | apply below_drew1) | exact HB.out)⟩
       ·
        rw [if_neg c44] at H
        have c44b0 : (x7_2 == (t302.length : Int)) = false := beq_eq_false_iff_ne.mpr c44
        have c44b1 : (x7_2 != (t302.length : Int)) = true := bne_iff_ne.mpr c44
        obtain rfl := Option.some.inj H
        obtain ⟨Ao84, co84, eo84⟩ := Kd.R_slice HO_5.out
        subst eo84
        go_wp2
        go_ret
        exact ⟨by first | rfl | (simp [errW_none, errW_some] <;> rfl) | (simp [*, errW_none, errW_some] <;> rfl), by repeat (first | (with_reducible first | exact HB.out | apply below_alloc | apply pw_below_drewN | apply below_drew1) | exact HB.out)⟩

end Go.Proofs.YtmoecidfmgeafaaDoor.QPnt
