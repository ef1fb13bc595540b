/- Functions of the program as plain Lean functions, and that its calls come to what these tell: written by a program of this session; Lean checks it. -/
import Derived.Test.YtmoecidfmgeafaaDoorQPntx0
import Derived.Test.YtmoecidfmgeafaaDoorQPntx2
import Derived.Test.YtmoecidfmgeafaaDoorQPntx3
namespace Go.Proofs.YtmoecidfmgeafaaDoor.QPnt
open Go.RowKit Go.Proofs.YtmoecidfmgeafaaDoorW.PrintWords Go.Proofs.YtmoecidfmgeafaaDoorW.PrintLast Go.Proofs.YtmoecidfmgeafaaDoorW.PrintMore
attribute [local go_sem] max2_int min2_int max_two min_two max_three min_three max_four min_four  run_fop run_feq run_fne run_flt run_fle run_fgt run_fge run_fint run_toi run_real' run_imag' run_complex' run_ceq run_cne run_cadd run_csub run_cmul Go.Proofs.YtmoecidfmgeafaaDoor.Wide.cellsAt_drewN Go.Proofs.YtmoecidfmgeafaaDoor.Wide.cellsAt_drew Go.Proofs.YtmoecidfmgeafaaDoor.Wide.lw32 Go.Proofs.YtmoecidfmgeafaaDoor.Wide.lw33
attribute [local go_sem ↓ high] Go.Proofs.YtmoecidfmgeafaaDoor.Wide.hv32 Go.Proofs.YtmoecidfmgeafaaDoor.Wide.hv33
set_option linter.unusedVariables false
set_option linter.unusedSimpArgs false

attribute [local go_sem high] eqA25
/-! ### api_Outpoint: function 38 -/
def api_Outpoint.l0 : Nat → List (S25) → List (S25) → Int → Int → Option (Bool)
  | 0, _, _, _, _ => none
  | k + 1, x0, x1, x12, x13 => if x13 < x12 then (if 0 ≤ x13 then (if x13 < (x0.length : Int) then (if x13 < (x1.length : Int) then (if ((!(((rd_T25 x0 x13).f0.f0) == ((rd_T25 x1 x13).f0.f0)) || (!(((rd_T25 x0 x13).f0.f1) == ((rd_T25 x1 x13).f0.f1)) || (!(((rd_T25 x0 x13).f0.f2) == ((rd_T25 x1 x13).f0.f2)) || (!(((rd_T25 x0 x13).f0.f3) == ((rd_T25 x1 x13).f0.f3)) || (!(((rd_T25 x0 x13).f0.f4) == ((rd_T25 x1 x13).f0.f4)) || (!(((rd_T25 x0 x13).f0.f5) == ((rd_T25 x1 x13).f0.f5)) || (!(((rd_T25 x0 x13).f0.f6) == ((rd_T25 x1 x13).f0.f6)) || (!(((rd_T25 x0 x13).f0.f7) == ((rd_T25 x1 x13).f0.f7)) || (!(((rd_T25 x0 x13).f0.f8) == ((rd_T25 x1 x13).f0.f8)) || (!(((rd_T25 x0 x13).f0.f9) == ((rd_T25 x1 x13).f0.f9)) || (!(((rd_T25 x0 x13).f0.f10) == ((rd_T25 x1 x13).f0.f10)) || (!(((rd_T25 x0 x13).f0.f11) == ((rd_T25 x1 x13).f0.f11)) || (!(((rd_T25 x0 x13).f0.f12) == ((rd_T25 x1 x13).f0.f12)) || (!(((rd_T25 x0 x13).f0.f13) == ((rd_T25 x1 x13).f0.f13)) || (!(((rd_T25 x0 x13).f0.f14) == ((rd_T25 x1 x13).f0.f14)) || (!(((rd_T25 x0 x13).f0.f15) == ((rd_T25 x1 x13).f0.f15)) || (!(((rd_T25 x0 x13).f0.f16) == ((rd_T25 x1 x13).f0.f16)) || (!(((rd_T25 x0 x13).f0.f17) == ((rd_T25 x1 x13).f0.f17)) || (!(((rd_T25 x0 x13).f0.f18) == ((rd_T25 x1 x13).f0.f18)) || (!(((rd_T25 x0 x13).f0.f19) == ((rd_T25 x1 x13).f0.f19)) || (!(((rd_T25 x0 x13).f0.f20) == ((rd_T25 x1 x13).f0.f20)) || (!(((rd_T25 x0 x13).f0.f21) == ((rd_T25 x1 x13).f0.f21)) || (!(((rd_T25 x0 x13).f0.f22) == ((rd_T25 x1 x13).f0.f22)) || (!(((rd_T25 x0 x13).f0.f23) == ((rd_T25 x1 x13).f0.f23)) || (!(((rd_T25 x0 x13).f0.f24) == ((rd_T25 x1 x13).f0.f24)) || (!(((rd_T25 x0 x13).f0.f25) == ((rd_T25 x1 x13).f0.f25)) || (!(((rd_T25 x0 x13).f0.f26) == ((rd_T25 x1 x13).f0.f26)) || (!(((rd_T25 x0 x13).f0.f27) == ((rd_T25 x1 x13).f0.f27)) || (!(((rd_T25 x0 x13).f0.f28) == ((rd_T25 x1 x13).f0.f28)) || (!(((rd_T25 x0 x13).f0.f29) == ((rd_T25 x1 x13).f0.f29)) || (!(((rd_T25 x0 x13).f0.f30) == ((rd_T25 x1 x13).f0.f30)) || (!(((rd_T25 x0 x13).f0.f31) == ((rd_T25 x1 x13).f0.f31)))))))))))))))))))))))))))))))))) || (!(((rd_T25 x0 x13).f1) == ((rd_T25 x1 x13).f1)))) = true then (some false) else (api_Outpoint.l0 k x0 x1 x12 (wrap64 (x13 + 1)))) else (none)) else (none)) else (none)) else (some true)
def api_Outpoint.f (k : Nat) (l0 : List (S25)) (l1 : List (S25)) : Option (Bool) := if (l0.length : Int) = (l1.length : Int) then (api_Outpoint.l0 k l0 l1 (l0.length : Int) 0) else (some false)
theorem api_Outpoint.mono_l : ∀ k, (∀ y0 y1 y2 y3, LeO (api_Outpoint.l0 k y0 y1 y2 y3) (api_Outpoint.l0 (k + 1) y0 y1 y2 y3))
  | 0 => fun _ _ _ _ r h => by simp [api_Outpoint.l0] at h
  | k + 1 => by
    have ih0 := api_Outpoint.mono_l k
    · intro y0 y1 y2 y3
      unfold api_Outpoint.l0
      repeat' first
      | (with_reducible exact ih0 _ _ _ _)
      | (with_reducible exact LeO.refl _)
      | (with_reducible exact LeO.none _)
      | (with_reducible refine LeO.ite ?_ ?_)
      | (with_reducible refine LeO.bind ?_ (fun _ => ?_))
      | exact ih0 _ _ _ _
      | exact LeO.none _
      | refine LeO.ite ?_ ?_
      | refine LeO.bind ?_ (fun _ => ?_)
theorem api_Outpoint.mono : ∀ a0 a1 k, LeO (api_Outpoint.f k a0 a1) (api_Outpoint.f (k + 1) a0 a1) := by
  intro a0 a1 k
  have ih0 := api_Outpoint.mono_l k
  unfold api_Outpoint.f
  repeat' first
      | (with_reducible exact ih0 _ _ _ _)
      | (with_reducible exact LeO.refl _)
      | (with_reducible exact LeO.none _)
      | (with_reducible refine LeO.ite ?_ ?_)
      | (with_reducible refine LeO.bind ?_ (fun _ => ?_))
      | exact ih0 _ _ _ _
      | exact LeO.none _
      | refine LeO.ite ?_ ?_
      | refine LeO.bind ?_ (fun _ => ?_)
set_option maxHeartbeats 8000000 in
set_option maxRecDepth 100000 in
theorem api_Outpoint.calls (k : Nat) (A0 : Option Addr) (c0 : Nat) (l0 : List (S25)) (A1 : Option Addr) (c1 : Nat) (l1 : List (S25)) (r : Bool) (w : World) (hr0 : Kd.C k25 w A0 l0.length l0) (hc0 : l0.length ≤ c0) (hr1 : Kd.C k25 w A1 l1.length l1) (hc1 : l1.length ≤ c1) (h : api_Outpoint.f k l0 l1 = some r) :
    Calls Tryd.prog 38 #[.slice A0 l0.length c0, .slice A1 l1.length c1] w fun e w' => e = .returned (.bool r) ∧ Drawn0 w w' := by
  have hu25 := Tryd.underlying25
  have HR0 := Aside0.mk hr0
  have HC0 := Aside0.mk hc0
  clear hr0 hc0
  have HR1 := Aside0.mk hr1
  have HC1 := Aside0.mk hc1
  clear hr1 hc1
  have H : (if (l0.length : Int) = (l1.length : Int) then (api_Outpoint.l0 k l0 l1 (l0.length : Int) 0) else (some false)) = some r := h
  clear h
  by_cases c3 : (l0.length : Int) = (l1.length : Int)
  · rw [if_pos c3] at H
    have c3b0 : ((l0.length : Int) == (l1.length : Int)) = true := beq_iff_eq.mpr c3
    have c3b1 : ((l0.length : Int) != (l1.length : Int)) = false := bne_eq_false_iff_eq.mpr c3
    have c3b2 : (l0.length == l1.length) = true := by first | simpa using c3 | (simp at c3 ⊢; omega)
    clear c3
    have H' := Aside0.mk H
    clear H
    go_enter Tryd.func38, Tryd.ntmps38
    go_wp2
    repeat (go_quiet (fail); try go_wp2)
    go_loopg [13] k (fun kq v13 w' => ∃ (x13_1 : Int), v13 = .int .i64 x13_1 ∧ Aside0 (api_Outpoint.l0 kq l0 l1 (l0.length : Int) x13_1 = some r) ∧ Aside0 (kq ≤ k) ∧ Drawn0 w w')
    case atStart => exact ⟨(0), (by first | rfl | (simp; done) | (simp [*]; done)), H', ⟨Nat.le_refl _⟩, by repeat (first | exact Drawn0.refl _ | apply Drawn0.step)⟩
    case round =>
      clear H'
      try clear c1
      try clear p2
      try clear c3
      try clear c3b0
      try clear c3b1
      try clear c3b2
      obtain ⟨x13_1, rfl, HA, HK1, ⟨m1, rfl⟩⟩ := hrel
      cases gk with
      | zero => exact absurd HA.out (by simp [api_Outpoint.l0])
      | succ k1 =>
        have H := HA.out
        clear HA
        simp only [api_Outpoint.l0] at H
        by_cases c4 : x13_1 < (l0.length : Int)
        · rw [if_pos c4] at H
          have c4b0 : decide (x13_1 < (l0.length : Int)) = true := decide_eq_true c4
          clear c4
          by_cases c5 : 0 ≤ x13_1
          · rw [if_pos c5] at H
            have c5b0 : decide (0 ≤ x13_1) = true := decide_eq_true c5
            clear c5
            by_cases c6 : x13_1 < (l0.length : Int)
            · rw [if_pos c6] at H
              have c6b0 : decide (x13_1 < (l0.length : Int)) = true := decide_eq_true c6
              clear c6
              by_cases c7 : x13_1 < (l1.length : Int)
              · rw [if_pos c7] at H
                have c7b0 : decide (x13_1 < (l1.length : Int)) = true := decide_eq_true c7
                clear c7
                by_cases c8 : ((!(((rd_T25 l0 x13_1).f0.f0) == ((rd_T25 l1 x13_1).f0.f0)) || (!(((rd_T25 l0 x13_1).f0.f1) == ((rd_T25 l1 x13_1).f0.f1)) || (!(((rd_T25 l0 x13_1).f0.f2) == ((rd_T25 l1 x13_1).f0.f2)) || (!(((rd_T25 l0 x13_1).f0.f3) == ((rd_T25 l1 x13_1).f0.f3)) || (!(((rd_T25 l0 x13_1).f0.f4) == ((rd_T25 l1 x13_1).f0.f4)) || (!(((rd_T25 l0 x13_1).f0.f5) == ((rd_T25 l1 x13_1).f0.f5)) || (!(((rd_T25 l0 x13_1).f0.f6) == ((rd_T25 l1 x13_1).f0.f6)) || (!(((rd_T25 l0 x13_1).f0.f7) == ((rd_T25 l1 x13_1).f0.f7)) || (!(((rd_T25 l0 x13_1).f0.f8) == ((rd_T25 l1 x13_1).f0.f8)) || (!(((rd_T25 l0 x13_1).f0.f9) == ((rd_T25 l1 x13_1).f0.f9)) || (!(((rd_T25 l0 x13_1).f0.f10) == ((rd_T25 l1 x13_1).f0.f10)) || (!(((rd_T25 l0 x13_1).f0.f11) == ((rd_T25 l1 x13_1).f0.f11)) || (!(((rd_T25 l0 x13_1).f0.f12) == ((rd_T25 l1 x13_1).f0.f12)) || (!(((rd_T25 l0 x13_1).f0.f13) == ((rd_T25 l1 x13_1).f0.f13)) || (!(((rd_T25 l0 x13_1).f0.f14) == ((rd_T25 l1 x13_1).f0.f14)) || (!(((rd_T25 l0 x13_1).f0.f15) == ((rd_T25 l1 x13_1).f0.f15)) || (!(((rd_T25 l0 x13_1).f0.f16) == ((rd_T25 l1 x13_1).f0.f16)) || (!(((rd_T25 l0 x13_1).f0.f17) == ((rd_T25 l1 x13_1).f0.f17)) || (!(((rd_T25 l0 x13_1).f0.f18) == ((rd_T25 l1 x13_1).f0.f18)) || (!(((rd_T25 l0 x13_1).f0.f19) == ((rd_T25 l1 x13_1).f0.f19)) || (!(((rd_T25 l0 x13_1).f0.f20) == ((rd_T25 l1 x13_1).f0.f20)) || (!(((rd_T25 l0 x13_1).f0.f21) == ((rd_T25 l1 x13_1).f0.f21)) || (!(((rd_T25 l0 x13_1).f0.f22) == ((rd_T25 l1 x13_1).f0.f22)) || (!(((rd_T25 l0 x13_1).f0.f23) == ((rd_T25 l1 x13_1).f0.f23)) || (!(((rd_T25 l0 x13_1).f0.f24) == ((rd_T25 l1 x13_1).f0.f24)) || (!(((rd_T25 l0 x13_1).f0.f25) == ((rd_T25 l1 x13_1).f0.f25)) || (!(((rd_T25 l0 x13_1).f0.f26) == ((rd_T25 l1 x13_1).f0.f26)) || (!(((rd_T25 l0 x13_1).f0.f27) == ((rd_T25 l1 x13_1).f0.f27)) || (!(((rd_T25 l0 x13_1).f0.f28) == ((rd_T25 l1 x13_1).f0.f28)) || (!(((rd_T25 l0 x13_1).f0.f29) == ((rd_T25 l1 x13_1).f0.f29)) || (!(((rd_T25 l0 x13_1).f0.f30) == ((rd_T25 l1 x13_1).f0.f30)) || (!(((rd_T25 l0 x13_1).f0.f31) == ((rd_T25 l1 x13_1).f0.f31)))))))))))))))))))))))))))))))))) || (!(((rd_T25 l0 x13_1).f1) == ((rd_T25 l1 x13_1).f1)))) = true
                · rw [if_pos c8] at H
                  have c8b0 : ((!(((rd_T25 l0 x13_1).f0.f0) == ((rd_T25 l1 x13_1).f0.f0)) || (!(((rd_T25 l0 x13_1).f0.f1) == ((rd_T25 l1 x13_1).f0.f1)) || (!(((rd_T25 l0 x13_1).f0.f2) == ((rd_T25 l1 x13_1).f0.f2)) || (!(((rd_T25 l0 x13_1).f0.f3) == ((rd_T25 l1 x13_1).f0.f3)) || (!(((rd_T25 l0 x13_1).f0.f4) == ((rd_T25 l1 x13_1).f0.f4)) || (!(((rd_T25 l0 x13_1).f0.f5) == ((rd_T25 l1 x13_1).f0.f5)) || (!(((rd_T25 l0 x13_1).f0.f6) == ((rd_T25 l1 x13_1).f0.f6)) || (!(((rd_T25 l0 x13_1).f0.f7) == ((rd_T25 l1 x13_1).f0.f7)) || (!(((rd_T25 l0 x13_1).f0.f8) == ((rd_T25 l1 x13_1).f0.f8)) || (!(((rd_T25 l0 x13_1).f0.f9) == ((rd_T25 l1 x13_1).f0.f9)) || (!(((rd_T25 l0 x13_1).f0.f10) == ((rd_T25 l1 x13_1).f0.f10)) || (!(((rd_T25 l0 x13_1).f0.f11) == ((rd_T25 l1 x13_1).f0.f11)) || (!(((rd_T25 l0 x13_1).f0.f12) == ((rd_T25 l1 x13_1).f0.f12)) || (!(((rd_T25 l0 x13_1).f0.f13) == ((rd_T25 l1 x13_1).f0.f13)) || (!(((rd_T25 l0 x13_1).f0.f14) == ((rd_T25 l1 x13_1).f0.f14)) || (!(((rd_T25 l0 x13_1).f0.f15) == ((rd_T25 l1 x13_1).f0.f15)) || (!(((rd_T25 l0 x13_1).f0.f16) == ((rd_T25 l1 x13_1).f0.f16)) || (!(((rd_T25 l0 x13_1).f0.f17) == ((rd_T25 l1 x13_1).f0.f17)) || (!(((rd_T25 l0 x13_1).f0.f18) == ((rd_T25 l1 x13_1).f0.f18)) || (!(((rd_T25 l0 x13_1).f0.f19) == ((rd_T25 l1 x13_1).f0.f19)) || (!(((rd_T25 l0 x13_1).f0.f20) == ((rd_T25 l1 x13_1).f0.f20)) || (!(((rd_T25 l0 x13_1).f0.f21) == ((rd_T25 l1 x13_1).f0.f21)) || (!(((rd_T25 l0 x13_1).f0.f22) == ((rd_T25 l1 x13_1).f0.f22)) || (!(((rd_T25 l0 x13_1).f0.f23) == ((rd_T25 l1 x13_1).f0.f23)) || (!(((rd_T25 l0 x13_1).f0.f24) == ((rd_T25 l1 x13_1).f0.f24)) || (!(((rd_T25 l0 x13_1).f0.f25) == ((rd_T25 l1 x13_1).f0.f25)) || (!(((rd_T25 l0 x13_1).f0.f26) == ((rd_T25 l1 x13_1).f0.f26)) || (!(((rd_T25 l0 x13_1).f0.f27) == ((rd_T25 l1 x13_1).f0.f27)) || (!(((rd_T25 l0 x13_1).f0.f28) == ((rd_T25 l1 x13_1).f0.f28)) || (!(((rd_T25 l0 x13_1).f0.f29) == ((rd_T25 l1 x13_1).f0.f29)) || (!(((rd_T25 l0 x13_1).f0.f30) == ((rd_T25 l1 x13_1).f0.f30)) || (!(((rd_T25 l0 x13_1).f0.f31) == ((rd_T25 l1 x13_1).f0.f31)))))))))))))))))))))))))))))))))) || (!(((rd_T25 l0 x13_1).f1) == ((rd_T25 l1 x13_1).f1)))) = true := c8
                  clear c8
                  obtain rfl := Option.some.inj H
                  have p249 : 0 ≤ (x13_1 : Int) := of_decide_eq_true (by first | (with_reducible assumption) | assumption)
                  have q249 : x13_1 < (l0.length : Int) := of_decide_eq_true (by first | (with_reducible assumption) | assumption)
                  obtain ⟨ad249, e249, hx249_0, hx249_1, hx249_2, hx249_3, hx249_4, hx249_5, hx249_6, hx249_7, hx249_8, hx249_9, hx249_10, hx249_11, hx249_12, hx249_13, hx249_14, hx249_15, hx249_16, hx249_17, hx249_18, hx249_19, hx249_20, hx249_21, hx249_22, hx249_23, hx249_24, hx249_25, hx249_26, hx249_27, hx249_28, hx249_29, hx249_30, hx249_31, hx249_32⟩ := at_T25 HR0.out x13_1 p249 q249
                  cases e249
                  replace p249 := eq_true p249
                  replace q249 := eq_true q249
                  have hw249_0_32 := Go.Proofs.YtmoecidfmgeafaaDoor.Wide.mk32 hx249_0 hx249_1 hx249_2 hx249_3 hx249_4 hx249_5 hx249_6 hx249_7 hx249_8 hx249_9 hx249_10 hx249_11 hx249_12 hx249_13 hx249_14 hx249_15 hx249_16 hx249_17 hx249_18 hx249_19 hx249_20 hx249_21 hx249_22 hx249_23 hx249_24 hx249_25 hx249_26 hx249_27 hx249_28 hx249_29 hx249_30 hx249_31
                  have hw249_0_33 := Go.Proofs.YtmoecidfmgeafaaDoor.Wide.mk33 hx249_0 hx249_1 hx249_2 hx249_3 hx249_4 hx249_5 hx249_6 hx249_7 hx249_8 hx249_9 hx249_10 hx249_11 hx249_12 hx249_13 hx249_14 hx249_15 hx249_16 hx249_17 hx249_18 hx249_19 hx249_20 hx249_21 hx249_22 hx249_23 hx249_24 hx249_25 hx249_26 hx249_27 hx249_28 hx249_29 hx249_30 hx249_31 hx249_32
                  have p250 : 0 ≤ (x13_1 : Int) := of_decide_eq_true (by first | (with_reducible assumption) | assumption)
                  have q250 : x13_1 < (l1.length : Int) := of_decide_eq_true (by first | (with_reducible assumption) | assumption)
                  obtain ⟨ad250, e250, hx250_0, hx250_1, hx250_2, hx250_3, hx250_4, hx250_5, hx250_6, hx250_7, hx250_8, hx250_9, hx250_10, hx250_11, hx250_12, hx250_13, hx250_14, hx250_15, hx250_16, hx250_17, hx250_18, hx250_19, hx250_20, hx250_21, hx250_22, hx250_23, hx250_24, hx250_25, hx250_26, hx250_27, hx250_28, hx250_29, hx250_30, hx250_31, hx250_32⟩ := at_T25 HR1.out x13_1 p250 q250
                  cases e250
                  replace p250 := eq_true p250
                  replace q250 := eq_true q250
                  have hw250_0_32 := Go.Proofs.YtmoecidfmgeafaaDoor.Wide.mk32 hx250_0 hx250_1 hx250_2 hx250_3 hx250_4 hx250_5 hx250_6 hx250_7 hx250_8 hx250_9 hx250_10 hx250_11 hx250_12 hx250_13 hx250_14 hx250_15 hx250_16 hx250_17 hx250_18 hx250_19 hx250_20 hx250_21 hx250_22 hx250_23 hx250_24 hx250_25 hx250_26 hx250_27 hx250_28 hx250_29 hx250_30 hx250_31
                  have hw250_0_33 := Go.Proofs.YtmoecidfmgeafaaDoor.Wide.mk33 hx250_0 hx250_1 hx250_2 hx250_3 hx250_4 hx250_5 hx250_6 hx250_7 hx250_8 hx250_9 hx250_10 hx250_11 hx250_12 hx250_13 hx250_14 hx250_15 hx250_16 hx250_17 hx250_18 hx250_19 hx250_20 hx250_21 hx250_22 hx250_23 hx250_24 hx250_25 hx250_26 hx250_27 hx250_28 hx250_29 hx250_30 hx250_31 hx250_32
                  go_wp2
                  repeat (go_quiet (fail); try go_wp2)
                  go_ret
                  exact ⟨by first | rfl | (simp; done) | (simp [*]; done), by repeat (first | exact Drawn0.refl _ | apply Drawn0.step)⟩
                · rw [if_neg c8] at H
                  have c8b0 : ((!(((rd_T25 l0 x13_1).f0.f0) == ((rd_T25 l1 x13_1).f0.f0)) || (!(((rd_T25 l0 x13_1).f0.f1) == ((rd_T25 l1 x13_1).f0.f1)) || (!(((rd_T25 l0 x13_1).f0.f2) == ((rd_T25 l1 x13_1).f0.f2)) || (!(((rd_T25 l0 x13_1).f0.f3) == ((rd_T25 l1 x13_1).f0.f3)) || (!(((rd_T25 l0 x13_1).f0.f4) == ((rd_T25 l1 x13_1).f0.f4)) || (!(((rd_T25 l0 x13_1).f0.f5) == ((rd_T25 l1 x13_1).f0.f5)) || (!(((rd_T25 l0 x13_1).f0.f6) == ((rd_T25 l1 x13_1).f0.f6)) || (!(((rd_T25 l0 x13_1).f0.f7) == ((rd_T25 l1 x13_1).f0.f7)) || (!(((rd_T25 l0 x13_1).f0.f8) == ((rd_T25 l1 x13_1).f0.f8)) || (!(((rd_T25 l0 x13_1).f0.f9) == ((rd_T25 l1 x13_1).f0.f9)) || (!(((rd_T25 l0 x13_1).f0.f10) == ((rd_T25 l1 x13_1).f0.f10)) || (!(((rd_T25 l0 x13_1).f0.f11) == ((rd_T25 l1 x13_1).f0.f11)) || (!(((rd_T25 l0 x13_1).f0.f12) == ((rd_T25 l1 x13_1).f0.f12)) || (!(((rd_T25 l0 x13_1).f0.f13) == ((rd_T25 l1 x13_1).f0.f13)) || (!(((rd_T25 l0 x13_1).f0.f14) == ((rd_T25 l1 x13_1).f0.f14)) || (!(((rd_T25 l0 x13_1).f0.f15) == ((rd_T25 l1 x13_1).f0.f15)) || (!(((rd_T25 l0 x13_1).f0.f16) == ((rd_T25 l1 x13_1).f0.f16)) || (!(((rd_T25 l0 x13_1).f0.f17) == ((rd_T25 l1 x13_1).f0.f17)) || (!(((rd_T25 l0 x13_1).f0.f18) == ((rd_T25 l1 x13_1).f0.f18)) || (!(((rd_T25 l0 x13_1).f0.f19) == ((rd_T25 l1 x13_1).f0.f19)) || (!(((rd_T25 l0 x13_1).f0.f20) == ((rd_T25 l1 x13_1).f0.f20)) || (!(((rd_T25 l0 x13_1).f0.f21) == ((rd_T25 l1 x13_1).f0.f21)) || (!(((rd_T25 l0 x13_1).f0.f22) == ((rd_T25 l1 x13_1).f0.f22)) || (!(((rd_T25 l0 x13_1).f0.f23) == ((rd_T25 l1 x13_1).f0.f23)) || (!(((rd_T25 l0 x13_1).f0.f24) == ((rd_T25 l1 x13_1).f0.f24)) || (!(((rd_T25 l0 x13_1).f0.f25) == ((rd_T25 l1 x13_1).f0.f25)) || (!(((rd_T25 l0 x13_1).f0.f26) == ((rd_T25 l1 x13_1).f0.f26)) || (!(((rd_T25 l0 x13_1).f0.f27) == ((rd_T25 l1 x13_1).f0.f27)) || (!(((rd_T25 l0 x13_1).f0.f28) == ((rd_T25 l1 x13_1).f0.f28)) || (!(((rd_T25 l0 x13_1).f0.f29) == ((rd_T25 l1 x13_1).f0.f29)) || (!(((rd_T25 l0 x13_1).f0.f30) == ((rd_T25 l1 x13_1).f0.f30)) || (!(((rd_T25 l0 x13_1).f0.f31) == ((rd_T25 l1 x13_1).f0.f31)))))))))))))))))))))))))))))))))) || (!(((rd_T25 l0 x13_1).f1) == ((rd_T25 l1 x13_1).f1)))) = false := by simpa using c8
                  clear c8
                  have H' := Aside0.mk H
                  clear H
                  have p249 : 0 ≤ (x13_1 : Int) := of_decide_eq_true (by first | (with_reducible assumption) | assumption)
                  have q249 : x13_1 < (l0.length : Int) := of_decide_eq_true (by first | (with_reducible assumption) | assumption)
                  obtain ⟨ad249, e249, hx249_0, hx249_1, hx249_2, hx249_3, hx249_4, hx249_5, hx249_6, hx249_7, hx249_8, hx249_9, hx249_10, hx249_11, hx249_12, hx249_13, hx249_14, hx249_15, hx249_16, hx249_17, hx249_18, hx249_19, hx249_20, hx249_21, hx249_22, hx249_23, hx249_24, hx249_25, hx249_26, hx249_27, hx249_28, hx249_29, hx249_30, hx249_31, hx249_32⟩ := at_T25 HR0.out x13_1 p249 q249
                  cases e249
                  replace p249 := eq_true p249
                  replace q249 := eq_true q249
                  have hw249_0_32 := Go.Proofs.YtmoecidfmgeafaaDoor.Wide.mk32 hx249_0 hx249_1 hx249_2 hx249_3 hx249_4 hx249_5 hx249_6 hx249_7 hx249_8 hx249_9 hx249_10 hx249_11 hx249_12 hx249_13 hx249_14 hx249_15 hx249_16 hx249_17 hx249_18 hx249_19 hx249_20 hx249_21 hx249_22 hx249_23 hx249_24 hx249_25 hx249_26 hx249_27 hx249_28 hx249_29 hx249_30 hx249_31
                  have hw249_0_33 := Go.Proofs.YtmoecidfmgeafaaDoor.Wide.mk33 hx249_0 hx249_1 hx249_2 hx249_3 hx249_4 hx249_5 hx249_6 hx249_7 hx249_8 hx249_9 hx249_10 hx249_11 hx249_12 hx249_13 hx249_14 hx249_15 hx249_16 hx249_17 hx249_18 hx249_19 hx249_20 hx249_21 hx249_22 hx249_23 hx249_24 hx249_25 hx249_26 hx249_27 hx249_28 hx249_29 hx249_30 hx249_31 hx249_32
                  have p250 : 0 ≤ (x13_1 : Int) := of_decide_eq_true (by first | (with_reducible assumption) | assumption)
                  have q250 : x13_1 < (l1.length : Int) := of_decide_eq_true (by first | (with_reducible assumption) | assumption)
                  obtain ⟨ad250, e250, hx250_0, hx250_1, hx250_2, hx250_3, hx250_4, hx250_5, hx250_6, hx250_7, hx250_8, hx250_9, hx250_10, hx250_11, hx250_12, hx250_13, hx250_14, hx250_15, hx250_16, hx250_17, hx250_18, hx250_19, hx250_20, hx250_21, hx250_22, hx250_23, hx250_24, hx250_25, hx250_26, hx250_27, hx250_28, hx250_29, hx250_30, hx250_31, hx250_32⟩ := at_T25 HR1.out x13_1 p250 q250
                  cases e250
                  replace p250 := eq_true p250
                  replace q250 := eq_true q250
                  have hw250_0_32 := Go.Proofs.YtmoecidfmgeafaaDoor.Wide.mk32 hx250_0 hx250_1 hx250_2 hx250_3 hx250_4 hx250_5 hx250_6 hx250_7 hx250_8 hx250_9 hx250_10 hx250_11 hx250_12 hx250_13 hx250_14 hx250_15 hx250_16 hx250_17 hx250_18 hx250_19 hx250_20 hx250_21 hx250_22 hx250_23 hx250_24 hx250_25 hx250_26 hx250_27 hx250_28 hx250_29 hx250_30 hx250_31
                  have hw250_0_33 := Go.Proofs.YtmoecidfmgeafaaDoor.Wide.mk33 hx250_0 hx250_1 hx250_2 hx250_3 hx250_4 hx250_5 hx250_6 hx250_7 hx250_8 hx250_9 hx250_10 hx250_11 hx250_12 hx250_13 hx250_14 hx250_15 hx250_16 hx250_17 hx250_18 hx250_19 hx250_20 hx250_21 hx250_22 hx250_23 hx250_24 hx250_25 hx250_26 hx250_27 hx250_28 hx250_29 hx250_30 hx250_31 hx250_32
                  go_wp2
                  repeat (go_quiet (fail); try go_wp2)
                  go_roundg k1
                  case measure => have := HK1.out; omega
                  case rel => exact ⟨(wrap64 (x13_1 + 1)), (by first | rfl | (simp; done) | (simp [*]; done)), H', ⟨by have := HK1.out; omega⟩, by repeat (first | exact Drawn0.refl _ | apply Drawn0.step)⟩
              · rw [if_neg c7] at H
                exact absurd H (by simp)
            · rw [if_neg c6] at H
              exact absurd H (by simp)
          · rw [if_neg c5] at H
            exact absurd H (by simp)
        · rw [if_neg c4] at H
          have c4b0 : decide (x13_1 < (l0.length : Int)) = false := decide_eq_false c4
          clear c4
          obtain rfl := Option.some.inj H
          go_wp2
          repeat (go_quiet (fail); try go_wp2)
          go_ret
          exact ⟨by first | rfl | (simp; done) | (simp [*]; done), by repeat (first | exact Drawn0.refl _ | apply Drawn0.step)⟩
  · rw [if_neg c3] at H
    have c3b0 : ((l0.length : Int) == (l1.length : Int)) = false := beq_eq_false_iff_ne.mpr c3
    have c3b1 : ((l0.length : Int) != (l1.length : Int)) = true := bne_iff_ne.mpr c3
    have c3b2 : (l0.length == l1.length) = false := by first | simpa using c3 | (simp at c3 ⊢; omega)
    obtain rfl := Option.some.inj H
    go_enter Tryd.func38, Tryd.ntmps38
    go_wp2
    repeat (go_quiet (fail); try go_wp2)
    go_ret
    exact ⟨by first | rfl | (simp; done) | (simp [*]; done), by repeat (first | exact Drawn0.refl _ | apply Drawn0.step)⟩

/-! ### point_Alike: function 18 -/
def point_Alike.f (k : Nat) (l0 : List S25) (l1 : List S25) : Option Bool :=
  if l0.length * 40 ≤ 140737488355328 then (if l1.length * 40 ≤ 140737488355328 then api_Outpoint.f k (sortO l0) (sortO l1) else none) else none
theorem point_Alike.mono : ∀ a0 a1 k, LeO (point_Alike.f k a0 a1) (point_Alike.f (k + 1) a0 a1) := by
  intro a0 a1 k
  unfold point_Alike.f
  exact LeO.ite (LeO.ite (api_Outpoint.mono _ _ _) (LeO.refl _)) (LeO.refl _)
set_option maxHeartbeats 4000000 in
theorem point_Alike.calls (k : Nat) (A0 : Option Addr) (c0 : Nat) (l0 : List S25) (A1 : Option Addr) (c1 : Nat) (l1 : List S25) (r : Bool) (w : World) (hr0 : Kd.C k25 w A0 l0.length l0) (hc0 : l0.length ≤ c0) (hr1 : Kd.C k25 w A1 l1.length l1) (hc1 : l1.length ≤ c1) (h : point_Alike.f k l0 l1 = some r) :
    Calls Tryd.prog 18 #[.slice A0 l0.length c0, .slice A1 l1.length c1] w fun e w' => e = .returned (.bool r) ∧ Below w.heap.size w w' := by
  unfold point_Alike.f at h
  by_cases b0 : l0.length * 40 ≤ 140737488355328
  case neg => rw [if_neg b0] at h; cases h
  by_cases b1 : l1.length * 40 ≤ 140737488355328
  case neg => rw [if_pos b0, if_neg b1] at h; cases h
  rw [if_pos b0, if_pos b1] at h
  have H := Aside0.mk h
  have HR0 := Aside0.mk hr0
  have HR1 := Aside0.mk hr1
  have L0 := Aside0.mk (sortO_len l0)
  have L1 := Aside0.mk (sortO_len l1)
  have HV := Aside0.mk (fun (a : Option Addr) (len cap : Nat) (w : World) => callsIn_wide.1 (Go.Proofs.YtmoecidfmgeafaaDoor.IterO.values Fence.wide 5 trivial rfl a len cap w))
  have HS : Aside0 (∀ (A : Option Addr) (c : Nat) (l : List S25) (W w1 : World) (Bs : Nat), l.length * 40 ≤ 140737488355328 → Kd.C k25 W A l.length l → Bs = W.heap.size → w1 = W.alloc (.cells #[.slice A l.length c] 31) →
      Calls Tryd.prog 33 #[.func (.func 48) #[] #[.pointer (some ⟨Bs, 0, none⟩)], .func (.func 35) #[] #[]] w1 fun e w' => ∃ v, e = .returned v ∧ w'.ownsRow W.heap.size 25 33 v (sortO l).length ((sortO l).flatMap encO) ∧ Below W.heap.size W w' ∧ Below w1.heap.size w1 w') := ⟨by
    intro A c l W w1 Bs hb hC hBs hw1
    subst hBs hw1
    have hB : Below W.heap.size W (W.alloc (.cells #[.slice A l.length c] 31)) := (Below.refl _ W).alloc (Nat.le_refl _) _
    haveI : Inhabited S25 := ⟨z25⟩
    refine (Go.Proofs.YtmoecidfmgeafaaDoor.SortO.sortedFunc (enc := encO) bsO (fun x => x.f1) encO_eq (fun _ => rfl) bsO_inj W.heap.size A c l hb (W.alloc (.cells #[.slice A l.length c] 31)) (by simp) (by simp) (liesO (Kd.C_below hC hB))).mono ?_
    rintro e w' ⟨v, rfl, ho, hb'⟩
    refine ⟨v, rfl, ?_, hB.trans (hb'.mono (by simp)), hb'⟩
    rw [sortO_len]
    exact ⟨ho.1, ho.2.imp id (fun ⟨g, cap, cur, e1, e2, e3⟩ => ⟨g, cap, cur, e1, by simp at e2; omega, e3⟩)⟩⟩
  clear h hr0 hr1
  go_enter Tryd.func18, Tryd.ntmps18
  have m0 : (sortO l0).length ≤ 9223372036854775807 := by have := L0.out; omega
  have m1 : (sortO l1).length ≤ 9223372036854775807 := by have := L1.out; omega
  go_wp2_with (go_at_call 34; refine (HV.out _ _ _ w).mono ?_; rintro e w1 ⟨rfl, hw1⟩; have W1 := Aside0.mk hw1; clear hw1)
  go_wp2_with (go_at_call 33; refine (HS.out A0 c0 l0 w w1 w.heap.size b0 HR0.out rfl W1.out).mono ?_; rintro e w2 ⟨v1, rfl, ho1, hb1, hbx⟩; obtain ⟨A2, c2, rfl, hc2, hK2⟩ := ownsO ho1 m0; have O1 := Aside0.mk hK2; have C1 := Aside0.mk hc2; have B1 := Aside0.mk hb1; clear hK2 hc2 hb1 ho1 hbx)
  go_wp2_with (go_at_call 34; refine (HV.out _ _ _ w2).mono ?_; rintro e w3 ⟨rfl, hw3⟩; have W3 := Aside0.mk hw3; clear hw3)
  go_wp2_with (go_at_call 33; refine (HS.out A1 c1 l1 w2 w3 w2.heap.size b1 (Kd.C_below HR1.out B1.out) rfl W3.out).mono ?_; rintro e w4 ⟨v2, rfl, ho2, hb2, hbx⟩; obtain ⟨A4, c4, rfl, hc4, hK4⟩ := ownsO ho2 m1; have O2 := Aside0.mk hK4; have C2 := Aside0.mk hc4; have B2 := Aside0.mk hb2; clear hK4 hc4 hb2 ho2 hbx)
  go_wp2_with (go_at_call 38; refine (api_Outpoint.calls k A2 c2 (sortO l0) A4 c4 (sortO l1) r w4 (Kd.C_below O1.out B2.out) C1.out O2.out C2.out H.out).mono ?_; rintro e w5 ⟨rfl, hd⟩; have D5 := Aside0.mk hd; clear hd)
  go_ret
  refine ⟨rfl, ?_⟩
  obtain ⟨n, rfl⟩ := D5.out.out
  exact pw_below_drewN (B1.out.trans (B2.out.mono B1.out.size)) _

end Go.Proofs.YtmoecidfmgeafaaDoor.QPnt
