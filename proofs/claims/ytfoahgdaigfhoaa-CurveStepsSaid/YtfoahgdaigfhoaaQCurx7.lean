/- Functions of the program as plain Lean functions, and that its calls come to what these tell: written by a program of this session; Lean checks it. -/
import Derived.Test.YtfoahgdaigfhoaaQCurx0
import Derived.Test.YtfoahgdaigfhoaaQCurx2
import Derived.Test.YtfoahgdaigfhoaaQCurx3
import Derived.Test.YtfoahgdaigfhoaaQCurx6
namespace Go.Proofs.Ytfoahgdaigfhoaa.QCur
open Go.RowKit Go.Proofs.Ytfoahgdaigfhoaa.Hand Go.Proofs.YtfoahgdaigfhoaaW.PrintWords Go.Proofs.YtfoahgdaigfhoaaW.PrintLast Go.Proofs.YtfoahgdaigfhoaaW.PrintMore
attribute [local go_sem] max2_int min2_int max_two min_two max_three min_three max_four min_four run_equalIn_c run_store_float run_store_complex run_fop run_feq run_fne run_flt run_fle run_fgt run_fge run_fint run_toi run_real' run_imag' run_complex' run_ceq run_cne run_cadd run_csub run_cmul
set_option linter.unusedVariables false
set_option linter.unusedSimpArgs false

/-! ### coraclelaw16_CurveSteps: function 14 -/
mutual
def coraclelaw16_CurveSteps.j0 : Nat → Int → Int → Int → Int → Int → Bool → Option (Bool)
  | 0, _, _, _, _, _, _ => none
  | k + 1, x0, x1, x2, x3, x4, x59 => if x59 = true then ((coraclelaw16_awake.f k).bind fun t186 => (some t186)) else ((curve_Of.f x0 (wrap64 (x0 + x1)) x2 x4).bind fun bt187 => ((curve_Of.f x0 (wrap64 (x0 + x1)) (wrap64 (x2 + x3)) x4).bind fun bt191 => (if bt187.2.2 = 0 then (coraclelaw16_CurveSteps.j1 k x0 x1 x2 x4 bt187.2.2 (bt191.2.2 != 0) bt187.1 bt187.2.1 bt191.1 bt191.2.1) else (coraclelaw16_CurveSteps.j1 k x0 x1 x2 x4 bt187.2.2 true bt187.1 bt187.2.1 bt191.1 bt191.2.1))))
def coraclelaw16_CurveSteps.j1 : Nat → Int → Int → Int → Int → Int → Bool → C128 → C128 → C128 → C128 → Option (Bool)
  | 0, _, _, _, _, _, _, _, _, _, _ => none
  | k + 1, x0, x1, x2, x4, x12, x88, x191000, x191001, x195000, x195001 => if x88 = true then ((amount_Rate.f x2 x4).bind fun bt195 => (if bt195.1 < 253 then (if x12 = 1 then ((coraclelaw16_awake.f k).bind fun t197 => (some t197)) else (some false)) else (some false))) else ((curve_Curve_At.f x191000 x191001 (wrap64 (x0 + x1))).bind fun t198 => (coraclelaw16_CurveSteps.l0 k x0 x1 t198 x0 x191000 x191001 x195000 x195001))
def coraclelaw16_CurveSteps.l0 : Nat → Int → Int → Int → Int → C128 → C128 → C128 → C128 → Option (Bool)
  | 0, _, _, _, _, _, _, _, _ => none
  | k + 1, x0, x1, x17, x18, x191000, x191001, x195000, x195001 => if x18 < (wrap64 (x0 + x1)) then ((curve_Curve_At.f x191000 x191001 x18).bind fun t201 => ((curve_Curve_At.f x191000 x191001 (wrap64 (x18 + 1))).bind fun t202 => (if x1 = 0 then (none) else (if (wrap64 (t202 - t201)) < (wrap64 (Int.tdiv (wrap64 (x17 - 253)) x1)) then (some false) else (if (wrap64 (t202 - t201)) > (wrap64 ((wrap64 (Int.tdiv (wrap64 (x17 - 253)) x1)) + 1)) then (some false) else ((curve_Curve_At.f x195000 x195001 x18).bind fun t203 => (if t203 < t201 then (some false) else (coraclelaw16_CurveSteps.l0 k x0 x1 x17 (wrap64 (x18 + 1)) x191000 x191001 x195000 x195001)))))))) else ((curve_Curve_At.f x195000 x195001 (wrap64 (x0 + x1))).bind fun t199 => (if t199 ≥ x17 then ((coraclelaw16_awake.f k).bind fun t200 => (some t200)) else (some false)))
end
def coraclelaw16_CurveSteps.f (k : Nat) (a0 : Int) (a1 : Int) (a2 : Int) (a3 : Int) (a4 : Int) : Option (Bool) := if a0 < 0 then (coraclelaw16_CurveSteps.j0 k a0 a1 a2 a3 a4 true) else (if a0 > 1000 then (coraclelaw16_CurveSteps.j0 k a0 a1 a2 a3 a4 true) else (if a1 < 1 then (coraclelaw16_CurveSteps.j0 k a0 a1 a2 a3 a4 true) else (if a1 > 60 then (coraclelaw16_CurveSteps.j0 k a0 a1 a2 a3 a4 true) else (if a2 < 1000 then (coraclelaw16_CurveSteps.j0 k a0 a1 a2 a3 a4 true) else (if a2 > 1073741824 then (coraclelaw16_CurveSteps.j0 k a0 a1 a2 a3 a4 true) else (if a3 < 0 then (coraclelaw16_CurveSteps.j0 k a0 a1 a2 a3 a4 true) else (if a3 > 1073741824 then (coraclelaw16_CurveSteps.j0 k a0 a1 a2 a3 a4 true) else (if a4 < 100 then (coraclelaw16_CurveSteps.j0 k a0 a1 a2 a3 a4 true) else (coraclelaw16_CurveSteps.j0 k a0 a1 a2 a3 a4 (decide (a4 > 3000)))))))))))
theorem coraclelaw16_CurveSteps.mono_l : ∀ k, (∀ y0 y1 y2 y3 y4 y5, LeO (coraclelaw16_CurveSteps.j0 k y0 y1 y2 y3 y4 y5) (coraclelaw16_CurveSteps.j0 (k + 1) y0 y1 y2 y3 y4 y5)) ∧ (∀ y0 y1 y2 y3 y4 y5 y6 y7 y8 y9, LeO (coraclelaw16_CurveSteps.j1 k y0 y1 y2 y3 y4 y5 y6 y7 y8 y9) (coraclelaw16_CurveSteps.j1 (k + 1) y0 y1 y2 y3 y4 y5 y6 y7 y8 y9)) ∧ (∀ y0 y1 y2 y3 y4 y5 y6 y7, LeO (coraclelaw16_CurveSteps.l0 k y0 y1 y2 y3 y4 y5 y6 y7) (coraclelaw16_CurveSteps.l0 (k + 1) y0 y1 y2 y3 y4 y5 y6 y7))
  | 0 => ⟨fun _ _ _ _ _ _ r h => by simp [coraclelaw16_CurveSteps.j0] at h, fun _ _ _ _ _ _ _ _ _ _ r h => by simp [coraclelaw16_CurveSteps.j1] at h, fun _ _ _ _ _ _ _ _ r h => by simp [coraclelaw16_CurveSteps.l0] at h⟩
  | k + 1 => by
    obtain ⟨ih0, ih1, ih2⟩ := coraclelaw16_CurveSteps.mono_l k
    refine ⟨?_, ?_, ?_⟩
    · intro y0 y1 y2 y3 y4 y5
      unfold coraclelaw16_CurveSteps.j0
      repeat' first
      | (with_reducible exact ih0 _ _ _ _ _ _)
      | (with_reducible exact ih1 _ _ _ _ _ _ _ _ _ _)
      | (with_reducible exact ih2 _ _ _ _ _ _ _ _)
      | (with_reducible exact coraclelaw16_awake.mono _)
      | (with_reducible exact LeO.refl _)
      | (with_reducible exact LeO.none _)
      | (with_reducible refine LeO.ite ?_ ?_)
      | (with_reducible refine LeO.bind ?_ (fun _ => ?_))
      | exact ih0 _ _ _ _ _ _
      | exact ih1 _ _ _ _ _ _ _ _ _ _
      | exact ih2 _ _ _ _ _ _ _ _
      | exact coraclelaw16_awake.mono _
      | exact LeO.none _
      | refine LeO.ite ?_ ?_
      | refine LeO.bind ?_ (fun _ => ?_)
    · intro y0 y1 y2 y3 y4 y5 y6 y7 y8 y9
      unfold coraclelaw16_CurveSteps.j1
      repeat' first
      | (with_reducible exact ih0 _ _ _ _ _ _)
      | (with_reducible exact ih1 _ _ _ _ _ _ _ _ _ _)
      | (with_reducible exact ih2 _ _ _ _ _ _ _ _)
      | (with_reducible exact coraclelaw16_awake.mono _)
      | (with_reducible exact LeO.refl _)
      | (with_reducible exact LeO.none _)
      | (with_reducible refine LeO.ite ?_ ?_)
      | (with_reducible refine LeO.bind ?_ (fun _ => ?_))
      | exact ih0 _ _ _ _ _ _
      | exact ih1 _ _ _ _ _ _ _ _ _ _
      | exact ih2 _ _ _ _ _ _ _ _
      | exact coraclelaw16_awake.mono _
      | exact LeO.none _
      | refine LeO.ite ?_ ?_
      | refine LeO.bind ?_ (fun _ => ?_)
    · intro y0 y1 y2 y3 y4 y5 y6 y7
      unfold coraclelaw16_CurveSteps.l0
      repeat' first
      | (with_reducible exact ih0 _ _ _ _ _ _)
      | (with_reducible exact ih1 _ _ _ _ _ _ _ _ _ _)
      | (with_reducible exact ih2 _ _ _ _ _ _ _ _)
      | (with_reducible exact coraclelaw16_awake.mono _)
      | (with_reducible exact LeO.refl _)
      | (with_reducible exact LeO.none _)
      | (with_reducible refine LeO.ite ?_ ?_)
      | (with_reducible refine LeO.bind ?_ (fun _ => ?_))
      | exact ih0 _ _ _ _ _ _
      | exact ih1 _ _ _ _ _ _ _ _ _ _
      | exact ih2 _ _ _ _ _ _ _ _
      | exact coraclelaw16_awake.mono _
      | exact LeO.none _
      | refine LeO.ite ?_ ?_
      | refine LeO.bind ?_ (fun _ => ?_)
theorem coraclelaw16_CurveSteps.mono : ∀ a0 a1 a2 a3 a4 k, LeO (coraclelaw16_CurveSteps.f k a0 a1 a2 a3 a4) (coraclelaw16_CurveSteps.f (k + 1) a0 a1 a2 a3 a4) := by
  intro a0 a1 a2 a3 a4 k
  obtain ⟨ih0, ih1, ih2⟩ := coraclelaw16_CurveSteps.mono_l k
  unfold coraclelaw16_CurveSteps.f
  repeat' first
      | (with_reducible exact ih0 _ _ _ _ _ _)
      | (with_reducible exact ih1 _ _ _ _ _ _ _ _ _ _)
      | (with_reducible exact ih2 _ _ _ _ _ _ _ _)
      | (with_reducible exact coraclelaw16_awake.mono _)
      | (with_reducible exact LeO.refl _)
      | (with_reducible exact LeO.none _)
      | (with_reducible refine LeO.ite ?_ ?_)
      | (with_reducible refine LeO.bind ?_ (fun _ => ?_))
      | exact ih0 _ _ _ _ _ _
      | exact ih1 _ _ _ _ _ _ _ _ _ _
      | exact ih2 _ _ _ _ _ _ _ _
      | exact coraclelaw16_awake.mono _
      | exact LeO.none _
      | refine LeO.ite ?_ ?_
      | refine LeO.bind ?_ (fun _ => ?_)
def coraclelaw16_CurveSteps.T12 : Bool × List (List Nat × List Nat) := (true, [([], []), ([], []), ([0, 1], [0, 1]), ([], []), ([], []), ([4], [4]), ([3, 5, 2], [3, 5]), ([2, 6, 0, 1, 2], [2]), ([6, 7, 0, 1, 2, 3, 4, 5, 6, 7], [6])])
def coraclelaw16_CurveSteps.B12 : List Nat := [0, 0, 3, 0, 0, 16, 63, 127, 255]
theorem coraclelaw16_CurveSteps.tab12 : rtab .any (opsOf Try.f14 12) = coraclelaw16_CurveSteps.T12 := by kernel_rfl
theorem coraclelaw16_CurveSteps.bits12 : waitsOk coraclelaw16_CurveSteps.T12.2 coraclelaw16_CurveSteps.B12 = true := by kernel_rfl
set_option maxHeartbeats 8000000 in
set_option maxRecDepth 100000 in
theorem coraclelaw16_CurveSteps.calls (k : Nat) (a0 : Int) (a1 : Int) (a2 : Int) (a3 : Int) (a4 : Int) (r : Bool) (w : World) (h : coraclelaw16_CurveSteps.f k a0 a1 a2 a3 a4 = some r) :
    Calls Try.prog 14 #[.int .i64 a0, .int .i64 a1, .int .i64 a2, .int .i64 a3, .int .i64 a4] w fun e w' => e = .returned (.bool r) ∧ Below w.heap.size w w' := by
  have hu51 := Try.underlying51
  have HB := Aside0.mk (Below.refl w.heap.size w)
  have H : (if a0 < 0 then (coraclelaw16_CurveSteps.j0 k a0 a1 a2 a3 a4 true) else (if a0 > 1000 then (coraclelaw16_CurveSteps.j0 k a0 a1 a2 a3 a4 true) else (if a1 < 1 then (coraclelaw16_CurveSteps.j0 k a0 a1 a2 a3 a4 true) else (if a1 > 60 then (coraclelaw16_CurveSteps.j0 k a0 a1 a2 a3 a4 true) else (if a2 < 1000 then (coraclelaw16_CurveSteps.j0 k a0 a1 a2 a3 a4 true) else (if a2 > 1073741824 then (coraclelaw16_CurveSteps.j0 k a0 a1 a2 a3 a4 true) else (if a3 < 0 then (coraclelaw16_CurveSteps.j0 k a0 a1 a2 a3 a4 true) else (if a3 > 1073741824 then (coraclelaw16_CurveSteps.j0 k a0 a1 a2 a3 a4 true) else (if a4 < 100 then (coraclelaw16_CurveSteps.j0 k a0 a1 a2 a3 a4 true) else (coraclelaw16_CurveSteps.j0 k a0 a1 a2 a3 a4 (decide (a4 > 3000)))))))))))) = some r := h
  clear h
  have HC6 := Aside0.mk H
  clear H
  go_enter Try.func14, Try.ntmps14
  go_upto_region 1 with (fail)
  go_cut [59] (fun v59 wc => ∃ (kq : Nat) (x59_5 : Bool), v59 = .bool x59_5 ∧ Aside0 (coraclelaw16_CurveSteps.j0 kq a0 a1 a2 a3 a4 x59_5 = some r) ∧ Aside0 (kq ≤ k) ∧ Aside0 (Below w.heap.size w wc))
  case first =>
    have H := HC6.out
    clear HC6
    by_cases c7 : a0 < 0
    · rw [if_pos c7] at H
      have c7b0 : decide (a0 < 0) = true := decide_eq_true c7
      clear c7
      (first | rw [c7b0] | (simp only [i64_w, i32_w]; rw [c7b0]) | skip)
      have H' := Aside0.mk H
      clear H
      go_wp2
      go_meet
      case rel => exact ⟨_, (true), (by first | rfl | (simp; done) | (simp [*]; done)), H', ⟨by first | omega | exact Nat.le_refl _⟩, ⟨by repeat (first | (with_reducible first | exact HB.out | apply below_alloc | apply pw_below_drewN | apply below_drew1) | exact HB.out)⟩⟩
    · rw [if_neg c7] at H
      have c7b0 : decide (a0 < 0) = false := decide_eq_false c7
      clear c7
      (first | rw [c7b0] | (simp only [i64_w, i32_w]; rw [c7b0]) | skip)
      by_cases c8 : a0 > 1000
      · rw [if_pos c8] at H
        have c8b0 : decide (1000 < a0) = true := decide_eq_true c8
        clear c8
        have H' := Aside0.mk H
        clear H
        go_wp2
        go_meet
        case rel => exact ⟨_, (true), (by first | rfl | (simp; done) | (simp [*]; done)), H', ⟨by first | omega | exact Nat.le_refl _⟩, ⟨by repeat (first | (with_reducible first | exact HB.out | apply below_alloc | apply pw_below_drewN | apply below_drew1) | exact HB.out)⟩⟩
      · rw [if_neg c8] at H
        have c8b0 : decide (1000 < a0) = false := decide_eq_false c8
        clear c8
        by_cases c9 : a1 < 1
        · rw [if_pos c9] at H
          have c9b0 : decide (a1 < 1) = true := decide_eq_true c9
          clear c9
          have H' := Aside0.mk H
          clear H
          go_wp2
          go_meet
          case rel => exact ⟨_, (true), (by first | rfl | (simp; done) | (simp [*]; done)), H', ⟨by first | omega | exact Nat.le_refl _⟩, ⟨by repeat (first | (with_reducible first | exact HB.out | apply below_alloc | apply pw_below_drewN | apply below_drew1) | exact HB.out)⟩⟩
        · rw [if_neg c9] at H
          have c9b0 : decide (a1 < 1) = false := decide_eq_false c9
          clear c9
          by_cases c10 : a1 > 60
          · rw [if_pos c10] at H
            have c10b0 : decide (60 < a1) = true := decide_eq_true c10
            clear c10
            have H' := Aside0.mk H
            clear H
            go_wp2
            go_meet
            case rel => exact ⟨_, (true), (by first | rfl | (simp; done) | (simp [*]; done)), H', ⟨by first | omega | exact Nat.le_refl _⟩, ⟨by repeat (first | (with_reducible first | exact HB.out | apply below_alloc | apply pw_below_drewN | apply below_drew1) | exact HB.out)⟩⟩
          · rw [if_neg c10] at H
            have c10b0 : decide (60 < a1) = false := decide_eq_false c10
            clear c10
            by_cases c11 : a2 < 1000
            · rw [if_pos c11] at H
              have c11b0 : decide (a2 < 1000) = true := decide_eq_true c11
              clear c11
              have H' := Aside0.mk H
              clear H
              go_wp2
              go_meet
              case rel => exact ⟨_, (true), (by first | rfl | (simp; done) | (simp [*]; done)), H', ⟨by first | omega | exact Nat.le_refl _⟩, ⟨by repeat (first | (with_reducible first | exact HB.out | apply below_alloc | apply pw_below_drewN | apply below_drew1) | exact HB.out)⟩⟩
            · rw [if_neg c11] at H
              have c11b0 : decide (a2 < 1000) = false := decide_eq_false c11
              clear c11
              by_cases c12 : a2 > 1073741824
              · rw [if_pos c12] at H
                have c12b0 : decide (1073741824 < a2) = true := decide_eq_true c12
                clear c12
                have H' := Aside0.mk H
                clear H
                go_wp2
                go_meet
                case rel => exact ⟨_, (true), (by first | rfl | (simp; done) | (simp [*]; done)), H', ⟨by first | omega | exact Nat.le_refl _⟩, ⟨by repeat (first | (with_reducible first | exact HB.out | apply below_alloc | apply pw_below_drewN | apply below_drew1) | exact HB.out)⟩⟩
              · rw [if_neg c12] at H
                have c12b0 : decide (1073741824 < a2) = false := decide_eq_false c12
                clear c12
                by_cases c13 : a3 < 0
                · rw [if_pos c13] at H
                  have c13b0 : decide (a3 < 0) = true := decide_eq_true c13
                  clear c13
                  have H' := Aside0.mk H
                  clear H
                  go_wp2
                  go_meet
                  case rel => exact ⟨_, (true), (by first | rfl | (simp; done) | (simp [*]; done)), H', ⟨by first | omega | exact Nat.le_refl _⟩, ⟨by repeat (first | (with_reducible first | exact HB.out | apply below_alloc | apply pw_below_drewN | apply below_drew1) | exact HB.out)⟩⟩
                · rw [if_neg c13] at H
                  have c13b0 : decide (a3 < 0) = false := decide_eq_false c13
                  clear c13
                  by_cases c14 : a3 > 1073741824
                  · rw [if_pos c14] at H
                    have c14b0 : decide (1073741824 < a3) = true := decide_eq_true c14
                    clear c14
                    have H' := Aside0.mk H
                    clear H
                    go_wp2
                    go_meet
                    case rel => exact ⟨_, (true), (by first | rfl | (simp; done) | (simp [*]; done)), H', ⟨by first | omega | exact Nat.le_refl _⟩, ⟨by repeat (first | (with_reducible first | exact HB.out | apply below_alloc | apply pw_below_drewN | apply below_drew1) | exact HB.out)⟩⟩
                  · rw [if_neg c14] at H
                    have c14b0 : decide (1073741824 < a3) = false := decide_eq_false c14
                    clear c14
                    by_cases c15 : a4 < 100
                    · rw [if_pos c15] at H
                      have c15b0 : decide (a4 < 100) = true := decide_eq_true c15
                      clear c15
                      have H' := Aside0.mk H
                      clear H
                      go_wp2
                      go_meet
                      case rel => exact ⟨_, (true), (by first | rfl | (simp; done) | (simp [*]; done)), H', ⟨by first | omega | exact Nat.le_refl _⟩, ⟨by repeat (first | (with_reducible first | exact HB.out | apply below_alloc | apply pw_below_drewN | apply below_drew1) | exact HB.out)⟩⟩
                    · rw [if_neg c15] at H
                      have c15b0 : decide (a4 < 100) = false := decide_eq_false c15
                      clear c15
                      have H' := Aside0.mk H
                      clear H
                      go_wp2
                      go_meet
                      case rel => exact ⟨_, (decide (a4 > 3000)), (by first | rfl | (simp; done) | (simp [*]; done)), H', ⟨by first | omega | exact Nat.le_refl _⟩, ⟨by repeat (first | (with_reducible first | exact HB.out | apply below_alloc | apply pw_below_drewN | apply below_drew1) | exact HB.out)⟩⟩
  case rest =>
    clear HC6
    try clear c1
    try clear p2
    try clear c7
    try clear c7b0
    try clear c8
    try clear c8b0
    try clear c9
    try clear c9b0
    try clear c10
    try clear c10b0
    try clear c11
    try clear c11b0
    try clear c12
    try clear c12b0
    try clear c13
    try clear c13b0
    try clear c14
    try clear c14b0
    try clear c15
    try clear c15b0
    obtain ⟨kq, x59_5, rfl, HA, HJ5, HB⟩ := hcut
    cases kq with
    | zero => exact absurd HA.out (by simp [coraclelaw16_CurveSteps.j0])
    | succ kj5 =>
      have H := HA.out
      clear HA
      simp only [coraclelaw16_CurveSteps.j0] at H
      by_cases c16 : x59_5 = true
      · subst c16
        have H1 : ((coraclelaw16_awake.f kj5).bind fun t186 => (some t186)) = some r := by rw [if_pos rfl] at H; exact H
        clear H
        have H := H1
        clear H1
        replace H := Option.bind_eq_some_iff.mp H
        obtain ⟨t186, A170, H⟩ := H
        replace H : (some t186) = some r := H
        have A17 := Aside0.mk A170
        clear A170
        obtain rfl := Option.some.inj H
        go_wp2_with (first | ((with_reducible refine gate_callee (f := 37) rfl ?_); refine goesL_ (some 60) rfl rfl Try.func37 (by kernel_rfl) rfl #[] rfl (by (try simp only [List.map_toArray, List.map_cons, List.map_nil]); first | done | rfl | (simp only [List.length_drop, List.length_take]; rfl)) ?_; (with_reducible refine (coraclelaw16_awake.calls kj5  t186 _ A17.out).mono ?_); rintro e w18 ⟨rfl, hb⟩; refine ⟨_, rfl, ?_⟩; have n0_ := Aside0.mk (below_step (by repeat (first | (with_reducible first | exact HB.out | apply below_alloc | apply pw_below_drewN | apply below_drew1) | exact HB.out)) hb); clear HB; have HB := n0_; clear n0_; (try clear hb); (try clear hb2); (try clear hk); (try clear hi)))
        go_ret
        exact ⟨by first | rfl | (simp [errW_none, errW_some] <;> rfl) | (simp [*, errW_none, errW_some] <;> rfl), by repeat (first | (with_reducible first | exact HB.out | apply below_alloc | apply pw_below_drewN | apply below_drew1) | exact HB.out)⟩
      · replace c16 := Bool.eq_false_iff.mpr c16
        subst c16
        have H1 : ((curve_Of.f a0 (wrap64 (a0 + a1)) a2 a4).bind fun bt187 => ((curve_Of.f a0 (wrap64 (a0 + a1)) (wrap64 (a2 + a3)) a4).bind fun bt191 => (if bt187.2.2 = 0 then (coraclelaw16_CurveSteps.j1 kj5 a0 a1 a2 a4 bt187.2.2 (bt191.2.2 != 0) bt187.1 bt187.2.1 bt191.1 bt191.2.1) else (coraclelaw16_CurveSteps.j1 kj5 a0 a1 a2 a4 bt187.2.2 true bt187.1 bt187.2.1 bt191.1 bt191.2.1)))) = some r := by rw [if_neg (show ¬ (false = true) by decide)] at H; exact H
        clear H
        have H := H1
        clear H1
        replace H := Option.bind_eq_some_iff.mp H
        obtain ⟨⟨t187, t188, t189⟩, A190, H⟩ := H
        replace H : ((curve_Of.f a0 (wrap64 (a0 + a1)) (wrap64 (a2 + a3)) a4).bind fun bt191 => (if t189 = 0 then (coraclelaw16_CurveSteps.j1 kj5 a0 a1 a2 a4 t189 (bt191.2.2 != 0) t187 t188 bt191.1 bt191.2.1) else (coraclelaw16_CurveSteps.j1 kj5 a0 a1 a2 a4 t189 true t187 t188 bt191.1 bt191.2.1))) = some r := H
        have A19 := Aside0.mk A190
        clear A190
        replace H := Option.bind_eq_some_iff.mp H
        obtain ⟨⟨t191, t192, t193⟩, A200, H⟩ := H
        replace H : (if t189 = 0 then (coraclelaw16_CurveSteps.j1 kj5 a0 a1 a2 a4 t189 (t193 != 0) t187 t188 t191 t192) else (coraclelaw16_CurveSteps.j1 kj5 a0 a1 a2 a4 t189 true t187 t188 t191 t192)) = some r := H
        have A20 := Aside0.mk A200
        clear A200
        have HC21 := Aside0.mk H
        clear H
        go_upto_region 5 with (first | ((with_reducible refine gate_callee (f := 42) rfl ?_); refine goesL_ (some 68) rfl rfl Try.func42 (by kernel_rfl) rfl #[.int .i64 a0, .int .i64 (wrap64 (a0 + a1)), .int .i64 a2, .int .i64 a4] rfl (by (try simp only [List.map_toArray, List.map_cons, List.map_nil]); first | done | rfl | (simp only [List.length_drop, List.length_take]; rfl)) ?_; (with_reducible refine (curve_Of.calls a0 (wrap64 (a0 + a1)) a2 a4 t187 t188 t189 _ A19.out).mono ?_); rintro e w22 ⟨rfl, hb⟩; refine ⟨_, rfl, ?_⟩; have n0_ := Aside0.mk (below_step (by repeat (first | (with_reducible first | exact HB.out | apply below_alloc | apply pw_below_drewN | apply below_drew1) | exact HB.out)) hb); clear HB; have HB := n0_; clear n0_; (try clear hb); (try clear hb2); (try clear hk); (try clear hi)) | ((with_reducible refine gate_dst (N := 11) rfl ?_); refine box_event ?hg (N := 11) ?hd (cs := #[.complex .f64 0 0, .complex .f64 0 0]) (t := 51) ?hr ?_; (case hd => rfl); (case hg => rfl); (case hr => first | (go_simp; done) | (go_simp; rfl)); intro gb190 hg w23 hbox hb; have n0_ := Aside0.mk (below_step (by repeat (first | (with_reducible first | exact HB.out | apply below_alloc | apply pw_below_drewN | apply below_drew1) | exact HB.out)) hb); have n1_ := Aside0.mk (hbox); have n2_ := Aside0.mk ((by rw [hg]; exact (below_size (by repeat (first | (with_reducible first | exact HB.out | apply below_alloc | apply pw_below_drewN | apply below_drew1) | exact HB.out))) : w.heap.size ≤ gb190)); have n3_ := Aside0.mk ((by rw [hg]; exact (below_size (by repeat (first | (with_reducible first | exact HB.out | apply below_alloc | apply pw_below_drewN | apply below_drew1) | exact HB.out))) : w.heap.size ≤ gb190)); clear HB; have HB := n0_; have BK190 := n1_; have GW190 := n2_; have GE190 := n3_; clear n0_ n1_ n2_ n3_; clear hb hbox hg; have hcz24_0 : w23.cell? ⟨gb190, 0, none⟩ = some (.complex .f64 0 0) := (blk_cell BK190.out 0).trans rfl; have hcz24_1 : w23.cell? ⟨gb190, 1, none⟩ = some (.complex .f64 0 0) := (blk_cell BK190.out 1).trans rfl; have hfz24_0 := blk_frozen BK190.out 0; have hfz24_1 := blk_frozen BK190.out 1) | ((with_reducible refine gate_callee (f := 42) rfl ?_); refine goesL_ (some 80) rfl rfl Try.func42 (by kernel_rfl) rfl #[.int .i64 a0, .int .i64 (wrap64 (a0 + a1)), .int .i64 (wrap64 (a2 + a3)), .int .i64 a4] rfl (by (try simp only [List.map_toArray, List.map_cons, List.map_nil]); first | done | rfl | (simp only [List.length_drop, List.length_take]; rfl)) ?_; (with_reducible refine (curve_Of.calls a0 (wrap64 (a0 + a1)) (wrap64 (a2 + a3)) a4 t191 t192 t193 _ A20.out).mono ?_); rintro e w25 ⟨rfl, hb⟩; refine ⟨_, rfl, ?_⟩; have n0_ := Aside0.mk (blk_below (g := gb190) (o := .cells #[.complex .f64 t187.re t187.im, .complex .f64 t188.re t188.im] 51 (0, 0)) (by (with_reducible repeat (first | refine blk_drewN ?_ _ | refine blk_drew ?_ | refine blk_alloc ?_ _)); refine blk_put (cs := #[.complex .f64 t187.re t187.im, .complex .f64 0 0]) ?_ 1 _ rfl; (with_reducible repeat (first | refine blk_drewN ?_ _ | refine blk_drew ?_ | refine blk_alloc ?_ _)); refine blk_put (cs := #[.complex .f64 0 0, .complex .f64 0 0]) ?_ 0 _ rfl; (with_reducible repeat (first | refine blk_drewN ?_ _ | refine blk_drew ?_ | refine blk_alloc ?_ _)); exact BK190.out) hb); have n1_ := Aside0.mk (below_step (by repeat (first | (with_reducible first | exact HB.out | apply below_alloc | apply pw_below_drewN | apply below_drew1 | refine below_set ?_ GE190.out) | exact HB.out)) hb); clear BK190; clear HB; have BK190 := n0_; have HB := n1_; clear n0_ n1_; (try clear hb); (try clear hb2); (try clear hk); (try clear hi)) | ((with_reducible refine gate_dst (N := 13) rfl ?_); refine box_event ?hg (N := 13) ?hd (cs := #[.complex .f64 0 0, .complex .f64 0 0]) (t := 51) ?hr ?_; (case hd => rfl); (case hg => rfl); (case hr => first | (go_simp; done) | (go_simp; rfl)); intro gb194 hg w26 hbox hb; have n0_ := Aside0.mk (blk_below (g := gb190) (o := .cells #[.complex .f64 t187.re t187.im, .complex .f64 t188.re t188.im] 51 (0, 0)) (by (with_reducible repeat (first | refine blk_drewN ?_ _ | refine blk_drew ?_ | refine blk_alloc ?_ _)); exact BK190.out) hb); have n1_ := Aside0.mk (below_step (by repeat (first | (with_reducible first | exact HB.out | apply below_alloc | apply pw_below_drewN | apply below_drew1 | refine below_set ?_ GE190.out) | exact HB.out)) hb); have n2_ := Aside0.mk (hbox); have n3_ := Aside0.mk ((by rw [hg]; exact (below_size (by repeat (first | (with_reducible first | exact HB.out | apply below_alloc | apply pw_below_drewN | apply below_drew1 | refine below_set ?_ GE190.out) | exact HB.out))) : w.heap.size ≤ gb194)); have n4_ := Aside0.mk ((by rw [hg]; exact (below_size (by repeat (first | (with_reducible first | exact HB.out | apply below_alloc | apply pw_below_drewN | apply below_drew1 | refine below_set ?_ GE190.out) | exact HB.out))) : w.heap.size ≤ gb194)); have n5_ := Aside0.mk ((by rw [hg]; exact Nat.ne_of_lt (blk_lt (g := gb190) (o := .cells #[.complex .f64 t187.re t187.im, .complex .f64 t188.re t188.im] 51 (0, 0)) (by (with_reducible repeat (first | refine blk_drewN ?_ _ | refine blk_drew ?_ | refine blk_alloc ?_ _)); exact BK190.out)) : gb190 ≠ gb194)); have n6_ := Aside0.mk ((by rw [hg]; exact Nat.ne_of_gt (blk_lt (g := gb190) (o := .cells #[.complex .f64 t187.re t187.im, .complex .f64 t188.re t188.im] 51 (0, 0)) (by (with_reducible repeat (first | refine blk_drewN ?_ _ | refine blk_drew ?_ | refine blk_alloc ?_ _)); exact BK190.out)) : gb194 ≠ gb190)); clear BK190; clear HB; have BK190 := n0_; have HB := n1_; have BK194 := n2_; have GW194 := n3_; have GE194 := n4_; have NB190_194 := n5_; have NB194_190 := n6_; clear n0_ n1_ n2_ n3_ n4_ n5_ n6_; clear hb hbox hg; have hnb27 := NB194_190.out; have hnc27 := NB190_194.out; have hcz28_0 : w26.cell? ⟨gb194, 0, none⟩ = some (.complex .f64 0 0) := (blk_cell BK194.out 0).trans rfl; have hcz28_1 : w26.cell? ⟨gb194, 1, none⟩ = some (.complex .f64 0 0) := (blk_cell BK194.out 1).trans rfl; have hfz28_0 := blk_frozen BK194.out 0; have hfz28_1 := blk_frozen BK194.out 1))
        (try simp only [Act.put, List.setIfInBounds_toArray, List.set_cons_zero, List.set_cons_succ])
        go_cut [88] (fun v88 wc => ∃ (kq : Nat) (x88_20 : Bool), v88 = .bool x88_20 ∧ Aside0 (coraclelaw16_CurveSteps.j1 kq a0 a1 a2 a4 t189 x88_20 t187 t188 t191 t192 = some r) ∧ Aside0 (kq ≤ kj5) ∧ Aside0 (wc.heap[gb190]? = some (.cells #[.complex .f64 t187.re t187.im, .complex .f64 t188.re t188.im] 51 (0, 0))) ∧ Aside0 (wc.heap[gb194]? = some (.cells #[.complex .f64 t191.re t191.im, .complex .f64 t192.re t192.im] 51 (0, 0))) ∧ Aside0 (Below w.heap.size w wc))
        case first =>
          have H := HC21.out
          clear HC21
          by_cases c29 : t189 = 0
          · rw [if_pos c29] at H
            have c29b0 : (t189 == 0) = true := beq_iff_eq.mpr c29
            have c29b1 : (t189 != 0) = false := bne_eq_false_iff_eq.mpr c29
            clear c29
            (first | rw [c29b0] | (simp only [i64_w, i32_w]; rw [c29b0]) | skip)
            have H' := Aside0.mk H
            clear H
            go_wp2
            go_meet
            case rel => exact ⟨_, ((t193 != 0)), (by first | rfl | (simp; done) | (simp [*]; done)), H', ⟨by have := HJ5.out; first | omega | exact Nat.le_refl _⟩, ⟨by (with_reducible repeat (first | refine blk_drewN ?_ _ | refine blk_drew ?_ | refine blk_alloc ?_ _)); refine blk_far ?_ NB190_194.out _; (with_reducible repeat (first | refine blk_drewN ?_ _ | refine blk_drew ?_ | refine blk_alloc ?_ _)); refine blk_far ?_ NB190_194.out _; (with_reducible repeat (first | refine blk_drewN ?_ _ | refine blk_drew ?_ | refine blk_alloc ?_ _)); exact BK190.out⟩, ⟨by (with_reducible repeat (first | refine blk_drewN ?_ _ | refine blk_drew ?_ | refine blk_alloc ?_ _)); refine blk_put (cs := #[.complex .f64 t191.re t191.im, .complex .f64 0 0]) ?_ 1 _ rfl; (with_reducible repeat (first | refine blk_drewN ?_ _ | refine blk_drew ?_ | refine blk_alloc ?_ _)); refine blk_put (cs := #[.complex .f64 0 0, .complex .f64 0 0]) ?_ 0 _ rfl; (with_reducible repeat (first | refine blk_drewN ?_ _ | refine blk_drew ?_ | refine blk_alloc ?_ _)); exact BK194.out⟩, ⟨by repeat (first | (with_reducible first | exact HB.out | apply below_alloc | apply pw_below_drewN | apply below_drew1 | refine below_set ?_ GE190.out | refine below_set ?_ GE194.out) | exact HB.out)⟩⟩
          · rw [if_neg c29] at H
            have c29b0 : (t189 == 0) = false := beq_eq_false_iff_ne.mpr c29
            have c29b1 : (t189 != 0) = true := bne_iff_ne.mpr c29
            (first | rw [c29b0] | (simp only [i64_w, i32_w]; rw [c29b0]) | skip)
            have H' := Aside0.mk H
            clear H
            go_wp2
            go_meet
            case rel => exact ⟨_, (true), (by first | rfl | (simp; done) | (simp [*]; done)), H', ⟨by have := HJ5.out; first | omega | exact Nat.le_refl _⟩, ⟨by (with_reducible repeat (first | refine blk_drewN ?_ _ | refine blk_drew ?_ | refine blk_alloc ?_ _)); refine blk_far ?_ NB190_194.out _; (with_reducible repeat (first | refine blk_drewN ?_ _ | refine blk_drew ?_ | refine blk_alloc ?_ _)); refine blk_far ?_ NB190_194.out _; (with_reducible repeat (first | refine blk_drewN ?_ _ | refine blk_drew ?_ | refine blk_alloc ?_ _)); exact BK190.out⟩, ⟨by (with_reducible repeat (first | refine blk_drewN ?_ _ | refine blk_drew ?_ | refine blk_alloc ?_ _)); refine blk_put (cs := #[.complex .f64 t191.re t191.im, .complex .f64 0 0]) ?_ 1 _ rfl; (with_reducible repeat (first | refine blk_drewN ?_ _ | refine blk_drew ?_ | refine blk_alloc ?_ _)); refine blk_put (cs := #[.complex .f64 0 0, .complex .f64 0 0]) ?_ 0 _ rfl; (with_reducible repeat (first | refine blk_drewN ?_ _ | refine blk_drew ?_ | refine blk_alloc ?_ _)); exact BK194.out⟩, ⟨by repeat (first | (with_reducible first | exact HB.out | apply below_alloc | apply pw_below_drewN | apply below_drew1 | refine below_set ?_ GE190.out | refine below_set ?_ GE194.out) | exact HB.out)⟩⟩
        case rest =>
          clear HC21
          try clear c1
          try clear c2
          try clear p2
          try clear c3
          try clear c4
          try clear p6
          try clear c7
          try clear c7b0
          try clear c8
          try clear c8b0
          try clear c9
          try clear c9b0
          try clear c10
          try clear c10b0
          try clear c11
          try clear c11b0
          try clear c12
          try clear c12b0
          try clear c13
          try clear c13b0
          try clear c14
          try clear c14b0
          try clear c15
          try clear c15b0
          try clear c16
          try clear c27
          try clear c29
          try clear c29b0
          try clear c29b1
          try clear hcz24_0
          try clear hcz24_1
          try clear hcz28_0
          try clear hcz28_1
          try clear hfz24_0
          try clear hfz24_1
          try clear hfz28_0
          try clear hfz28_1
          try clear p2
          obtain ⟨kq, x88_20, rfl, HA, HJ20, BK190, BK194, HB⟩ := hcut
          cases kq with
          | zero => exact absurd HA.out (by simp [coraclelaw16_CurveSteps.j1])
          | succ kj20 =>
            have H := HA.out
            clear HA
            simp only [coraclelaw16_CurveSteps.j1] at H
            by_cases c30 : x88_20 = true
            · subst c30
              have H1 : ((amount_Rate.f a2 a4).bind fun bt195 => (if bt195.1 < 253 then (if t189 = 1 then ((coraclelaw16_awake.f kj20).bind fun t197 => (some t197)) else (some false)) else (some false))) = some r := by rw [if_pos rfl] at H; exact H
              clear H
              have H := H1
              clear H1
              replace H := Option.bind_eq_some_iff.mp H
              obtain ⟨⟨t195, t196⟩, A310, H⟩ := H
              replace H : (if t195 < 253 then (if t189 = 1 then ((coraclelaw16_awake.f kj20).bind fun t197 => (some t197)) else (some false)) else (some false)) = some r := H
              have A31 := Aside0.mk A310
              clear A310
              by_cases c32 : t195 < 253
              · rw [if_pos c32] at H
                have c32b0 : decide (t195 < 253) = true := decide_eq_true c32
                clear c32
                by_cases c33 : t189 = 1
                · rw [if_pos c33] at H
                  have c33b0 : (t189 == 1) = true := beq_iff_eq.mpr c33
                  have c33b1 : (t189 != 1) = false := bne_eq_false_iff_eq.mpr c33
                  clear c33
                  replace H := Option.bind_eq_some_iff.mp H
                  obtain ⟨t197, A340, H⟩ := H
                  replace H : (some t197) = some r := H
                  have A34 := Aside0.mk A340
                  clear A340
                  obtain rfl := Option.some.inj H
                  go_wp2_with (first | ((with_reducible refine gate_callee (f := 26) rfl ?_); refine goesL_ (some 92) rfl rfl Try.func26 (by kernel_rfl) rfl #[.int .i64 a2, .int .i64 a4] rfl (by (try simp only [List.map_toArray, List.map_cons, List.map_nil]); first | done | rfl | (simp only [List.length_drop, List.length_take]; rfl)) ?_; (with_reducible refine (amount_Rate.calls a2 a4 t195 t196 _ A31.out).mono ?_); rintro e w35 ⟨rfl, hb⟩; refine ⟨_, rfl, ?_⟩; have n0_ := Aside0.mk (blk_below (g := gb190) (o := .cells #[.complex .f64 t187.re t187.im, .complex .f64 t188.re t188.im] 51 (0, 0)) (by (with_reducible repeat (first | refine blk_drewN ?_ _ | refine blk_drew ?_ | refine blk_alloc ?_ _)); exact BK190.out) hb); have n1_ := Aside0.mk (blk_below (g := gb194) (o := .cells #[.complex .f64 t191.re t191.im, .complex .f64 t192.re t192.im] 51 (0, 0)) (by (with_reducible repeat (first | refine blk_drewN ?_ _ | refine blk_drew ?_ | refine blk_alloc ?_ _)); exact BK194.out) hb); have n2_ := Aside0.mk (below_step (by repeat (first | (with_reducible first | exact HB.out | apply below_alloc | apply pw_below_drewN | apply below_drew1 | refine below_set ?_ GE190.out | refine below_set ?_ GE194.out) | exact HB.out)) hb); clear BK190; clear BK194; clear HB; have BK190 := n0_; have BK194 := n1_; have HB := n2_; clear n0_ n1_ n2_; (try clear hb); (try clear hb2); (try clear hk); (try clear hi)) | (go_at_call 37; (with_reducible refine (coraclelaw16_awake.calls kj20  t197 _ A34.out).mono ?_); rintro e w36 ⟨rfl, hb⟩; have n0_ := Aside0.mk (blk_below (g := gb190) (o := .cells #[.complex .f64 t187.re t187.im, .complex .f64 t188.re t188.im] 51 (0, 0)) (by (with_reducible repeat (first | refine blk_drewN ?_ _ | refine blk_drew ?_ | refine blk_alloc ?_ _)); exact BK190.out) hb); have n1_ := Aside0.mk (blk_below (g := gb194) (o := .cells #[.complex .f64 t191.re t191.im, .complex .f64 t192.re t192.im] 51 (0, 0)) (by (with_reducible repeat (first | refine blk_drewN ?_ _ | refine blk_drew ?_ | refine blk_alloc ?_ _)); exact BK194.out) hb); have n2_ := Aside0.mk (below_step (by repeat (first | (with_reducible first | exact HB.out | apply below_alloc | apply pw_below_drewN | apply below_drew1 | refine below_set ?_ GE190.out | refine below_set ?_ GE194.out) | exact HB.out)) hb); clear BK190; clear BK194; clear HB; have BK190 := n0_; have BK194 := n1_; have HB := n2_; clear n0_ n1_ n2_; (try clear hb); (try clear hb2); (try clear hk); (try clear hi)))
                  go_ret
                  exact ⟨by first | rfl | (simp [errW_none, errW_some] <;> rfl) | (simp [*, errW_none, errW_some] <;> rfl), by repeat (first | (with_reducible first | exact HB.out | apply below_alloc | apply pw_below_drewN | apply below_drew1 | refine below_set ?_ GE190.out | refine below_set ?_ GE194.out) | exact HB.out)⟩
                · rw [if_neg c33] at H
                  have c33b0 : (t189 == 1) = false := beq_eq_false_iff_ne.mpr c33
                  have c33b1 : (t189 != 1) = true := bne_iff_ne.mpr c33
                  obtain rfl := Option.some.inj H
                  go_wp2_with (first | ((with_reducible refine gate_callee (f := 26) rfl ?_); refine goesL_ (some 92) rfl rfl Try.func26 (by kernel_rfl) rfl #[.int .i64 a2, .int .i64 a4] rfl (by (try simp only [List.map_toArray, List.map_cons, List.map_nil]); first | done | rfl | (simp only [List.length_drop, List.length_take]; rfl)) ?_; (with_reducible refine (amount_Rate.calls a2 a4 t195 t196 _ A31.out).mono ?_); rintro e w37 ⟨rfl, hb⟩; refine ⟨_, rfl, ?_⟩; have n0_ := Aside0.mk (blk_below (g := gb190) (o := .cells #[.complex .f64 t187.re t187.im, .complex .f64 t188.re t188.im] 51 (0, 0)) (by (with_reducible repeat (first | refine blk_drewN ?_ _ | refine blk_drew ?_ | refine blk_alloc ?_ _)); exact BK190.out) hb); have n1_ := Aside0.mk (blk_below (g := gb194) (o := .cells #[.complex .f64 t191.re t191.im, .complex .f64 t192.re t192.im] 51 (0, 0)) (by (with_reducible repeat (first | refine blk_drewN ?_ _ | refine blk_drew ?_ | refine blk_alloc ?_ _)); exact BK194.out) hb); have n2_ := Aside0.mk (below_step (by repeat (first | (with_reducible first | exact HB.out | apply below_alloc | apply pw_below_drewN | apply below_drew1 | refine below_set ?_ GE190.out | refine below_set ?_ GE194.out) | exact HB.out)) hb); clear BK190; clear BK194; clear HB; have BK190 := n0_; have BK194 := n1_; have HB := n2_; clear n0_ n1_ n2_; (try clear hb); (try clear hb2); (try clear hk); (try clear hi)))
                  go_ret
                  exact ⟨by first | rfl | (simp [errW_none, errW_some] <;> rfl) | (simp [*, errW_none, errW_some] <;> rfl), by repeat (first | (with_reducible first | exact HB.out | apply below_alloc | apply pw_below_drewN | apply below_drew1 | refine below_set ?_ GE190.out | refine below_set ?_ GE194.out) | exact HB.out)⟩
              · rw [if_neg c32] at H
                have c32b0 : decide (t195 < 253) = false := decide_eq_false c32
                clear c32
                obtain rfl := Option.some.inj H
                go_wp2_with (first | ((with_reducible refine gate_callee (f := 26) rfl ?_); refine goesL_ (some 92) rfl rfl Try.func26 (by kernel_rfl) rfl #[.int .i64 a2, .int .i64 a4] rfl (by (try simp only [List.map_toArray, List.map_cons, List.map_nil]); first | done | rfl | (simp only [List.length_drop, List.length_take]; rfl)) ?_; (with_reducible refine (amount_Rate.calls a2 a4 t195 t196 _ A31.out).mono ?_); rintro e w38 ⟨rfl, hb⟩; refine ⟨_, rfl, ?_⟩; have n0_ := Aside0.mk (blk_below (g := gb190) (o := .cells #[.complex .f64 t187.re t187.im, .complex .f64 t188.re t188.im] 51 (0, 0)) (by (with_reducible repeat (first | refine blk_drewN ?_ _ | refine blk_drew ?_ | refine blk_alloc ?_ _)); exact BK190.out) hb); have n1_ := Aside0.mk (blk_below (g := gb194) (o := .cells #[.complex .f64 t191.re t191.im, .complex .f64 t192.re t192.im] 51 (0, 0)) (by (with_reducible repeat (first | refine blk_drewN ?_ _ | refine blk_drew ?_ | refine blk_alloc ?_ _)); exact BK194.out) hb); have n2_ := Aside0.mk (below_step (by repeat (first | (with_reducible first | exact HB.out | apply below_alloc | apply pw_below_drewN | apply below_drew1 | refine below_set ?_ GE190.out | refine below_set ?_ GE194.out) | exact HB.out)) hb); clear BK190; clear BK194; clear HB; have BK190 := n0_; have BK194 := n1_; have HB := n2_; clear n0_ n1_ n2_; (try clear hb); (try clear hb2); (try clear hk); (try clear hi)))
                go_ret
                exact ⟨by first | rfl | (simp [errW_none, errW_some] <;> rfl) | (simp [*, errW_none, errW_some] <;> rfl), by repeat (first | (with_reducible first | exact HB.out | apply below_alloc | apply pw_below_drewN | apply below_drew1 | refine below_set ?_ GE190.out | refine below_set ?_ GE194.out) | exact HB.out)⟩
            · replace c30 := Bool.eq_false_iff.mpr c30
              subst c30
              have H1 : ((curve_Curve_At.f t187 t188 (wrap64 (a0 + a1))).bind fun t198 => (coraclelaw16_CurveSteps.l0 kj20 a0 a1 t198 a0 t187 t188 t191 t192)) = some r := by rw [if_neg (show ¬ (false = true) by decide)] at H; exact H
              clear H
              have H := H1
              clear H1
              replace H := Option.bind_eq_some_iff.mp H
              obtain ⟨t198, A390, H⟩ := H
              replace H : (coraclelaw16_CurveSteps.l0 kj20 a0 a1 t198 a0 t187 t188 t191 t192) = some r := H
              have A39 := Aside0.mk A390
              clear A390
              have H' := Aside0.mk H
              clear H
              have hnb40 := NB190_194.out
              have hnc40 := NB194_190.out
              have hcz41_0 : wc.cell? ⟨gb190, 0, none⟩ = some (.complex .f64 t187.re t187.im) := (blk_cell BK190.out 0).trans rfl
              have hcz41_1 : wc.cell? ⟨gb190, 1, none⟩ = some (.complex .f64 t188.re t188.im) := (blk_cell BK190.out 1).trans rfl
              have hfz41_0 := blk_frozen BK190.out 0
              have hfz41_1 := blk_frozen BK190.out 1
              go_wp2_with (first | ((with_reducible refine gate_callee (f := 39) rfl ?_); refine goesL_ (some 108) rfl rfl Try.func39 (by kernel_rfl) rfl #[.agg #[.complex .f64 t187.re t187.im, .complex .f64 t188.re t188.im], .int .i64 (wrap64 (a0 + a1))] rfl (by (try simp only [List.map_toArray, List.map_cons, List.map_nil]); first | done | rfl | (simp only [List.length_drop, List.length_take]; rfl)) ?_; (with_reducible refine (curve_Curve_At.calls t187 t188 (wrap64 (a0 + a1)) t198 _ A39.out).mono ?_); rintro e w42 ⟨rfl, hb⟩; refine ⟨_, rfl, ?_⟩; have n0_ := Aside0.mk (blk_below (g := gb190) (o := .cells #[.complex .f64 t187.re t187.im, .complex .f64 t188.re t188.im] 51 (0, 0)) (by (with_reducible repeat (first | refine blk_drewN ?_ _ | refine blk_drew ?_ | refine blk_alloc ?_ _)); exact BK190.out) hb); have n1_ := Aside0.mk (blk_below (g := gb194) (o := .cells #[.complex .f64 t191.re t191.im, .complex .f64 t192.re t192.im] 51 (0, 0)) (by (with_reducible repeat (first | refine blk_drewN ?_ _ | refine blk_drew ?_ | refine blk_alloc ?_ _)); exact BK194.out) hb); have n2_ := Aside0.mk (below_step (by repeat (first | (with_reducible first | exact HB.out | apply below_alloc | apply pw_below_drewN | apply below_drew1 | refine below_set ?_ GE190.out | refine below_set ?_ GE194.out) | exact HB.out)) hb); clear BK190; clear BK194; clear HB; have BK190 := n0_; have BK194 := n1_; have HB := n2_; clear n0_ n1_ n2_; (try clear hb); (try clear hb2); (try clear hk); (try clear hi)))
              go_loopg [18] kj20 (fun kq v18 w' => ∃ (x18_3 : Int), v18 = .int .i64 x18_3 ∧ Aside0 (coraclelaw16_CurveSteps.l0 kq a0 a1 t198 x18_3 t187 t188 t191 t192 = some r) ∧ Aside0 (kq ≤ kj20) ∧ Aside0 (w'.heap[gb190]? = some (.cells #[.complex .f64 t187.re t187.im, .complex .f64 t188.re t188.im] 51 (0, 0))) ∧ Aside0 (w'.heap[gb194]? = some (.cells #[.complex .f64 t191.re t191.im, .complex .f64 t192.re t192.im] 51 (0, 0))) ∧ Aside0 (Below w.heap.size w w'))
              case atStart => exact ⟨(a0), (by first | rfl | (simp; done) | (simp [*]; done)), H', ⟨Nat.le_refl _⟩, ⟨by (with_reducible repeat (first | refine blk_drewN ?_ _ | refine blk_drew ?_ | refine blk_alloc ?_ _)); exact BK190.out⟩, ⟨by (with_reducible repeat (first | refine blk_drewN ?_ _ | refine blk_drew ?_ | refine blk_alloc ?_ _)); exact BK194.out⟩, ⟨by repeat (first | (with_reducible first | exact HB.out | apply below_alloc | apply pw_below_drewN | apply below_drew1 | refine below_set ?_ GE190.out | refine below_set ?_ GE194.out) | exact HB.out)⟩⟩
              case round =>
                clear H'
                try clear c1
                try clear c2
                try clear p2
                try clear c3
                try clear c4
                try clear p6
                try clear c7
                try clear c7b0
                try clear c8
                try clear c8b0
                try clear c9
                try clear c9b0
                try clear c10
                try clear c10b0
                try clear c11
                try clear c11b0
                try clear c12
                try clear c12b0
                try clear c13
                try clear c13b0
                try clear c14
                try clear c14b0
                try clear c15
                try clear c15b0
                try clear c16
                try clear c26
                try clear c27
                try clear c29
                try clear c29b0
                try clear c29b1
                try clear c30
                try clear c32
                try clear c32b0
                try clear c33
                try clear c33b0
                try clear c33b1
                try clear c37
                try clear c39
                try clear c40
                try clear c42
                try clear hcz24_0
                try clear hcz24_1
                try clear hcz28_0
                try clear hcz28_1
                try clear hcz41_0
                try clear hcz41_1
                try clear hfz24_0
                try clear hfz24_1
                try clear hfz28_0
                try clear hfz28_1
                try clear hfz41_0
                try clear hfz41_1
                try clear p2
                try clear p6
                obtain ⟨x18_3, rfl, HA, HK3, BK190, BK194, HB⟩ := hrel
                cases gk with
                | zero => exact absurd HA.out (by simp [coraclelaw16_CurveSteps.l0])
                | succ k3 =>
                  have H := HA.out
                  clear HA
                  simp only [coraclelaw16_CurveSteps.l0] at H
                  by_cases c43 : x18_3 < (wrap64 (a0 + a1))
                  · rw [if_pos c43] at H
                    have c43b0 : decide (x18_3 < (wrap64 (a0 + a1))) = true := decide_eq_true c43
                    clear c43
                    replace H := Option.bind_eq_some_iff.mp H
                    obtain ⟨t201, A440, H⟩ := H
                    replace H : ((curve_Curve_At.f t187 t188 (wrap64 (x18_3 + 1))).bind fun t202 => (if a1 = 0 then (none) else (if (wrap64 (t202 - t201)) < (wrap64 (Int.tdiv (wrap64 (t198 - 253)) a1)) then (some false) else (if (wrap64 (t202 - t201)) > (wrap64 ((wrap64 (Int.tdiv (wrap64 (t198 - 253)) a1)) + 1)) then (some false) else ((curve_Curve_At.f t191 t192 x18_3).bind fun t203 => (if t203 < t201 then (some false) else (coraclelaw16_CurveSteps.l0 k3 a0 a1 t198 (wrap64 (x18_3 + 1)) t187 t188 t191 t192))))))) = some r := H
                    have A44 := Aside0.mk A440
                    clear A440
                    replace H := Option.bind_eq_some_iff.mp H
                    obtain ⟨t202, A450, H⟩ := H
                    replace H : (if a1 = 0 then (none) else (if (wrap64 (t202 - t201)) < (wrap64 (Int.tdiv (wrap64 (t198 - 253)) a1)) then (some false) else (if (wrap64 (t202 - t201)) > (wrap64 ((wrap64 (Int.tdiv (wrap64 (t198 - 253)) a1)) + 1)) then (some false) else ((curve_Curve_At.f t191 t192 x18_3).bind fun t203 => (if t203 < t201 then (some false) else (coraclelaw16_CurveSteps.l0 k3 a0 a1 t198 (wrap64 (x18_3 + 1)) t187 t188 t191 t192)))))) = some r := H
                    have A45 := Aside0.mk A450
                    clear A450
                    by_cases c46 : a1 = 0
                    · rw [if_pos c46] at H
                      exact absurd H (by simp)
                    · rw [if_neg c46] at H
                      have c46b0 : (a1 == 0) = false := beq_eq_false_iff_ne.mpr c46
                      have c46b1 : (a1 != 0) = true := bne_iff_ne.mpr c46
                      by_cases c47 : (wrap64 (t202 - t201)) < (wrap64 (Int.tdiv (wrap64 (t198 - 253)) a1))
                      · rw [if_pos c47] at H
                        have c47b0 : decide ((wrap64 (t202 - t201)) < (wrap64 (Int.tdiv (wrap64 (t198 - 253)) a1))) = true := decide_eq_true c47
                        clear c47
                        obtain rfl := Option.some.inj H
                        try go_wp2
                        have n0_ := Aside0.mk (blk_drew BK190.out)
                        have n1_ := Aside0.mk (blk_drew BK194.out)
                        have n2_ := Aside0.mk (below_drew1 HB.out)
                        clear BK190
                        clear BK194
                        clear HB
                        have BK190 := n0_
                        have BK194 := n1_
                        have HB := n2_
                        clear n0_ n1_ n2_
                        refine start_ (n := 9) (S := fun w' => w'.cell? ⟨gb190, 0, none⟩ = some (.complex .f64 t187.re t187.im) ∧ w'.cell? ⟨gb190, 1, none⟩ = some (.complex .f64 t188.re t188.im)) (ds := []) #[false, false, false, false, false, false, false, false, false] (by kernel_rfl) rfl rfl ⟨(blk_cell BK190.out 0).trans rfl, (blk_cell BK190.out 1).trans rfl⟩ (fun hHeld => ?_); refine with_tabW coraclelaw16_CurveSteps.tab12 coraclelaw16_CurveSteps.bits12 (fun HT_ HW_ => ?_)
                        generalize wr.drew = w48 at BK190 BK194 HB hHeld ⊢
                        refine pure_ (i := 1) (N := some 118) (v := ?_) (a' := ?_) #[false, true, false, false, false, false, false, false, false] rfl rfl (any_of HT_.out (by kernel_rfl)) (fun _ _ _ h => h) (Or.inl ⟨by rfl, ?_⟩) ?_ ?_
                        rotate_left
                        · intro w'
                          go_simp
                          with_reducible rfl
                        rotate_left
                        · simp only [Act.put, List.setIfInBounds_toArray, List.set_cons_zero, List.set_cons_succ, i64_w, i32_w]
                          rfl
                        refine pure_ (i := 4) (N := some 121) (v := ?_) (a' := ?_) #[false, true, false, false, true, false, false, false, false] rfl rfl (any_of HT_.out (by kernel_rfl)) (fun _ _ _ h => h) (Or.inl ⟨by rfl, ?_⟩) ?_ ?_
                        rotate_left
                        · intro w'
                          go_simp
                          with_reducible rfl
                        rotate_left
                        · simp only [Act.put, List.setIfInBounds_toArray, List.set_cons_zero, List.set_cons_succ, i64_w, i32_w]
                          rfl
                        refine pure_ (i := 5) (N := some 122) (v := ?_) (a' := ?_) #[false, true, false, false, true, true, false, false, false] rfl rfl (any_of HT_.out (by kernel_rfl)) (fun _ _ _ h => h) (Or.inl ⟨by rfl, ?_⟩) ?_ ?_
                        rotate_left
                        · intro w'
                          go_simp
                          with_reducible rfl
                        rotate_left
                        · simp only [Act.put, List.setIfInBounds_toArray, List.set_cons_zero, List.set_cons_succ, i64_w, i32_w]
                          rfl
                        refine take_ (i := 0) (N := some 117) (v := ?_) (a' := ?_) #[true, true, false, false, true, true, false, false, false] rfl rfl (take_ofW HT_.out HW_.out (by kernel_rfl)) (fun _ _ _ h => h) (Or.inl ⟨by rfl, ?_⟩) hHeld ?_ ?_
                        rotate_left
                        · rintro w' ⟨s0, s1⟩
                          go_simp
                          with_reducible rfl
                        rotate_left
                        · simp only [Act.put, List.setIfInBounds_toArray, List.set_cons_zero, List.set_cons_succ, i64_w, i32_w]
                          rfl
                        refine take_ (i := 3) (N := some 120) (v := ?_) (a' := ?_) #[true, true, false, true, true, true, false, false, false] rfl rfl (take_ofW HT_.out HW_.out (by kernel_rfl)) (fun _ _ _ h => h) (Or.inl ⟨by rfl, ?_⟩) hHeld ?_ ?_
                        rotate_left
                        · rintro w' ⟨s0, s1⟩
                          go_simp
                          with_reducible rfl
                        rotate_left
                        · simp only [Act.put, List.setIfInBounds_toArray, List.set_cons_zero, List.set_cons_succ, i64_w, i32_w]
                          rfl
                        refine one_ (i := 2) (N := some 119) #[true, true, true, true, true, true, false, false, false] rfl rfl (one_of HT_.out (by kernel_rfl)) (by decide) (fun K hK => ?_)
                        refine goes_ Try.func39 (by kernel_rfl) rfl #[.agg #[.complex .f64 t187.re t187.im, .complex .f64 t188.re t188.im], .int .i64 x18_3] (by rfl) rfl rfl (by (try simp only [List.map_toArray, List.map_cons, List.map_nil]); first | done | rfl | (simp only [List.length_drop, List.length_take]; rfl)) ?_
                        with_reducible refine (curve_Curve_At.calls t187 t188 x18_3 t201 _ A44.out).mono ?_
                        rintro e w49 ⟨rfl, hb⟩
                        refine ⟨_, rfl, ?_⟩
                        have n0_ := Aside0.mk (blk_below (g := gb190) (o := .cells #[.complex .f64 t187.re t187.im, .complex .f64 t188.re t188.im] 51 (0, 0)) (by (with_reducible repeat (first | refine blk_drewN ?_ _ | refine blk_drew ?_ | refine blk_alloc ?_ _)); exact BK190.out) hb)
                        have n1_ := Aside0.mk (blk_below (g := gb194) (o := .cells #[.complex .f64 t191.re t191.im, .complex .f64 t192.re t192.im] 51 (0, 0)) (by (with_reducible repeat (first | refine blk_drewN ?_ _ | refine blk_drew ?_ | refine blk_alloc ?_ _)); exact BK194.out) hb)
                        have n2_ := Aside0.mk (below_step (by repeat (first | (with_reducible first | exact HB.out | apply below_alloc | apply pw_below_drewN | apply below_drew1 | refine below_set ?_ GE190.out | refine below_set ?_ GE194.out) | exact HB.out)) hb)
                        clear BK190
                        clear BK194
                        clear HB
                        have BK190 := n0_
                        have BK194 := n1_
                        have HB := n2_
                        clear n0_ n1_ n2_
                        (try clear hb)
                        (try clear hb2)
                        (try clear hk)
                        (try clear hi)
                        refine hK.out _ _ ⟨(blk_cell BK190.out 0).trans rfl, (blk_cell BK190.out 1).trans rfl⟩ (fun hHeld => ?_)
                        clear hK K
                        refine norm_ (a' := ?_) ?_ ?_
                        rotate_left
                        · show Act.put _ (some 119) _ = _
                          simp only [Act.put, List.setIfInBounds_toArray, List.set_cons_zero, List.set_cons_succ, i64_w, i32_w]
                          rfl
                        refine one_ (i := 6) (N := some 123) #[true, true, true, true, true, true, true, false, false] rfl rfl (one_of HT_.out (by kernel_rfl)) (by decide) (fun K hK => ?_)
                        refine goes_ Try.func39 (by kernel_rfl) rfl #[.agg #[.complex .f64 t187.re t187.im, .complex .f64 t188.re t188.im], .int .i64 (wrap64 (x18_3 + 1))] (by rfl) rfl rfl (by (try simp only [List.map_toArray, List.map_cons, List.map_nil]); first | done | rfl | (simp only [List.length_drop, List.length_take]; rfl)) ?_
                        with_reducible refine (curve_Curve_At.calls t187 t188 (wrap64 (x18_3 + 1)) t202 _ A45.out).mono ?_
                        rintro e w50 ⟨rfl, hb⟩
                        refine ⟨_, rfl, ?_⟩
                        have n0_ := Aside0.mk (blk_below (g := gb190) (o := .cells #[.complex .f64 t187.re t187.im, .complex .f64 t188.re t188.im] 51 (0, 0)) (by (with_reducible repeat (first | refine blk_drewN ?_ _ | refine blk_drew ?_ | refine blk_alloc ?_ _)); exact BK190.out) hb)
                        have n1_ := Aside0.mk (blk_below (g := gb194) (o := .cells #[.complex .f64 t191.re t191.im, .complex .f64 t192.re t192.im] 51 (0, 0)) (by (with_reducible repeat (first | refine blk_drewN ?_ _ | refine blk_drew ?_ | refine blk_alloc ?_ _)); exact BK194.out) hb)
                        have n2_ := Aside0.mk (below_step (by repeat (first | (with_reducible first | exact HB.out | apply below_alloc | apply pw_below_drewN | apply below_drew1 | refine below_set ?_ GE190.out | refine below_set ?_ GE194.out) | exact HB.out)) hb)
                        clear BK190
                        clear BK194
                        clear HB
                        have BK190 := n0_
                        have BK194 := n1_
                        have HB := n2_
                        clear n0_ n1_ n2_
                        (try clear hb)
                        (try clear hb2)
                        (try clear hk)
                        (try clear hi)
                        refine hK.out _ _ ⟨(blk_cell BK190.out 0).trans rfl, (blk_cell BK190.out 1).trans rfl⟩ (fun hHeld => ?_)
                        clear hK K
                        refine norm_ (a' := ?_) ?_ ?_
                        rotate_left
                        · show Act.put _ (some 123) _ = _
                          simp only [Act.put, List.setIfInBounds_toArray, List.set_cons_zero, List.set_cons_succ, i64_w, i32_w]
                          rfl
                        refine pure_ (i := 7) (N := some 19) (v := ?_) (a' := ?_) #[true, true, true, true, true, true, true, true, false] rfl rfl (any_of HT_.out (by kernel_rfl)) (fun _ _ _ h => h) (Or.inl ⟨by rfl, ?_⟩) ?_ ?_
                        rotate_left
                        · intro w'
                          go_simp
                          with_reducible rfl
                        rotate_left
                        · simp only [Act.put, List.setIfInBounds_toArray, List.set_cons_zero, List.set_cons_succ, i64_w, i32_w]
                          rfl
                        refine pure_ (i := 8) (N := some 20) (v := ?_) (a' := ?_) #[true, true, true, true, true, true, true, true, true] rfl rfl (any_of HT_.out (by kernel_rfl)) (fun _ _ _ h => h) (Or.inl ⟨by rfl, ?_⟩) ?_ ?_
                        rotate_left
                        · intro w'
                          go_simp
                          with_reducible rfl
                        rotate_left
                        · simp only [Act.put, List.setIfInBounds_toArray, List.set_cons_zero, List.set_cons_succ, i64_w, i32_w]
                          rfl
                        refine done_ (done_of HT_.out (by kernel_rfl)) ?_
                        try go_wp2
                        go_ret
                        exact ⟨by first | rfl | (simp [errW_none, errW_some] <;> rfl) | (simp [*, errW_none, errW_some] <;> rfl), by repeat (first | (with_reducible first | exact HB.out | apply below_alloc | apply pw_below_drewN | apply below_drew1 | refine below_set ?_ GE190.out | refine below_set ?_ GE194.out) | exact HB.out)⟩
                      · rw [if_neg c47] at H
                        have c47b0 : decide ((wrap64 (t202 - t201)) < (wrap64 (Int.tdiv (wrap64 (t198 - 253)) a1))) = false := decide_eq_false c47
                        clear c47
                        by_cases c51 : (wrap64 (t202 - t201)) > (wrap64 ((wrap64 (Int.tdiv (wrap64 (t198 - 253)) a1)) + 1))
                        · rw [if_pos c51] at H
                          have c51b0 : decide ((wrap64 ((wrap64 (Int.tdiv (wrap64 (t198 - 253)) a1)) + 1)) < (wrap64 (t202 - t201))) = true := decide_eq_true c51
                          clear c51
                          obtain rfl := Option.some.inj H
                          try go_wp2
                          have n0_ := Aside0.mk (blk_drew BK190.out)
                          have n1_ := Aside0.mk (blk_drew BK194.out)
                          have n2_ := Aside0.mk (below_drew1 HB.out)
                          clear BK190
                          clear BK194
                          clear HB
                          have BK190 := n0_
                          have BK194 := n1_
                          have HB := n2_
                          clear n0_ n1_ n2_
                          refine start_ (n := 9) (S := fun w' => w'.cell? ⟨gb190, 0, none⟩ = some (.complex .f64 t187.re t187.im) ∧ w'.cell? ⟨gb190, 1, none⟩ = some (.complex .f64 t188.re t188.im)) (ds := []) #[false, false, false, false, false, false, false, false, false] (by kernel_rfl) rfl rfl ⟨(blk_cell BK190.out 0).trans rfl, (blk_cell BK190.out 1).trans rfl⟩ (fun hHeld => ?_); refine with_tabW coraclelaw16_CurveSteps.tab12 coraclelaw16_CurveSteps.bits12 (fun HT_ HW_ => ?_)
                          generalize wr.drew = w52 at BK190 BK194 HB hHeld ⊢
                          refine pure_ (i := 1) (N := some 118) (v := ?_) (a' := ?_) #[false, true, false, false, false, false, false, false, false] rfl rfl (any_of HT_.out (by kernel_rfl)) (fun _ _ _ h => h) (Or.inl ⟨by rfl, ?_⟩) ?_ ?_
                          rotate_left
                          · intro w'
                            go_simp
                            with_reducible rfl
                          rotate_left
                          · simp only [Act.put, List.setIfInBounds_toArray, List.set_cons_zero, List.set_cons_succ, i64_w, i32_w]
                            rfl
                          refine pure_ (i := 4) (N := some 121) (v := ?_) (a' := ?_) #[false, true, false, false, true, false, false, false, false] rfl rfl (any_of HT_.out (by kernel_rfl)) (fun _ _ _ h => h) (Or.inl ⟨by rfl, ?_⟩) ?_ ?_
                          rotate_left
                          · intro w'
                            go_simp
                            with_reducible rfl
                          rotate_left
                          · simp only [Act.put, List.setIfInBounds_toArray, List.set_cons_zero, List.set_cons_succ, i64_w, i32_w]
                            rfl
                          refine pure_ (i := 5) (N := some 122) (v := ?_) (a' := ?_) #[false, true, false, false, true, true, false, false, false] rfl rfl (any_of HT_.out (by kernel_rfl)) (fun _ _ _ h => h) (Or.inl ⟨by rfl, ?_⟩) ?_ ?_
                          rotate_left
                          · intro w'
                            go_simp
                            with_reducible rfl
                          rotate_left
                          · simp only [Act.put, List.setIfInBounds_toArray, List.set_cons_zero, List.set_cons_succ, i64_w, i32_w]
                            rfl
                          refine take_ (i := 0) (N := some 117) (v := ?_) (a' := ?_) #[true, true, false, false, true, true, false, false, false] rfl rfl (take_ofW HT_.out HW_.out (by kernel_rfl)) (fun _ _ _ h => h) (Or.inl ⟨by rfl, ?_⟩) hHeld ?_ ?_
                          rotate_left
                          · rintro w' ⟨s0, s1⟩
                            go_simp
                            with_reducible rfl
                          rotate_left
                          · simp only [Act.put, List.setIfInBounds_toArray, List.set_cons_zero, List.set_cons_succ, i64_w, i32_w]
                            rfl
                          refine take_ (i := 3) (N := some 120) (v := ?_) (a' := ?_) #[true, true, false, true, true, true, false, false, false] rfl rfl (take_ofW HT_.out HW_.out (by kernel_rfl)) (fun _ _ _ h => h) (Or.inl ⟨by rfl, ?_⟩) hHeld ?_ ?_
                          rotate_left
                          · rintro w' ⟨s0, s1⟩
                            go_simp
                            with_reducible rfl
                          rotate_left
                          · simp only [Act.put, List.setIfInBounds_toArray, List.set_cons_zero, List.set_cons_succ, i64_w, i32_w]
                            rfl
                          refine one_ (i := 2) (N := some 119) #[true, true, true, true, true, true, false, false, false] rfl rfl (one_of HT_.out (by kernel_rfl)) (by decide) (fun K hK => ?_)
                          refine goes_ Try.func39 (by kernel_rfl) rfl #[.agg #[.complex .f64 t187.re t187.im, .complex .f64 t188.re t188.im], .int .i64 x18_3] (by rfl) rfl rfl (by (try simp only [List.map_toArray, List.map_cons, List.map_nil]); first | done | rfl | (simp only [List.length_drop, List.length_take]; rfl)) ?_
                          with_reducible refine (curve_Curve_At.calls t187 t188 x18_3 t201 _ A44.out).mono ?_
                          rintro e w53 ⟨rfl, hb⟩
                          refine ⟨_, rfl, ?_⟩
                          have n0_ := Aside0.mk (blk_below (g := gb190) (o := .cells #[.complex .f64 t187.re t187.im, .complex .f64 t188.re t188.im] 51 (0, 0)) (by (with_reducible repeat (first | refine blk_drewN ?_ _ | refine blk_drew ?_ | refine blk_alloc ?_ _)); exact BK190.out) hb)
                          have n1_ := Aside0.mk (blk_below (g := gb194) (o := .cells #[.complex .f64 t191.re t191.im, .complex .f64 t192.re t192.im] 51 (0, 0)) (by (with_reducible repeat (first | refine blk_drewN ?_ _ | refine blk_drew ?_ | refine blk_alloc ?_ _)); exact BK194.out) hb)
                          have n2_ := Aside0.mk (below_step (by repeat (first | (with_reducible first | exact HB.out | apply below_alloc | apply pw_below_drewN | apply below_drew1 | refine below_set ?_ GE190.out | refine below_set ?_ GE194.out) | exact HB.out)) hb)
                          clear BK190
                          clear BK194
                          clear HB
                          have BK190 := n0_
                          have BK194 := n1_
                          have HB := n2_
                          clear n0_ n1_ n2_
                          (try clear hb)
                          (try clear hb2)
                          (try clear hk)
                          (try clear hi)
                          refine hK.out _ _ ⟨(blk_cell BK190.out 0).trans rfl, (blk_cell BK190.out 1).trans rfl⟩ (fun hHeld => ?_)
                          clear hK K
                          refine norm_ (a' := ?_) ?_ ?_
                          rotate_left
                          · show Act.put _ (some 119) _ = _
                            simp only [Act.put, List.setIfInBounds_toArray, List.set_cons_zero, List.set_cons_succ, i64_w, i32_w]
                            rfl
                          refine one_ (i := 6) (N := some 123) #[true, true, true, true, true, true, true, false, false] rfl rfl (one_of HT_.out (by kernel_rfl)) (by decide) (fun K hK => ?_)
                          refine goes_ Try.func39 (by kernel_rfl) rfl #[.agg #[.complex .f64 t187.re t187.im, .complex .f64 t188.re t188.im], .int .i64 (wrap64 (x18_3 + 1))] (by rfl) rfl rfl (by (try simp only [List.map_toArray, List.map_cons, List.map_nil]); first | done | rfl | (simp only [List.length_drop, List.length_take]; rfl)) ?_
                          with_reducible refine (curve_Curve_At.calls t187 t188 (wrap64 (x18_3 + 1)) t202 _ A45.out).mono ?_
                          rintro e w54 ⟨rfl, hb⟩
                          refine ⟨_, rfl, ?_⟩
                          have n0_ := Aside0.mk (blk_below (g := gb190) (o := .cells #[.complex .f64 t187.re t187.im, .complex .f64 t188.re t188.im] 51 (0, 0)) (by (with_reducible repeat (first | refine blk_drewN ?_ _ | refine blk_drew ?_ | refine blk_alloc ?_ _)); exact BK190.out) hb)
                          have n1_ := Aside0.mk (blk_below (g := gb194) (o := .cells #[.complex .f64 t191.re t191.im, .complex .f64 t192.re t192.im] 51 (0, 0)) (by (with_reducible repeat (first | refine blk_drewN ?_ _ | refine blk_drew ?_ | refine blk_alloc ?_ _)); exact BK194.out) hb)
                          have n2_ := Aside0.mk (below_step (by repeat (first | (with_reducible first | exact HB.out | apply below_alloc | apply pw_below_drewN | apply below_drew1 | refine below_set ?_ GE190.out | refine below_set ?_ GE194.out) | exact HB.out)) hb)
                          clear BK190
                          clear BK194
                          clear HB
                          have BK190 := n0_
                          have BK194 := n1_
                          have HB := n2_
                          clear n0_ n1_ n2_
                          (try clear hb)
                          (try clear hb2)
                          (try clear hk)
                          (try clear hi)
                          refine hK.out _ _ ⟨(blk_cell BK190.out 0).trans rfl, (blk_cell BK190.out 1).trans rfl⟩ (fun hHeld => ?_)
                          clear hK K
                          refine norm_ (a' := ?_) ?_ ?_
                          rotate_left
                          · show Act.put _ (some 123) _ = _
                            simp only [Act.put, List.setIfInBounds_toArray, List.set_cons_zero, List.set_cons_succ, i64_w, i32_w]
                            rfl
                          refine pure_ (i := 7) (N := some 19) (v := ?_) (a' := ?_) #[true, true, true, true, true, true, true, true, false] rfl rfl (any_of HT_.out (by kernel_rfl)) (fun _ _ _ h => h) (Or.inl ⟨by rfl, ?_⟩) ?_ ?_
                          rotate_left
                          · intro w'
                            go_simp
                            with_reducible rfl
                          rotate_left
                          · simp only [Act.put, List.setIfInBounds_toArray, List.set_cons_zero, List.set_cons_succ, i64_w, i32_w]
                            rfl
                          refine pure_ (i := 8) (N := some 20) (v := ?_) (a' := ?_) #[true, true, true, true, true, true, true, true, true] rfl rfl (any_of HT_.out (by kernel_rfl)) (fun _ _ _ h => h) (Or.inl ⟨by rfl, ?_⟩) ?_ ?_
                          rotate_left
                          · intro w'
                            go_simp
                            with_reducible rfl
                          rotate_left
                          · simp only [Act.put, List.setIfInBounds_toArray, List.set_cons_zero, List.set_cons_succ, i64_w, i32_w]
                            rfl
                          refine done_ (done_of HT_.out (by kernel_rfl)) ?_
                          try go_wp2
                          go_ret
                          exact ⟨by first | rfl | (simp [errW_none, errW_some] <;> rfl) | (simp [*, errW_none, errW_some] <;> rfl), by repeat (first | (with_reducible first | exact HB.out | apply below_alloc | apply pw_below_drewN | apply below_drew1 | refine below_set ?_ GE190.out | refine below_set ?_ GE194.out) | exact HB.out)⟩
                        · rw [if_neg c51] at H
                          have c51b0 : decide ((wrap64 ((wrap64 (Int.tdiv (wrap64 (t198 - 253)) a1)) + 1)) < (wrap64 (t202 - t201))) = false := decide_eq_false c51
                          clear c51
                          replace H := Option.bind_eq_some_iff.mp H
                          obtain ⟨t203, A550, H⟩ := H
                          replace H : (if t203 < t201 then (some false) else (coraclelaw16_CurveSteps.l0 k3 a0 a1 t198 (wrap64 (x18_3 + 1)) t187 t188 t191 t192)) = some r := H
                          have A55 := Aside0.mk A550
                          clear A550
                          by_cases c56 : t203 < t201
                          · rw [if_pos c56] at H
                            have c56b0 : decide (t203 < t201) = true := decide_eq_true c56
                            clear c56
                            obtain rfl := Option.some.inj H
                            try go_wp2
                            have n0_ := Aside0.mk (blk_drew BK190.out)
                            have n1_ := Aside0.mk (blk_drew BK194.out)
                            have n2_ := Aside0.mk (below_drew1 HB.out)
                            clear BK190
                            clear BK194
                            clear HB
                            have BK190 := n0_
                            have BK194 := n1_
                            have HB := n2_
                            clear n0_ n1_ n2_
                            refine start_ (n := 9) (S := fun w' => w'.cell? ⟨gb190, 0, none⟩ = some (.complex .f64 t187.re t187.im) ∧ w'.cell? ⟨gb190, 1, none⟩ = some (.complex .f64 t188.re t188.im)) (ds := []) #[false, false, false, false, false, false, false, false, false] (by kernel_rfl) rfl rfl ⟨(blk_cell BK190.out 0).trans rfl, (blk_cell BK190.out 1).trans rfl⟩ (fun hHeld => ?_); refine with_tabW coraclelaw16_CurveSteps.tab12 coraclelaw16_CurveSteps.bits12 (fun HT_ HW_ => ?_)
                            generalize wr.drew = w57 at BK190 BK194 HB hHeld ⊢
                            refine pure_ (i := 1) (N := some 118) (v := ?_) (a' := ?_) #[false, true, false, false, false, false, false, false, false] rfl rfl (any_of HT_.out (by kernel_rfl)) (fun _ _ _ h => h) (Or.inl ⟨by rfl, ?_⟩) ?_ ?_
                            rotate_left
                            · intro w'
                              go_simp
                              with_reducible rfl
                            rotate_left
                            · simp only [Act.put, List.setIfInBounds_toArray, List.set_cons_zero, List.set_cons_succ, i64_w, i32_w]
                              rfl
                            refine pure_ (i := 4) (N := some 121) (v := ?_) (a' := ?_) #[false, true, false, false, true, false, false, false, false] rfl rfl (any_of HT_.out (by kernel_rfl)) (fun _ _ _ h => h) (Or.inl ⟨by rfl, ?_⟩) ?_ ?_
                            rotate_left
                            · intro w'
                              go_simp
                              with_reducible rfl
                            rotate_left
                            · simp only [Act.put, List.setIfInBounds_toArray, List.set_cons_zero, List.set_cons_succ, i64_w, i32_w]
                              rfl
                            refine pure_ (i := 5) (N := some 122) (v := ?_) (a' := ?_) #[false, true, false, false, true, true, false, false, false] rfl rfl (any_of HT_.out (by kernel_rfl)) (fun _ _ _ h => h) (Or.inl ⟨by rfl, ?_⟩) ?_ ?_
                            rotate_left
                            · intro w'
                              go_simp
                              with_reducible rfl
                            rotate_left
                            · simp only [Act.put, List.setIfInBounds_toArray, List.set_cons_zero, List.set_cons_succ, i64_w, i32_w]
                              rfl
                            refine take_ (i := 0) (N := some 117) (v := ?_) (a' := ?_) #[true, true, false, false, true, true, false, false, false] rfl rfl (take_ofW HT_.out HW_.out (by kernel_rfl)) (fun _ _ _ h => h) (Or.inl ⟨by rfl, ?_⟩) hHeld ?_ ?_
                            rotate_left
                            · rintro w' ⟨s0, s1⟩
                              go_simp
                              with_reducible rfl
                            rotate_left
                            · simp only [Act.put, List.setIfInBounds_toArray, List.set_cons_zero, List.set_cons_succ, i64_w, i32_w]
                              rfl
                            refine take_ (i := 3) (N := some 120) (v := ?_) (a' := ?_) #[true, true, false, true, true, true, false, false, false] rfl rfl (take_ofW HT_.out HW_.out (by kernel_rfl)) (fun _ _ _ h => h) (Or.inl ⟨by rfl, ?_⟩) hHeld ?_ ?_
                            rotate_left
                            · rintro w' ⟨s0, s1⟩
                              go_simp
                              with_reducible rfl
                            rotate_left
                            · simp only [Act.put, List.setIfInBounds_toArray, List.set_cons_zero, List.set_cons_succ, i64_w, i32_w]
                              rfl
                            refine one_ (i := 2) (N := some 119) #[true, true, true, true, true, true, false, false, false] rfl rfl (one_of HT_.out (by kernel_rfl)) (by decide) (fun K hK => ?_)
                            refine goes_ Try.func39 (by kernel_rfl) rfl #[.agg #[.complex .f64 t187.re t187.im, .complex .f64 t188.re t188.im], .int .i64 x18_3] (by rfl) rfl rfl (by (try simp only [List.map_toArray, List.map_cons, List.map_nil]); first | done | rfl | (simp only [List.length_drop, List.length_take]; rfl)) ?_
                            with_reducible refine (curve_Curve_At.calls t187 t188 x18_3 t201 _ A44.out).mono ?_
                            rintro e w58 ⟨rfl, hb⟩
                            refine ⟨_, rfl, ?_⟩
                            have n0_ := Aside0.mk (blk_below (g := gb190) (o := .cells #[.complex .f64 t187.re t187.im, .complex .f64 t188.re t188.im] 51 (0, 0)) (by (with_reducible repeat (first | refine blk_drewN ?_ _ | refine blk_drew ?_ | refine blk_alloc ?_ _)); exact BK190.out) hb)
                            have n1_ := Aside0.mk (blk_below (g := gb194) (o := .cells #[.complex .f64 t191.re t191.im, .complex .f64 t192.re t192.im] 51 (0, 0)) (by (with_reducible repeat (first | refine blk_drewN ?_ _ | refine blk_drew ?_ | refine blk_alloc ?_ _)); exact BK194.out) hb)
                            have n2_ := Aside0.mk (below_step (by repeat (first | (with_reducible first | exact HB.out | apply below_alloc | apply pw_below_drewN | apply below_drew1 | refine below_set ?_ GE190.out | refine below_set ?_ GE194.out) | exact HB.out)) hb)
                            clear BK190
                            clear BK194
                            clear HB
                            have BK190 := n0_
                            have BK194 := n1_
                            have HB := n2_
                            clear n0_ n1_ n2_
                            (try clear hb)
                            (try clear hb2)
                            (try clear hk)
                            (try clear hi)
                            refine hK.out _ _ ⟨(blk_cell BK190.out 0).trans rfl, (blk_cell BK190.out 1).trans rfl⟩ (fun hHeld => ?_)
                            clear hK K
                            refine norm_ (a' := ?_) ?_ ?_
                            rotate_left
                            · show Act.put _ (some 119) _ = _
                              simp only [Act.put, List.setIfInBounds_toArray, List.set_cons_zero, List.set_cons_succ, i64_w, i32_w]
                              rfl
                            refine one_ (i := 6) (N := some 123) #[true, true, true, true, true, true, true, false, false] rfl rfl (one_of HT_.out (by kernel_rfl)) (by decide) (fun K hK => ?_)
                            refine goes_ Try.func39 (by kernel_rfl) rfl #[.agg #[.complex .f64 t187.re t187.im, .complex .f64 t188.re t188.im], .int .i64 (wrap64 (x18_3 + 1))] (by rfl) rfl rfl (by (try simp only [List.map_toArray, List.map_cons, List.map_nil]); first | done | rfl | (simp only [List.length_drop, List.length_take]; rfl)) ?_
                            with_reducible refine (curve_Curve_At.calls t187 t188 (wrap64 (x18_3 + 1)) t202 _ A45.out).mono ?_
                            rintro e w59 ⟨rfl, hb⟩
                            refine ⟨_, rfl, ?_⟩
                            have n0_ := Aside0.mk (blk_below (g := gb190) (o := .cells #[.complex .f64 t187.re t187.im, .complex .f64 t188.re t188.im] 51 (0, 0)) (by (with_reducible repeat (first | refine blk_drewN ?_ _ | refine blk_drew ?_ | refine blk_alloc ?_ _)); exact BK190.out) hb)
                            have n1_ := Aside0.mk (blk_below (g := gb194) (o := .cells #[.complex .f64 t191.re t191.im, .complex .f64 t192.re t192.im] 51 (0, 0)) (by (with_reducible repeat (first | refine blk_drewN ?_ _ | refine blk_drew ?_ | refine blk_alloc ?_ _)); exact BK194.out) hb)
                            have n2_ := Aside0.mk (below_step (by repeat (first | (with_reducible first | exact HB.out | apply below_alloc | apply pw_below_drewN | apply below_drew1 | refine below_set ?_ GE190.out | refine below_set ?_ GE194.out) | exact HB.out)) hb)
                            clear BK190
                            clear BK194
                            clear HB
                            have BK190 := n0_
                            have BK194 := n1_
                            have HB := n2_
                            clear n0_ n1_ n2_
                            (try clear hb)
                            (try clear hb2)
                            (try clear hk)
                            (try clear hi)
                            refine hK.out _ _ ⟨(blk_cell BK190.out 0).trans rfl, (blk_cell BK190.out 1).trans rfl⟩ (fun hHeld => ?_)
                            clear hK K
                            refine norm_ (a' := ?_) ?_ ?_
                            rotate_left
                            · show Act.put _ (some 123) _ = _
                              simp only [Act.put, List.setIfInBounds_toArray, List.set_cons_zero, List.set_cons_succ, i64_w, i32_w]
                              rfl
                            refine pure_ (i := 7) (N := some 19) (v := ?_) (a' := ?_) #[true, true, true, true, true, true, true, true, false] rfl rfl (any_of HT_.out (by kernel_rfl)) (fun _ _ _ h => h) (Or.inl ⟨by rfl, ?_⟩) ?_ ?_
                            rotate_left
                            · intro w'
                              go_simp
                              with_reducible rfl
                            rotate_left
                            · simp only [Act.put, List.setIfInBounds_toArray, List.set_cons_zero, List.set_cons_succ, i64_w, i32_w]
                              rfl
                            refine pure_ (i := 8) (N := some 20) (v := ?_) (a' := ?_) #[true, true, true, true, true, true, true, true, true] rfl rfl (any_of HT_.out (by kernel_rfl)) (fun _ _ _ h => h) (Or.inl ⟨by rfl, ?_⟩) ?_ ?_
                            rotate_left
                            · intro w'
                              go_simp
                              with_reducible rfl
                            rotate_left
                            · simp only [Act.put, List.setIfInBounds_toArray, List.set_cons_zero, List.set_cons_succ, i64_w, i32_w]
                              rfl
                            refine done_ (done_of HT_.out (by kernel_rfl)) ?_
                            have hnb60 := NB194_190.out
                            have hnc60 := NB190_194.out
                            have hcz61_0 : w59.cell? ⟨gb194, 0, none⟩ = some (.complex .f64 t191.re t191.im) := (blk_cell BK194.out 0).trans rfl
                            have hcz61_1 : w59.cell? ⟨gb194, 1, none⟩ = some (.complex .f64 t192.re t192.im) := (blk_cell BK194.out 1).trans rfl
                            have hfz61_0 := blk_frozen BK194.out 0
                            have hfz61_1 := blk_frozen BK194.out 1
                            try go_wp2_with (first | (go_at_call 39; (with_reducible refine (curve_Curve_At.calls t191 t192 x18_3 t203 _ A55.out).mono ?_); rintro e w62 ⟨rfl, hb⟩; have n0_ := Aside0.mk (blk_below (g := gb190) (o := .cells #[.complex .f64 t187.re t187.im, .complex .f64 t188.re t188.im] 51 (0, 0)) (by (with_reducible repeat (first | refine blk_drewN ?_ _ | refine blk_drew ?_ | refine blk_alloc ?_ _)); exact BK190.out) hb); have n1_ := Aside0.mk (blk_below (g := gb194) (o := .cells #[.complex .f64 t191.re t191.im, .complex .f64 t192.re t192.im] 51 (0, 0)) (by (with_reducible repeat (first | refine blk_drewN ?_ _ | refine blk_drew ?_ | refine blk_alloc ?_ _)); exact BK194.out) hb); have n2_ := Aside0.mk (below_step (by repeat (first | (with_reducible first | exact HB.out | apply below_alloc | apply pw_below_drewN | apply below_drew1 | refine below_set ?_ GE190.out | refine below_set ?_ GE194.out) | exact HB.out)) hb); clear BK190; clear BK194; clear HB; have BK190 := n0_; have BK194 := n1_; have HB := n2_; clear n0_ n1_ n2_; (try clear hb); (try clear hb2); (try clear hk); (try clear hi)))
                            go_ret
                            exact ⟨by first | rfl | (simp [errW_none, errW_some] <;> rfl) | (simp [*, errW_none, errW_some] <;> rfl), by repeat (first | (with_reducible first | exact HB.out | apply below_alloc | apply pw_below_drewN | apply below_drew1 | refine below_set ?_ GE190.out | refine below_set ?_ GE194.out) | exact HB.out)⟩
                          · rw [if_neg c56] at H
                            have c56b0 : decide (t203 < t201) = false := decide_eq_false c56
                            clear c56
                            have H' := Aside0.mk H
                            clear H
                            try go_wp2
                            have n0_ := Aside0.mk (blk_drew BK190.out)
                            have n1_ := Aside0.mk (blk_drew BK194.out)
                            have n2_ := Aside0.mk (below_drew1 HB.out)
                            clear BK190
                            clear BK194
                            clear HB
                            have BK190 := n0_
                            have BK194 := n1_
                            have HB := n2_
                            clear n0_ n1_ n2_
                            refine start_ (n := 9) (S := fun w' => w'.cell? ⟨gb190, 0, none⟩ = some (.complex .f64 t187.re t187.im) ∧ w'.cell? ⟨gb190, 1, none⟩ = some (.complex .f64 t188.re t188.im)) (ds := []) #[false, false, false, false, false, false, false, false, false] (by kernel_rfl) rfl rfl ⟨(blk_cell BK190.out 0).trans rfl, (blk_cell BK190.out 1).trans rfl⟩ (fun hHeld => ?_); refine with_tabW coraclelaw16_CurveSteps.tab12 coraclelaw16_CurveSteps.bits12 (fun HT_ HW_ => ?_)
                            generalize wr.drew = w63 at BK190 BK194 HB hHeld ⊢
                            refine pure_ (i := 1) (N := some 118) (v := ?_) (a' := ?_) #[false, true, false, false, false, false, false, false, false] rfl rfl (any_of HT_.out (by kernel_rfl)) (fun _ _ _ h => h) (Or.inl ⟨by rfl, ?_⟩) ?_ ?_
                            rotate_left
                            · intro w'
                              go_simp
                              with_reducible rfl
                            rotate_left
                            · simp only [Act.put, List.setIfInBounds_toArray, List.set_cons_zero, List.set_cons_succ, i64_w, i32_w]
                              rfl
                            refine pure_ (i := 4) (N := some 121) (v := ?_) (a' := ?_) #[false, true, false, false, true, false, false, false, false] rfl rfl (any_of HT_.out (by kernel_rfl)) (fun _ _ _ h => h) (Or.inl ⟨by rfl, ?_⟩) ?_ ?_
                            rotate_left
                            · intro w'
                              go_simp
                              with_reducible rfl
                            rotate_left
                            · simp only [Act.put, List.setIfInBounds_toArray, List.set_cons_zero, List.set_cons_succ, i64_w, i32_w]
                              rfl
                            refine pure_ (i := 5) (N := some 122) (v := ?_) (a' := ?_) #[false, true, false, false, true, true, false, false, false] rfl rfl (any_of HT_.out (by kernel_rfl)) (fun _ _ _ h => h) (Or.inl ⟨by rfl, ?_⟩) ?_ ?_
                            rotate_left
                            · intro w'
                              go_simp
                              with_reducible rfl
                            rotate_left
                            · simp only [Act.put, List.setIfInBounds_toArray, List.set_cons_zero, List.set_cons_succ, i64_w, i32_w]
                              rfl
                            refine take_ (i := 0) (N := some 117) (v := ?_) (a' := ?_) #[true, true, false, false, true, true, false, false, false] rfl rfl (take_ofW HT_.out HW_.out (by kernel_rfl)) (fun _ _ _ h => h) (Or.inl ⟨by rfl, ?_⟩) hHeld ?_ ?_
                            rotate_left
                            · rintro w' ⟨s0, s1⟩
                              go_simp
                              with_reducible rfl
                            rotate_left
                            · simp only [Act.put, List.setIfInBounds_toArray, List.set_cons_zero, List.set_cons_succ, i64_w, i32_w]
                              rfl
                            refine take_ (i := 3) (N := some 120) (v := ?_) (a' := ?_) #[true, true, false, true, true, true, false, false, false] rfl rfl (take_ofW HT_.out HW_.out (by kernel_rfl)) (fun _ _ _ h => h) (Or.inl ⟨by rfl, ?_⟩) hHeld ?_ ?_
                            rotate_left
                            · rintro w' ⟨s0, s1⟩
                              go_simp
                              with_reducible rfl
                            rotate_left
                            · simp only [Act.put, List.setIfInBounds_toArray, List.set_cons_zero, List.set_cons_succ, i64_w, i32_w]
                              rfl
                            refine one_ (i := 2) (N := some 119) #[true, true, true, true, true, true, false, false, false] rfl rfl (one_of HT_.out (by kernel_rfl)) (by decide) (fun K hK => ?_)
                            refine goes_ Try.func39 (by kernel_rfl) rfl #[.agg #[.complex .f64 t187.re t187.im, .complex .f64 t188.re t188.im], .int .i64 x18_3] (by rfl) rfl rfl (by (try simp only [List.map_toArray, List.map_cons, List.map_nil]); first | done | rfl | (simp only [List.length_drop, List.length_take]; rfl)) ?_
                            with_reducible refine (curve_Curve_At.calls t187 t188 x18_3 t201 _ A44.out).mono ?_
                            rintro e w64 ⟨rfl, hb⟩
                            refine ⟨_, rfl, ?_⟩
                            have n0_ := Aside0.mk (blk_below (g := gb190) (o := .cells #[.complex .f64 t187.re t187.im, .complex .f64 t188.re t188.im] 51 (0, 0)) (by (with_reducible repeat (first | refine blk_drewN ?_ _ | refine blk_drew ?_ | refine blk_alloc ?_ _)); exact BK190.out) hb)
                            have n1_ := Aside0.mk (blk_below (g := gb194) (o := .cells #[.complex .f64 t191.re t191.im, .complex .f64 t192.re t192.im] 51 (0, 0)) (by (with_reducible repeat (first | refine blk_drewN ?_ _ | refine blk_drew ?_ | refine blk_alloc ?_ _)); exact BK194.out) hb)
                            have n2_ := Aside0.mk (below_step (by repeat (first | (with_reducible first | exact HB.out | apply below_alloc | apply pw_below_drewN | apply below_drew1 | refine below_set ?_ GE190.out | refine below_set ?_ GE194.out) | exact HB.out)) hb)
                            clear BK190
                            clear BK194
                            clear HB
                            have BK190 := n0_
                            have BK194 := n1_
                            have HB := n2_
                            clear n0_ n1_ n2_
                            (try clear hb)
                            (try clear hb2)
                            (try clear hk)
                            (try clear hi)
                            refine hK.out _ _ ⟨(blk_cell BK190.out 0).trans rfl, (blk_cell BK190.out 1).trans rfl⟩ (fun hHeld => ?_)
                            clear hK K
                            refine norm_ (a' := ?_) ?_ ?_
                            rotate_left
                            · show Act.put _ (some 119) _ = _
                              simp only [Act.put, List.setIfInBounds_toArray, List.set_cons_zero, List.set_cons_succ, i64_w, i32_w]
                              rfl
                            refine one_ (i := 6) (N := some 123) #[true, true, true, true, true, true, true, false, false] rfl rfl (one_of HT_.out (by kernel_rfl)) (by decide) (fun K hK => ?_)
                            refine goes_ Try.func39 (by kernel_rfl) rfl #[.agg #[.complex .f64 t187.re t187.im, .complex .f64 t188.re t188.im], .int .i64 (wrap64 (x18_3 + 1))] (by rfl) rfl rfl (by (try simp only [List.map_toArray, List.map_cons, List.map_nil]); first | done | rfl | (simp only [List.length_drop, List.length_take]; rfl)) ?_
                            with_reducible refine (curve_Curve_At.calls t187 t188 (wrap64 (x18_3 + 1)) t202 _ A45.out).mono ?_
                            rintro e w65 ⟨rfl, hb⟩
                            refine ⟨_, rfl, ?_⟩
                            have n0_ := Aside0.mk (blk_below (g := gb190) (o := .cells #[.complex .f64 t187.re t187.im, .complex .f64 t188.re t188.im] 51 (0, 0)) (by (with_reducible repeat (first | refine blk_drewN ?_ _ | refine blk_drew ?_ | refine blk_alloc ?_ _)); exact BK190.out) hb)
                            have n1_ := Aside0.mk (blk_below (g := gb194) (o := .cells #[.complex .f64 t191.re t191.im, .complex .f64 t192.re t192.im] 51 (0, 0)) (by (with_reducible repeat (first | refine blk_drewN ?_ _ | refine blk_drew ?_ | refine blk_alloc ?_ _)); exact BK194.out) hb)
                            have n2_ := Aside0.mk (below_step (by repeat (first | (with_reducible first | exact HB.out | apply below_alloc | apply pw_below_drewN | apply below_drew1 | refine below_set ?_ GE190.out | refine below_set ?_ GE194.out) | exact HB.out)) hb)
                            clear BK190
                            clear BK194
                            clear HB
                            have BK190 := n0_
                            have BK194 := n1_
                            have HB := n2_
                            clear n0_ n1_ n2_
                            (try clear hb)
                            (try clear hb2)
                            (try clear hk)
                            (try clear hi)
                            refine hK.out _ _ ⟨(blk_cell BK190.out 0).trans rfl, (blk_cell BK190.out 1).trans rfl⟩ (fun hHeld => ?_)
                            clear hK K
                            refine norm_ (a' := ?_) ?_ ?_
                            rotate_left
                            · show Act.put _ (some 123) _ = _
                              simp only [Act.put, List.setIfInBounds_toArray, List.set_cons_zero, List.set_cons_succ, i64_w, i32_w]
                              rfl
                            refine pure_ (i := 7) (N := some 19) (v := ?_) (a' := ?_) #[true, true, true, true, true, true, true, true, false] rfl rfl (any_of HT_.out (by kernel_rfl)) (fun _ _ _ h => h) (Or.inl ⟨by rfl, ?_⟩) ?_ ?_
                            rotate_left
                            · intro w'
                              go_simp
                              with_reducible rfl
                            rotate_left
                            · simp only [Act.put, List.setIfInBounds_toArray, List.set_cons_zero, List.set_cons_succ, i64_w, i32_w]
                              rfl
                            refine pure_ (i := 8) (N := some 20) (v := ?_) (a' := ?_) #[true, true, true, true, true, true, true, true, true] rfl rfl (any_of HT_.out (by kernel_rfl)) (fun _ _ _ h => h) (Or.inl ⟨by rfl, ?_⟩) ?_ ?_
                            rotate_left
                            · intro w'
                              go_simp
                              with_reducible rfl
                            rotate_left
                            · simp only [Act.put, List.setIfInBounds_toArray, List.set_cons_zero, List.set_cons_succ, i64_w, i32_w]
                              rfl
                            refine done_ (done_of HT_.out (by kernel_rfl)) ?_
                            have hnb66 := NB194_190.out
                            have hnc66 := NB190_194.out
                            have hcz67_0 : w65.cell? ⟨gb194, 0, none⟩ = some (.complex .f64 t191.re t191.im) := (blk_cell BK194.out 0).trans rfl
                            have hcz67_1 : w65.cell? ⟨gb194, 1, none⟩ = some (.complex .f64 t192.re t192.im) := (blk_cell BK194.out 1).trans rfl
                            have hfz67_0 := blk_frozen BK194.out 0
                            have hfz67_1 := blk_frozen BK194.out 1
                            try go_wp2_with (first | (go_at_call 39; (with_reducible refine (curve_Curve_At.calls t191 t192 x18_3 t203 _ A55.out).mono ?_); rintro e w68 ⟨rfl, hb⟩; have n0_ := Aside0.mk (blk_below (g := gb190) (o := .cells #[.complex .f64 t187.re t187.im, .complex .f64 t188.re t188.im] 51 (0, 0)) (by (with_reducible repeat (first | refine blk_drewN ?_ _ | refine blk_drew ?_ | refine blk_alloc ?_ _)); exact BK190.out) hb); have n1_ := Aside0.mk (blk_below (g := gb194) (o := .cells #[.complex .f64 t191.re t191.im, .complex .f64 t192.re t192.im] 51 (0, 0)) (by (with_reducible repeat (first | refine blk_drewN ?_ _ | refine blk_drew ?_ | refine blk_alloc ?_ _)); exact BK194.out) hb); have n2_ := Aside0.mk (below_step (by repeat (first | (with_reducible first | exact HB.out | apply below_alloc | apply pw_below_drewN | apply below_drew1 | refine below_set ?_ GE190.out | refine below_set ?_ GE194.out) | exact HB.out)) hb); clear BK190; clear BK194; clear HB; have BK190 := n0_; have BK194 := n1_; have HB := n2_; clear n0_ n1_ n2_; (try clear hb); (try clear hb2); (try clear hk); (try clear hi)))
                            go_roundg k3
                            case measure => have := HJ5.out; have := HJ20.out; have := HK3.out; omega
                            case rel => exact ⟨(wrap64 (x18_3 + 1)), (by first | rfl | (simp; done) | (simp [*]; done)), H', ⟨by have := HJ5.out; have := HJ20.out; have := HK3.out; omega⟩, ⟨by (with_reducible repeat (first | refine blk_drewN ?_ _ | refine blk_drew ?_ | refine blk_alloc ?_ _)); exact BK190.out⟩, ⟨by (with_reducible repeat (first | refine blk_drewN ?_ _ | refine blk_drew ?_ | refine blk_alloc ?_ _)); exact BK194.out⟩, ⟨by repeat (first | (with_reducible first | exact HB.out | apply below_alloc | apply pw_below_drewN | apply below_drew1 | refine below_set ?_ GE190.out | refine below_set ?_ GE194.out) | exact HB.out)⟩⟩
                  · rw [if_neg c43] at H
                    have c43b0 : decide (x18_3 < (wrap64 (a0 + a1))) = false := decide_eq_false c43
                    clear c43
                    replace H := Option.bind_eq_some_iff.mp H
                    obtain ⟨t199, A690, H⟩ := H
                    replace H : (if t199 ≥ t198 then ((coraclelaw16_awake.f k3).bind fun t200 => (some t200)) else (some false)) = some r := H
                    have A69 := Aside0.mk A690
                    clear A690
                    by_cases c70 : t199 ≥ t198
                    · rw [if_pos c70] at H
                      have c70b0 : decide (t198 ≤ t199) = true := decide_eq_true c70
                      clear c70
                      replace H := Option.bind_eq_some_iff.mp H
                      obtain ⟨t200, A710, H⟩ := H
                      replace H : (some t200) = some r := H
                      have A71 := Aside0.mk A710
                      clear A710
                      obtain rfl := Option.some.inj H
                      have hnb72 := NB194_190.out
                      have hnc72 := NB190_194.out
                      have hcz73_0 : wr.cell? ⟨gb194, 0, none⟩ = some (.complex .f64 t191.re t191.im) := (blk_cell BK194.out 0).trans rfl
                      have hcz73_1 : wr.cell? ⟨gb194, 1, none⟩ = some (.complex .f64 t192.re t192.im) := (blk_cell BK194.out 1).trans rfl
                      have hfz73_0 := blk_frozen BK194.out 0
                      have hfz73_1 := blk_frozen BK194.out 1
                      go_wp2_with (first | ((with_reducible refine gate_callee (f := 39) rfl ?_); refine goesL_ (some 152) rfl rfl Try.func39 (by kernel_rfl) rfl #[.agg #[.complex .f64 t191.re t191.im, .complex .f64 t192.re t192.im], .int .i64 (wrap64 (a0 + a1))] rfl (by (try simp only [List.map_toArray, List.map_cons, List.map_nil]); first | done | rfl | (simp only [List.length_drop, List.length_take]; rfl)) ?_; (with_reducible refine (curve_Curve_At.calls t191 t192 (wrap64 (a0 + a1)) t199 _ A69.out).mono ?_); rintro e w74 ⟨rfl, hb⟩; refine ⟨_, rfl, ?_⟩; have n0_ := Aside0.mk (blk_below (g := gb190) (o := .cells #[.complex .f64 t187.re t187.im, .complex .f64 t188.re t188.im] 51 (0, 0)) (by (with_reducible repeat (first | refine blk_drewN ?_ _ | refine blk_drew ?_ | refine blk_alloc ?_ _)); exact BK190.out) hb); have n1_ := Aside0.mk (blk_below (g := gb194) (o := .cells #[.complex .f64 t191.re t191.im, .complex .f64 t192.re t192.im] 51 (0, 0)) (by (with_reducible repeat (first | refine blk_drewN ?_ _ | refine blk_drew ?_ | refine blk_alloc ?_ _)); exact BK194.out) hb); have n2_ := Aside0.mk (below_step (by repeat (first | (with_reducible first | exact HB.out | apply below_alloc | apply pw_below_drewN | apply below_drew1 | refine below_set ?_ GE190.out | refine below_set ?_ GE194.out) | exact HB.out)) hb); clear BK190; clear BK194; clear HB; have BK190 := n0_; have BK194 := n1_; have HB := n2_; clear n0_ n1_ n2_; (try clear hb); (try clear hb2); (try clear hk); (try clear hi)) | (go_at_call 37; (with_reducible refine (coraclelaw16_awake.calls k3  t200 _ A71.out).mono ?_); rintro e w75 ⟨rfl, hb⟩; have n0_ := Aside0.mk (blk_below (g := gb190) (o := .cells #[.complex .f64 t187.re t187.im, .complex .f64 t188.re t188.im] 51 (0, 0)) (by (with_reducible repeat (first | refine blk_drewN ?_ _ | refine blk_drew ?_ | refine blk_alloc ?_ _)); exact BK190.out) hb); have n1_ := Aside0.mk (blk_below (g := gb194) (o := .cells #[.complex .f64 t191.re t191.im, .complex .f64 t192.re t192.im] 51 (0, 0)) (by (with_reducible repeat (first | refine blk_drewN ?_ _ | refine blk_drew ?_ | refine blk_alloc ?_ _)); exact BK194.out) hb); have n2_ := Aside0.mk (below_step (by repeat (first | (with_reducible first | exact HB.out | apply below_alloc | apply pw_below_drewN | apply below_drew1 | refine below_set ?_ GE190.out | refine below_set ?_ GE194.out) | exact HB.out)) hb); clear BK190; clear BK194; clear HB; have BK190 := n0_; have BK194 := n1_; have HB := n2_; clear n0_ n1_ n2_; (try clear hb); (try clear hb2); (try clear hk); (try clear hi)))
                      go_ret
                      exact ⟨by first | rfl | (simp [errW_none, errW_some] <;> rfl) | (simp [*, errW_none, errW_some] <;> rfl), by repeat (first | (with_reducible first | exact HB.out | apply below_alloc | apply pw_below_drewN | apply below_drew1 | refine below_set ?_ GE190.out | refine below_set ?_ GE194.out) | exact HB.out)⟩
                    · rw [if_neg c70] at H
                      have c70b0 : decide (t198 ≤ t199) = false := decide_eq_false c70
                      clear c70
                      obtain rfl := Option.some.inj H
                      have hnb76 := NB194_190.out
                      have hnc76 := NB190_194.out
                      have hcz77_0 : wr.cell? ⟨gb194, 0, none⟩ = some (.complex .f64 t191.re t191.im) := (blk_cell BK194.out 0).trans rfl
                      have hcz77_1 : wr.cell? ⟨gb194, 1, none⟩ = some (.complex .f64 t192.re t192.im) := (blk_cell BK194.out 1).trans rfl
                      have hfz77_0 := blk_frozen BK194.out 0
                      have hfz77_1 := blk_frozen BK194.out 1
                      go_wp2_with (first | ((with_reducible refine gate_callee (f := 39) rfl ?_); refine goesL_ (some 152) rfl rfl Try.func39 (by kernel_rfl) rfl #[.agg #[.complex .f64 t191.re t191.im, .complex .f64 t192.re t192.im], .int .i64 (wrap64 (a0 + a1))] rfl (by (try simp only [List.map_toArray, List.map_cons, List.map_nil]); first | done | rfl | (simp only [List.length_drop, List.length_take]; rfl)) ?_; (with_reducible refine (curve_Curve_At.calls t191 t192 (wrap64 (a0 + a1)) t199 _ A69.out).mono ?_); rintro e w78 ⟨rfl, hb⟩; refine ⟨_, rfl, ?_⟩; have n0_ := Aside0.mk (blk_below (g := gb190) (o := .cells #[.complex .f64 t187.re t187.im, .complex .f64 t188.re t188.im] 51 (0, 0)) (by (with_reducible repeat (first | refine blk_drewN ?_ _ | refine blk_drew ?_ | refine blk_alloc ?_ _)); exact BK190.out) hb); have n1_ := Aside0.mk (blk_below (g := gb194) (o := .cells #[.complex .f64 t191.re t191.im, .complex .f64 t192.re t192.im] 51 (0, 0)) (by (with_reducible repeat (first | refine blk_drewN ?_ _ | refine blk_drew ?_ | refine blk_alloc ?_ _)); exact BK194.out) hb); have n2_ := Aside0.mk (below_step (by repeat (first | (with_reducible first | exact HB.out | apply below_alloc | apply pw_below_drewN | apply below_drew1 | refine below_set ?_ GE190.out | refine below_set ?_ GE194.out) | exact HB.out)) hb); clear BK190; clear BK194; clear HB; have BK190 := n0_; have BK194 := n1_; have HB := n2_; clear n0_ n1_ n2_; (try clear hb); (try clear hb2); (try clear hk); (try clear hi)))
                      go_ret
                      exact ⟨by first | rfl | (simp [errW_none, errW_some] <;> rfl) | (simp [*, errW_none, errW_some] <;> rfl), by repeat (first | (with_reducible first | exact HB.out | apply below_alloc | apply pw_below_drewN | apply below_drew1 | refine below_set ?_ GE190.out | refine below_set ?_ GE194.out) | exact HB.out)⟩

/-- THE ONE PURE STATEMENT of coraclelaw16_CurveSteps: yours. -/
def coraclelaw16_CurveSteps.Pure : Prop := ∀ (a0 : Int) (a1 : Int) (a2 : Int) (a3 : Int) (a4 : Int), (Lit.int .i64 a0).wf = true → (Lit.int .i64 a1).wf = true → (Lit.int .i64 a2).wf = true → (Lit.int .i64 a3).wf = true → (Lit.int .i64 a4).wf = true → ∃ k, coraclelaw16_CurveSteps.f k a0 a1 a2 a3 a4 = some true
theorem coraclelaw16_CurveSteps.walk (P : coraclelaw16_CurveSteps.Pure) (a0 : Int) (a1 : Int) (a2 : Int) (a3 : Int) (a4 : Int) (w : World) (w0 : (Lit.int .i64 a0).wf = true) (w1 : (Lit.int .i64 a1).wf = true) (w2 : (Lit.int .i64 a2).wf = true) (w3 : (Lit.int .i64 a3).wf = true) (w4 : (Lit.int .i64 a4).wf = true) :
    Calls Try.prog 14 #[.int .i64 a0, .int .i64 a1, .int .i64 a2, .int .i64 a3, .int .i64 a4] w fun e w' => e = .returned (.bool true) ∧ Below w.heap.size w w' := by
  obtain ⟨k, h⟩ := P a0 a1 a2 a3 a4 w0 w1 w2 w3 w4
  refine (coraclelaw16_CurveSteps.calls k a0 a1 a2 a3 a4 true w h).mono ?_
  rintro e w' ⟨rfl, hd⟩
  exact ⟨rfl, hd⟩

end Go.Proofs.Ytfoahgdaigfhoaa.QCur
