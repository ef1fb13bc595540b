/- Functions of the program as plain Lean functions, and that its calls come to what these tell: written by a program of this session; Lean checks it. -/
import Derived.Test.YtfoahgdaigfhoaaQCurx0
import Derived.Test.YtfoahgdaigfhoaaQCurx2
import Derived.Test.YtfoahgdaigfhoaaQCurx3
namespace Go.Proofs.Ytfoahgdaigfhoaa.QCur
open Go.RowKit Go.Proofs.Ytfoahgdaigfhoaa.Hand Go.Proofs.YtfoahgdaigfhoaaW.PrintWords Go.Proofs.YtfoahgdaigfhoaaW.PrintLast Go.Proofs.YtfoahgdaigfhoaaW.PrintMore
attribute [local go_sem] max2_int min2_int max_two min_two max_three min_three max_four min_four run_equalIn_c run_store_float run_store_complex run_fop run_feq run_fne run_flt run_fle run_fgt run_fge run_fint run_toi run_real' run_imag' run_complex' run_ceq run_cne run_cadd run_csub run_cmul
set_option linter.unusedVariables false
set_option linter.unusedSimpArgs false

/-! ### coraclelaw16_CurveEnds: function 13 -/
mutual
def coraclelaw16_CurveEnds.j0 : Nat → Int → Int → Int → Int → Int → Bool → Option (Bool)
  | 0, _, _, _, _, _, _ => none
  | k + 1, x0, x1, x2, x3, x4, x53 => if x53 = true then ((coraclelaw16_awake.f k).bind fun t160 => (some t160)) else ((curve_Line.f (⟨(fint x0), (fint x2)⟩ : C128) (⟨(fint (wrap64 (x0 + x1))), (fint (wrap64 (x2 + x3)))⟩ : C128)).bind fun bt161 => ((curve_Line.f (⟨(fint x0), (fint x2)⟩ : C128) (⟨(fint (wrap64 (x0 + x1))), (fint x2)⟩ : C128)).bind fun bt165 => (if bt161.2.2 = 0 then (coraclelaw16_CurveEnds.j1 k x0 x1 x2 x3 x4 (bt165.2.2 != 0) bt161.1 bt161.2.1 bt165.1 bt165.2.1) else (coraclelaw16_CurveEnds.j1 k x0 x1 x2 x3 x4 true bt161.1 bt161.2.1 bt165.1 bt165.2.1))))
def coraclelaw16_CurveEnds.j1 : Nat → Int → Int → Int → Int → Int → Bool → C128 → C128 → C128 → C128 → Option (Bool)
  | 0, _, _, _, _, _, _, _, _, _, _ => none
  | k + 1, x0, x1, x2, x3, x4, x94, x165000, x165001, x169000, x169001 => if x94 = true then (some false) else ((curve_Curve_At.f x165000 x165001 x4).bind fun t169 => (if x4 < x0 then (if t169 = x2 then ((curve_Curve_At.f x169000 x169001 x4).bind fun t170 => (if t170 = x2 then ((coraclelaw16_awake.f k).bind fun t171 => (some t171)) else (some false))) else (some false)) else (if x4 ≥ (wrap64 (x0 + x1)) then (if t169 = (wrap64 (x2 + x3)) then ((curve_Curve_At.f x169000 x169001 x4).bind fun t172 => (if t172 = x2 then ((coraclelaw16_awake.f k).bind fun t173 => (some t173)) else (some false))) else (some false)) else (if x1 = 0 then (none) else (if t169 = (wrap64 (x2 + (wrap64 (Int.tdiv (wrap64 (x3 * (wrap64 (x4 - x0)))) x1)))) then ((curve_Curve_At.f x169000 x169001 x4).bind fun t174 => (if t174 = x2 then ((curve_Curve_At.f x165000 x165001 x0).bind fun t175 => (if t175 = x2 then ((curve_Curve_At.f x165000 x165001 (wrap64 (x0 + x1))).bind fun t176 => (if t176 = (wrap64 (x2 + x3)) then ((coraclelaw16_awake.f k).bind fun t177 => (some t177)) else (some false))) else (some false))) else (some false))) else (some false))))))
end
def coraclelaw16_CurveEnds.f (k : Nat) (a0 : Int) (a1 : Int) (a2 : Int) (a3 : Int) (a4 : Int) : Option (Bool) := if a0 < 0 then (coraclelaw16_CurveEnds.j0 k a0 a1 a2 a3 a4 true) else (if a0 > 1000 then (coraclelaw16_CurveEnds.j0 k a0 a1 a2 a3 a4 true) else (if a1 < 0 then (coraclelaw16_CurveEnds.j0 k a0 a1 a2 a3 a4 true) else (if a1 > 1000 then (coraclelaw16_CurveEnds.j0 k a0 a1 a2 a3 a4 true) else (if a2 < 253 then (coraclelaw16_CurveEnds.j0 k a0 a1 a2 a3 a4 true) else (if a2 > 1048576 then (coraclelaw16_CurveEnds.j0 k a0 a1 a2 a3 a4 true) else (if a3 < 0 then (coraclelaw16_CurveEnds.j0 k a0 a1 a2 a3 a4 true) else (if a3 > 1048576 then (coraclelaw16_CurveEnds.j0 k a0 a1 a2 a3 a4 true) else (if a4 < (-5) then (coraclelaw16_CurveEnds.j0 k a0 a1 a2 a3 a4 true) else (coraclelaw16_CurveEnds.j0 k a0 a1 a2 a3 a4 (decide (a4 > 3000)))))))))))
theorem coraclelaw16_CurveEnds.mono_l : ∀ k, (∀ y0 y1 y2 y3 y4 y5, LeO (coraclelaw16_CurveEnds.j0 k y0 y1 y2 y3 y4 y5) (coraclelaw16_CurveEnds.j0 (k + 1) y0 y1 y2 y3 y4 y5)) ∧ (∀ y0 y1 y2 y3 y4 y5 y6 y7 y8 y9, LeO (coraclelaw16_CurveEnds.j1 k y0 y1 y2 y3 y4 y5 y6 y7 y8 y9) (coraclelaw16_CurveEnds.j1 (k + 1) y0 y1 y2 y3 y4 y5 y6 y7 y8 y9))
  | 0 => ⟨fun _ _ _ _ _ _ r h => by simp [coraclelaw16_CurveEnds.j0] at h, fun _ _ _ _ _ _ _ _ _ _ r h => by simp [coraclelaw16_CurveEnds.j1] at h⟩
  | k + 1 => by
    obtain ⟨ih0, ih1⟩ := coraclelaw16_CurveEnds.mono_l k
    refine ⟨?_, ?_⟩
    · intro y0 y1 y2 y3 y4 y5
      unfold coraclelaw16_CurveEnds.j0
      repeat' first
      | (with_reducible exact ih0 _ _ _ _ _ _)
      | (with_reducible exact ih1 _ _ _ _ _ _ _ _ _ _)
      | (with_reducible exact coraclelaw16_awake.mono _)
      | (with_reducible exact LeO.refl _)
      | (with_reducible exact LeO.none _)
      | (with_reducible refine LeO.ite ?_ ?_)
      | (with_reducible refine LeO.bind ?_ (fun _ => ?_))
      | exact ih0 _ _ _ _ _ _
      | exact ih1 _ _ _ _ _ _ _ _ _ _
      | exact coraclelaw16_awake.mono _
      | exact LeO.none _
      | refine LeO.ite ?_ ?_
      | refine LeO.bind ?_ (fun _ => ?_)
    · intro y0 y1 y2 y3 y4 y5 y6 y7 y8 y9
      unfold coraclelaw16_CurveEnds.j1
      repeat' first
      | (with_reducible exact ih0 _ _ _ _ _ _)
      | (with_reducible exact ih1 _ _ _ _ _ _ _ _ _ _)
      | (with_reducible exact coraclelaw16_awake.mono _)
      | (with_reducible exact LeO.refl _)
      | (with_reducible exact LeO.none _)
      | (with_reducible refine LeO.ite ?_ ?_)
      | (with_reducible refine LeO.bind ?_ (fun _ => ?_))
      | exact ih0 _ _ _ _ _ _
      | exact ih1 _ _ _ _ _ _ _ _ _ _
      | exact coraclelaw16_awake.mono _
      | exact LeO.none _
      | refine LeO.ite ?_ ?_
      | refine LeO.bind ?_ (fun _ => ?_)
theorem coraclelaw16_CurveEnds.mono : ∀ a0 a1 a2 a3 a4 k, LeO (coraclelaw16_CurveEnds.f k a0 a1 a2 a3 a4) (coraclelaw16_CurveEnds.f (k + 1) a0 a1 a2 a3 a4) := by
  intro a0 a1 a2 a3 a4 k
  obtain ⟨ih0, ih1⟩ := coraclelaw16_CurveEnds.mono_l k
  unfold coraclelaw16_CurveEnds.f
  repeat' first
      | (with_reducible exact ih0 _ _ _ _ _ _)
      | (with_reducible exact ih1 _ _ _ _ _ _ _ _ _ _)
      | (with_reducible exact coraclelaw16_awake.mono _)
      | (with_reducible exact LeO.refl _)
      | (with_reducible exact LeO.none _)
      | (with_reducible refine LeO.ite ?_ ?_)
      | (with_reducible refine LeO.bind ?_ (fun _ => ?_))
      | exact ih0 _ _ _ _ _ _
      | exact ih1 _ _ _ _ _ _ _ _ _ _
      | exact coraclelaw16_awake.mono _
      | exact LeO.none _
      | refine LeO.ite ?_ ?_
      | refine LeO.bind ?_ (fun _ => ?_)
set_option maxHeartbeats 8000000 in
set_option maxRecDepth 100000 in
theorem coraclelaw16_CurveEnds.calls (k : Nat) (a0 : Int) (a1 : Int) (a2 : Int) (a3 : Int) (a4 : Int) (r : Bool) (w : World) (h : coraclelaw16_CurveEnds.f k a0 a1 a2 a3 a4 = some r) :
    Calls Try.prog 13 #[.int .i64 a0, .int .i64 a1, .int .i64 a2, .int .i64 a3, .int .i64 a4] w fun e w' => e = .returned (.bool r) ∧ Below w.heap.size w w' := by
  have hu51 := Try.underlying51
  have HB := Aside0.mk (Below.refl w.heap.size w)
  have H : (if a0 < 0 then (coraclelaw16_CurveEnds.j0 k a0 a1 a2 a3 a4 true) else (if a0 > 1000 then (coraclelaw16_CurveEnds.j0 k a0 a1 a2 a3 a4 true) else (if a1 < 0 then (coraclelaw16_CurveEnds.j0 k a0 a1 a2 a3 a4 true) else (if a1 > 1000 then (coraclelaw16_CurveEnds.j0 k a0 a1 a2 a3 a4 true) else (if a2 < 253 then (coraclelaw16_CurveEnds.j0 k a0 a1 a2 a3 a4 true) else (if a2 > 1048576 then (coraclelaw16_CurveEnds.j0 k a0 a1 a2 a3 a4 true) else (if a3 < 0 then (coraclelaw16_CurveEnds.j0 k a0 a1 a2 a3 a4 true) else (if a3 > 1048576 then (coraclelaw16_CurveEnds.j0 k a0 a1 a2 a3 a4 true) else (if a4 < (-5) then (coraclelaw16_CurveEnds.j0 k a0 a1 a2 a3 a4 true) else (coraclelaw16_CurveEnds.j0 k a0 a1 a2 a3 a4 (decide (a4 > 3000)))))))))))) = some r := h
  clear h
  have HC6 := Aside0.mk H
  clear H
  go_enter Try.func13, Try.ntmps13
  go_upto_region 1 with (fail)
  go_cut [53] (fun v53 wc => ∃ (kq : Nat) (x53_5 : Bool), v53 = .bool x53_5 ∧ Aside0 (coraclelaw16_CurveEnds.j0 kq a0 a1 a2 a3 a4 x53_5 = some r) ∧ Aside0 (kq ≤ k) ∧ Aside0 (Below w.heap.size w wc))
  case first =>
    have H := HC6.out
    clear HC6
    by_cases c7 : a0 < 0
    · rw [if_pos c7] at H
      have c7b0 : decide (a0 < 0) = true := decide_eq_true c7
      clear c7
      (first | rw [c7b0] | (simp only [i64_w, i32_w]; rw [c7b0]) | skip)
      have H' := Aside0.mk H
      clear H
      go_wp2
      go_meet
      case rel => exact ⟨_, (true), (by first | rfl | (simp; done) | (simp [*]; done)), H', ⟨by first | omega | exact Nat.le_refl _⟩, ⟨by repeat (first | (with_reducible first | exact HB.out | apply below_alloc | apply pw_below_drewN | apply below_drew1) | exact HB.out)⟩⟩
    · rw [if_neg c7] at H
      have c7b0 : decide (a0 < 0) = false := decide_eq_false c7
      clear c7
      (first | rw [c7b0] | (simp only [i64_w, i32_w]; rw [c7b0]) | skip)
      by_cases c8 : a0 > 1000
      · rw [if_pos c8] at H
        have c8b0 : decide (1000 < a0) = true := decide_eq_true c8
        clear c8
        have H' := Aside0.mk H
        clear H
        go_wp2
        go_meet
        case rel => exact ⟨_, (true), (by first | rfl | (simp; done) | (simp [*]; done)), H', ⟨by first | omega | exact Nat.le_refl _⟩, ⟨by repeat (first | (with_reducible first | exact HB.out | apply below_alloc | apply pw_below_drewN | apply below_drew1) | exact HB.out)⟩⟩
      · rw [if_neg c8] at H
        have c8b0 : decide (1000 < a0) = false := decide_eq_false c8
        clear c8
        by_cases c9 : a1 < 0
        · rw [if_pos c9] at H
          have c9b0 : decide (a1 < 0) = true := decide_eq_true c9
          clear c9
          have H' := Aside0.mk H
          clear H
          go_wp2
          go_meet
          case rel => exact ⟨_, (true), (by first | rfl | (simp; done) | (simp [*]; done)), H', ⟨by first | omega | exact Nat.le_refl _⟩, ⟨by repeat (first | (with_reducible first | exact HB.out | apply below_alloc | apply pw_below_drewN | apply below_drew1) | exact HB.out)⟩⟩
        · rw [if_neg c9] at H
          have c9b0 : decide (a1 < 0) = false := decide_eq_false c9
          clear c9
          by_cases c10 : a1 > 1000
          · rw [if_pos c10] at H
            have c10b0 : decide (1000 < a1) = true := decide_eq_true c10
            clear c10
            have H' := Aside0.mk H
            clear H
            go_wp2
            go_meet
            case rel => exact ⟨_, (true), (by first | rfl | (simp; done) | (simp [*]; done)), H', ⟨by first | omega | exact Nat.le_refl _⟩, ⟨by repeat (first | (with_reducible first | exact HB.out | apply below_alloc | apply pw_below_drewN | apply below_drew1) | exact HB.out)⟩⟩
          · rw [if_neg c10] at H
            have c10b0 : decide (1000 < a1) = false := decide_eq_false c10
            clear c10
            by_cases c11 : a2 < 253
            · rw [if_pos c11] at H
              have c11b0 : decide (a2 < 253) = true := decide_eq_true c11
              clear c11
              have H' := Aside0.mk H
              clear H
              go_wp2
              go_meet
              case rel => exact ⟨_, (true), (by first | rfl | (simp; done) | (simp [*]; done)), H', ⟨by first | omega | exact Nat.le_refl _⟩, ⟨by repeat (first | (with_reducible first | exact HB.out | apply below_alloc | apply pw_below_drewN | apply below_drew1) | exact HB.out)⟩⟩
            · rw [if_neg c11] at H
              have c11b0 : decide (a2 < 253) = false := decide_eq_false c11
              clear c11
              by_cases c12 : a2 > 1048576
              · rw [if_pos c12] at H
                have c12b0 : decide (1048576 < a2) = true := decide_eq_true c12
                clear c12
                have H' := Aside0.mk H
                clear H
                go_wp2
                go_meet
                case rel => exact ⟨_, (true), (by first | rfl | (simp; done) | (simp [*]; done)), H', ⟨by first | omega | exact Nat.le_refl _⟩, ⟨by repeat (first | (with_reducible first | exact HB.out | apply below_alloc | apply pw_below_drewN | apply below_drew1) | exact HB.out)⟩⟩
              · rw [if_neg c12] at H
                have c12b0 : decide (1048576 < a2) = false := decide_eq_false c12
                clear c12
                by_cases c13 : a3 < 0
                · rw [if_pos c13] at H
                  have c13b0 : decide (a3 < 0) = true := decide_eq_true c13
                  clear c13
                  have H' := Aside0.mk H
                  clear H
                  go_wp2
                  go_meet
                  case rel => exact ⟨_, (true), (by first | rfl | (simp; done) | (simp [*]; done)), H', ⟨by first | omega | exact Nat.le_refl _⟩, ⟨by repeat (first | (with_reducible first | exact HB.out | apply below_alloc | apply pw_below_drewN | apply below_drew1) | exact HB.out)⟩⟩
                · rw [if_neg c13] at H
                  have c13b0 : decide (a3 < 0) = false := decide_eq_false c13
                  clear c13
                  by_cases c14 : a3 > 1048576
                  · rw [if_pos c14] at H
                    have c14b0 : decide (1048576 < a3) = true := decide_eq_true c14
                    clear c14
                    have H' := Aside0.mk H
                    clear H
                    go_wp2
                    go_meet
                    case rel => exact ⟨_, (true), (by first | rfl | (simp; done) | (simp [*]; done)), H', ⟨by first | omega | exact Nat.le_refl _⟩, ⟨by repeat (first | (with_reducible first | exact HB.out | apply below_alloc | apply pw_below_drewN | apply below_drew1) | exact HB.out)⟩⟩
                  · rw [if_neg c14] at H
                    have c14b0 : decide (1048576 < a3) = false := decide_eq_false c14
                    clear c14
                    by_cases c15 : a4 < (-5)
                    · rw [if_pos c15] at H
                      have c15b0 : decide (a4 < (-5)) = true := decide_eq_true c15
                      clear c15
                      have H' := Aside0.mk H
                      clear H
                      go_wp2
                      go_meet
                      case rel => exact ⟨_, (true), (by first | rfl | (simp; done) | (simp [*]; done)), H', ⟨by first | omega | exact Nat.le_refl _⟩, ⟨by repeat (first | (with_reducible first | exact HB.out | apply below_alloc | apply pw_below_drewN | apply below_drew1) | exact HB.out)⟩⟩
                    · rw [if_neg c15] at H
                      have c15b0 : decide (a4 < (-5)) = false := decide_eq_false c15
                      clear c15
                      have H' := Aside0.mk H
                      clear H
                      go_wp2
                      go_meet
                      case rel => exact ⟨_, (decide (a4 > 3000)), (by first | rfl | (simp; done) | (simp [*]; done)), H', ⟨by first | omega | exact Nat.le_refl _⟩, ⟨by repeat (first | (with_reducible first | exact HB.out | apply below_alloc | apply pw_below_drewN | apply below_drew1) | exact HB.out)⟩⟩
  case rest =>
    clear HC6
    try clear c1
    try clear p2
    try clear c7
    try clear c7b0
    try clear c8
    try clear c8b0
    try clear c9
    try clear c9b0
    try clear c10
    try clear c10b0
    try clear c11
    try clear c11b0
    try clear c12
    try clear c12b0
    try clear c13
    try clear c13b0
    try clear c14
    try clear c14b0
    try clear c15
    try clear c15b0
    obtain ⟨kq, x53_5, rfl, HA, HJ5, HB⟩ := hcut
    cases kq with
    | zero => exact absurd HA.out (by simp [coraclelaw16_CurveEnds.j0])
    | succ kj5 =>
      have H := HA.out
      clear HA
      simp only [coraclelaw16_CurveEnds.j0] at H
      by_cases c16 : x53_5 = true
      · subst c16
        have H1 : ((coraclelaw16_awake.f kj5).bind fun t160 => (some t160)) = some r := by rw [if_pos rfl] at H; exact H
        clear H
        have H := H1
        clear H1
        replace H := Option.bind_eq_some_iff.mp H
        obtain ⟨t160, A170, H⟩ := H
        replace H : (some t160) = some r := H
        have A17 := Aside0.mk A170
        clear A170
        obtain rfl := Option.some.inj H
        go_wp2_with (first | ((with_reducible refine gate_callee (f := 37) rfl ?_); refine goesL_ (some 54) rfl rfl Try.func37 (by kernel_rfl) rfl #[] rfl (by (try simp only [List.map_toArray, List.map_cons, List.map_nil]); first | done | rfl | (simp only [List.length_drop, List.length_take]; rfl)) ?_; (with_reducible refine (coraclelaw16_awake.calls kj5  t160 _ A17.out).mono ?_); rintro e w18 ⟨rfl, hb⟩; refine ⟨_, rfl, ?_⟩; have n0_ := Aside0.mk (below_step (by repeat (first | (with_reducible first | exact HB.out | apply below_alloc | apply pw_below_drewN | apply below_drew1) | exact HB.out)) hb); clear HB; have HB := n0_; clear n0_; (try clear hb); (try clear hb2); (try clear hk); (try clear hi)))
        go_ret
        exact ⟨by first | rfl | (simp [errW_none, errW_some] <;> rfl) | (simp [*, errW_none, errW_some] <;> rfl), by repeat (first | (with_reducible first | exact HB.out | apply below_alloc | apply pw_below_drewN | apply below_drew1) | exact HB.out)⟩
      · replace c16 := Bool.eq_false_iff.mpr c16
        subst c16
        have H1 : ((curve_Line.f (⟨(fint a0), (fint a2)⟩ : C128) (⟨(fint (wrap64 (a0 + a1))), (fint (wrap64 (a2 + a3)))⟩ : C128)).bind fun bt161 => ((curve_Line.f (⟨(fint a0), (fint a2)⟩ : C128) (⟨(fint (wrap64 (a0 + a1))), (fint a2)⟩ : C128)).bind fun bt165 => (if bt161.2.2 = 0 then (coraclelaw16_CurveEnds.j1 kj5 a0 a1 a2 a3 a4 (bt165.2.2 != 0) bt161.1 bt161.2.1 bt165.1 bt165.2.1) else (coraclelaw16_CurveEnds.j1 kj5 a0 a1 a2 a3 a4 true bt161.1 bt161.2.1 bt165.1 bt165.2.1)))) = some r := by rw [if_neg (show ¬ (false = true) by decide)] at H; exact H
        clear H
        have H := H1
        clear H1
        replace H := Option.bind_eq_some_iff.mp H
        obtain ⟨⟨t161, t162, t163⟩, A190, H⟩ := H
        replace H : ((curve_Line.f (⟨(fint a0), (fint a2)⟩ : C128) (⟨(fint (wrap64 (a0 + a1))), (fint a2)⟩ : C128)).bind fun bt165 => (if t163 = 0 then (coraclelaw16_CurveEnds.j1 kj5 a0 a1 a2 a3 a4 (bt165.2.2 != 0) t161 t162 bt165.1 bt165.2.1) else (coraclelaw16_CurveEnds.j1 kj5 a0 a1 a2 a3 a4 true t161 t162 bt165.1 bt165.2.1))) = some r := H
        have A19 := Aside0.mk A190
        clear A190
        replace H := Option.bind_eq_some_iff.mp H
        obtain ⟨⟨t165, t166, t167⟩, A200, H⟩ := H
        replace H : (if t163 = 0 then (coraclelaw16_CurveEnds.j1 kj5 a0 a1 a2 a3 a4 (t167 != 0) t161 t162 t165 t166) else (coraclelaw16_CurveEnds.j1 kj5 a0 a1 a2 a3 a4 true t161 t162 t165 t166)) = some r := H
        have A20 := Aside0.mk A200
        clear A200
        have HC21 := Aside0.mk H
        clear H
        go_upto_region 5 with (first | ((with_reducible refine gate_callee (f := 38) rfl ?_); refine goesL_ (some 70) rfl rfl Try.func38 (by kernel_rfl) rfl #[.complex .f64 (fint a0) (fint a2), .complex .f64 (fint (wrap64 (a0 + a1))) (fint (wrap64 (a2 + a3)))] rfl (by (try simp only [List.map_toArray, List.map_cons, List.map_nil]); first | done | rfl | (simp only [List.length_drop, List.length_take]; rfl)) ?_; (with_reducible refine (curve_Line.calls (⟨(fint a0), (fint a2)⟩ : C128) (⟨(fint (wrap64 (a0 + a1))), (fint (wrap64 (a2 + a3)))⟩ : C128) t161 t162 t163 _ A19.out).mono ?_); rintro e w22 ⟨rfl, hb⟩; refine ⟨_, rfl, ?_⟩; have n0_ := Aside0.mk (below_step (by repeat (first | (with_reducible first | exact HB.out | apply below_alloc | apply pw_below_drewN | apply below_drew1) | exact HB.out)) hb); clear HB; have HB := n0_; clear n0_; (try clear hb); (try clear hb2); (try clear hk); (try clear hi)) | ((with_reducible refine gate_dst (N := 11) rfl ?_); refine box_event ?hg (N := 11) ?hd (cs := #[.complex .f64 0 0, .complex .f64 0 0]) (t := 51) ?hr ?_; (case hd => rfl); (case hg => rfl); (case hr => first | (go_simp; done) | (go_simp; rfl)); intro gb164 hg w23 hbox hb; have n0_ := Aside0.mk (below_step (by repeat (first | (with_reducible first | exact HB.out | apply below_alloc | apply pw_below_drewN | apply below_drew1) | exact HB.out)) hb); have n1_ := Aside0.mk (hbox); have n2_ := Aside0.mk ((by rw [hg]; exact (below_size (by repeat (first | (with_reducible first | exact HB.out | apply below_alloc | apply pw_below_drewN | apply below_drew1) | exact HB.out))) : w.heap.size ≤ gb164)); have n3_ := Aside0.mk ((by rw [hg]; exact (below_size (by repeat (first | (with_reducible first | exact HB.out | apply below_alloc | apply pw_below_drewN | apply below_drew1) | exact HB.out))) : w.heap.size ≤ gb164)); clear HB; have HB := n0_; have BK164 := n1_; have GW164 := n2_; have GE164 := n3_; clear n0_ n1_ n2_ n3_; clear hb hbox hg; have hcz24_0 : w23.cell? ⟨gb164, 0, none⟩ = some (.complex .f64 0 0) := (blk_cell BK164.out 0).trans rfl; have hcz24_1 : w23.cell? ⟨gb164, 1, none⟩ = some (.complex .f64 0 0) := (blk_cell BK164.out 1).trans rfl; have hfz24_0 := blk_frozen BK164.out 0; have hfz24_1 := blk_frozen BK164.out 1) | ((with_reducible refine gate_callee (f := 38) rfl ?_); refine goesL_ (some 86) rfl rfl Try.func38 (by kernel_rfl) rfl #[.complex .f64 (fint a0) (fint a2), .complex .f64 (fint (wrap64 (a0 + a1))) (fint a2)] rfl (by (try simp only [List.map_toArray, List.map_cons, List.map_nil]); first | done | rfl | (simp only [List.length_drop, List.length_take]; rfl)) ?_; (with_reducible refine (curve_Line.calls (⟨(fint a0), (fint a2)⟩ : C128) (⟨(fint (wrap64 (a0 + a1))), (fint a2)⟩ : C128) t165 t166 t167 _ A20.out).mono ?_); rintro e w25 ⟨rfl, hb⟩; refine ⟨_, rfl, ?_⟩; have n0_ := Aside0.mk (blk_below (g := gb164) (o := .cells #[.complex .f64 t161.re t161.im, .complex .f64 t162.re t162.im] 51 (0, 0)) (by (with_reducible repeat (first | refine blk_drewN ?_ _ | refine blk_drew ?_ | refine blk_alloc ?_ _)); refine blk_put (cs := #[.complex .f64 t161.re t161.im, .complex .f64 0 0]) ?_ 1 _ rfl; (with_reducible repeat (first | refine blk_drewN ?_ _ | refine blk_drew ?_ | refine blk_alloc ?_ _)); refine blk_put (cs := #[.complex .f64 0 0, .complex .f64 0 0]) ?_ 0 _ rfl; (with_reducible repeat (first | refine blk_drewN ?_ _ | refine blk_drew ?_ | refine blk_alloc ?_ _)); exact BK164.out) hb); have n1_ := Aside0.mk (below_step (by repeat (first | (with_reducible first | exact HB.out | apply below_alloc | apply pw_below_drewN | apply below_drew1 | refine below_set ?_ GE164.out) | exact HB.out)) hb); clear BK164; clear HB; have BK164 := n0_; have HB := n1_; clear n0_ n1_; (try clear hb); (try clear hb2); (try clear hk); (try clear hi)) | ((with_reducible refine gate_dst (N := 13) rfl ?_); refine box_event ?hg (N := 13) ?hd (cs := #[.complex .f64 0 0, .complex .f64 0 0]) (t := 51) ?hr ?_; (case hd => rfl); (case hg => rfl); (case hr => first | (go_simp; done) | (go_simp; rfl)); intro gb168 hg w26 hbox hb; have n0_ := Aside0.mk (blk_below (g := gb164) (o := .cells #[.complex .f64 t161.re t161.im, .complex .f64 t162.re t162.im] 51 (0, 0)) (by (with_reducible repeat (first | refine blk_drewN ?_ _ | refine blk_drew ?_ | refine blk_alloc ?_ _)); exact BK164.out) hb); have n1_ := Aside0.mk (below_step (by repeat (first | (with_reducible first | exact HB.out | apply below_alloc | apply pw_below_drewN | apply below_drew1 | refine below_set ?_ GE164.out) | exact HB.out)) hb); have n2_ := Aside0.mk (hbox); have n3_ := Aside0.mk ((by rw [hg]; exact (below_size (by repeat (first | (with_reducible first | exact HB.out | apply below_alloc | apply pw_below_drewN | apply below_drew1 | refine below_set ?_ GE164.out) | exact HB.out))) : w.heap.size ≤ gb168)); have n4_ := Aside0.mk ((by rw [hg]; exact (below_size (by repeat (first | (with_reducible first | exact HB.out | apply below_alloc | apply pw_below_drewN | apply below_drew1 | refine below_set ?_ GE164.out) | exact HB.out))) : w.heap.size ≤ gb168)); have n5_ := Aside0.mk ((by rw [hg]; exact Nat.ne_of_lt (blk_lt (g := gb164) (o := .cells #[.complex .f64 t161.re t161.im, .complex .f64 t162.re t162.im] 51 (0, 0)) (by (with_reducible repeat (first | refine blk_drewN ?_ _ | refine blk_drew ?_ | refine blk_alloc ?_ _)); exact BK164.out)) : gb164 ≠ gb168)); have n6_ := Aside0.mk ((by rw [hg]; exact Nat.ne_of_gt (blk_lt (g := gb164) (o := .cells #[.complex .f64 t161.re t161.im, .complex .f64 t162.re t162.im] 51 (0, 0)) (by (with_reducible repeat (first | refine blk_drewN ?_ _ | refine blk_drew ?_ | refine blk_alloc ?_ _)); exact BK164.out)) : gb168 ≠ gb164)); clear BK164; clear HB; have BK164 := n0_; have HB := n1_; have BK168 := n2_; have GW168 := n3_; have GE168 := n4_; have NB164_168 := n5_; have NB168_164 := n6_; clear n0_ n1_ n2_ n3_ n4_ n5_ n6_; clear hb hbox hg; have hnb27 := NB168_164.out; have hnc27 := NB164_168.out; have hcz28_0 : w26.cell? ⟨gb168, 0, none⟩ = some (.complex .f64 0 0) := (blk_cell BK168.out 0).trans rfl; have hcz28_1 : w26.cell? ⟨gb168, 1, none⟩ = some (.complex .f64 0 0) := (blk_cell BK168.out 1).trans rfl; have hfz28_0 := blk_frozen BK168.out 0; have hfz28_1 := blk_frozen BK168.out 1))
        (try simp only [Act.put, List.setIfInBounds_toArray, List.set_cons_zero, List.set_cons_succ])
        go_cut [94] (fun v94 wc => ∃ (kq : Nat) (x94_20 : Bool), v94 = .bool x94_20 ∧ Aside0 (coraclelaw16_CurveEnds.j1 kq a0 a1 a2 a3 a4 x94_20 t161 t162 t165 t166 = some r) ∧ Aside0 (kq ≤ kj5) ∧ Aside0 (wc.heap[gb164]? = some (.cells #[.complex .f64 t161.re t161.im, .complex .f64 t162.re t162.im] 51 (0, 0))) ∧ Aside0 (wc.heap[gb168]? = some (.cells #[.complex .f64 t165.re t165.im, .complex .f64 t166.re t166.im] 51 (0, 0))) ∧ Aside0 (Below w.heap.size w wc))
        case first =>
          have H := HC21.out
          clear HC21
          by_cases c29 : t163 = 0
          · rw [if_pos c29] at H
            have c29b0 : (t163 == 0) = true := beq_iff_eq.mpr c29
            have c29b1 : (t163 != 0) = false := bne_eq_false_iff_eq.mpr c29
            clear c29
            (first | rw [c29b0] | (simp only [i64_w, i32_w]; rw [c29b0]) | skip)
            have H' := Aside0.mk H
            clear H
            go_wp2
            go_meet
            case rel => exact ⟨_, ((t167 != 0)), (by first | rfl | (simp; done) | (simp [*]; done)), H', ⟨by have := HJ5.out; first | omega | exact Nat.le_refl _⟩, ⟨by (with_reducible repeat (first | refine blk_drewN ?_ _ | refine blk_drew ?_ | refine blk_alloc ?_ _)); refine blk_far ?_ NB164_168.out _; (with_reducible repeat (first | refine blk_drewN ?_ _ | refine blk_drew ?_ | refine blk_alloc ?_ _)); refine blk_far ?_ NB164_168.out _; (with_reducible repeat (first | refine blk_drewN ?_ _ | refine blk_drew ?_ | refine blk_alloc ?_ _)); exact BK164.out⟩, ⟨by (with_reducible repeat (first | refine blk_drewN ?_ _ | refine blk_drew ?_ | refine blk_alloc ?_ _)); refine blk_put (cs := #[.complex .f64 t165.re t165.im, .complex .f64 0 0]) ?_ 1 _ rfl; (with_reducible repeat (first | refine blk_drewN ?_ _ | refine blk_drew ?_ | refine blk_alloc ?_ _)); refine blk_put (cs := #[.complex .f64 0 0, .complex .f64 0 0]) ?_ 0 _ rfl; (with_reducible repeat (first | refine blk_drewN ?_ _ | refine blk_drew ?_ | refine blk_alloc ?_ _)); exact BK168.out⟩, ⟨by repeat (first | (with_reducible first | exact HB.out | apply below_alloc | apply pw_below_drewN | apply below_drew1 | refine below_set ?_ GE164.out | refine below_set ?_ GE168.out) | exact HB.out)⟩⟩
          · rw [if_neg c29] at H
            have c29b0 : (t163 == 0) = false := beq_eq_false_iff_ne.mpr c29
            have c29b1 : (t163 != 0) = true := bne_iff_ne.mpr c29
            (first | rw [c29b0] | (simp only [i64_w, i32_w]; rw [c29b0]) | skip)
            have H' := Aside0.mk H
            clear H
            go_wp2
            go_meet
            case rel => exact ⟨_, (true), (by first | rfl | (simp; done) | (simp [*]; done)), H', ⟨by have := HJ5.out; first | omega | exact Nat.le_refl _⟩, ⟨by (with_reducible repeat (first | refine blk_drewN ?_ _ | refine blk_drew ?_ | refine blk_alloc ?_ _)); refine blk_far ?_ NB164_168.out _; (with_reducible repeat (first | refine blk_drewN ?_ _ | refine blk_drew ?_ | refine blk_alloc ?_ _)); refine blk_far ?_ NB164_168.out _; (with_reducible repeat (first | refine blk_drewN ?_ _ | refine blk_drew ?_ | refine blk_alloc ?_ _)); exact BK164.out⟩, ⟨by (with_reducible repeat (first | refine blk_drewN ?_ _ | refine blk_drew ?_ | refine blk_alloc ?_ _)); refine blk_put (cs := #[.complex .f64 t165.re t165.im, .complex .f64 0 0]) ?_ 1 _ rfl; (with_reducible repeat (first | refine blk_drewN ?_ _ | refine blk_drew ?_ | refine blk_alloc ?_ _)); refine blk_put (cs := #[.complex .f64 0 0, .complex .f64 0 0]) ?_ 0 _ rfl; (with_reducible repeat (first | refine blk_drewN ?_ _ | refine blk_drew ?_ | refine blk_alloc ?_ _)); exact BK168.out⟩, ⟨by repeat (first | (with_reducible first | exact HB.out | apply below_alloc | apply pw_below_drewN | apply below_drew1 | refine below_set ?_ GE164.out | refine below_set ?_ GE168.out) | exact HB.out)⟩⟩
        case rest =>
          clear HC21
          try clear c1
          try clear c2
          try clear p2
          try clear c3
          try clear p6
          try clear c7
          try clear c7b0
          try clear c8
          try clear c8b0
          try clear c9
          try clear c9b0
          try clear c10
          try clear c10b0
          try clear c11
          try clear c11b0
          try clear c12
          try clear c12b0
          try clear c13
          try clear c13b0
          try clear c14
          try clear c14b0
          try clear c15
          try clear c15b0
          try clear c16
          try clear c27
          try clear c29
          try clear c29b0
          try clear c29b1
          try clear hcz24_0
          try clear hcz24_1
          try clear hcz28_0
          try clear hcz28_1
          try clear hfz24_0
          try clear hfz24_1
          try clear hfz28_0
          try clear hfz28_1
          try clear p2
          obtain ⟨kq, x94_20, rfl, HA, HJ20, BK164, BK168, HB⟩ := hcut
          cases kq with
          | zero => exact absurd HA.out (by simp [coraclelaw16_CurveEnds.j1])
          | succ kj20 =>
            have H := HA.out
            clear HA
            simp only [coraclelaw16_CurveEnds.j1] at H
            by_cases c30 : x94_20 = true
            · subst c30
              have H1 : (some false) = some r := by rw [if_pos rfl] at H; exact H
              clear H
              have H := H1
              clear H1
              obtain rfl := Option.some.inj H
              go_wp2
              go_ret
              exact ⟨by first | rfl | (simp [errW_none, errW_some] <;> rfl) | (simp [*, errW_none, errW_some] <;> rfl), by repeat (first | (with_reducible first | exact HB.out | apply below_alloc | apply pw_below_drewN | apply below_drew1 | refine below_set ?_ GE164.out | refine below_set ?_ GE168.out) | exact HB.out)⟩
            · replace c30 := Bool.eq_false_iff.mpr c30
              subst c30
              have H1 : ((curve_Curve_At.f t161 t162 a4).bind fun t169 => (if a4 < a0 then (if t169 = a2 then ((curve_Curve_At.f t165 t166 a4).bind fun t170 => (if t170 = a2 then ((coraclelaw16_awake.f kj20).bind fun t171 => (some t171)) else (some false))) else (some false)) else (if a4 ≥ (wrap64 (a0 + a1)) then (if t169 = (wrap64 (a2 + a3)) then ((curve_Curve_At.f t165 t166 a4).bind fun t172 => (if t172 = a2 then ((coraclelaw16_awake.f kj20).bind fun t173 => (some t173)) else (some false))) else (some false)) else (if a1 = 0 then (none) else (if t169 = (wrap64 (a2 + (wrap64 (Int.tdiv (wrap64 (a3 * (wrap64 (a4 - a0)))) a1)))) then ((curve_Curve_At.f t165 t166 a4).bind fun t174 => (if t174 = a2 then ((curve_Curve_At.f t161 t162 a0).bind fun t175 => (if t175 = a2 then ((curve_Curve_At.f t161 t162 (wrap64 (a0 + a1))).bind fun t176 => (if t176 = (wrap64 (a2 + a3)) then ((coraclelaw16_awake.f kj20).bind fun t177 => (some t177)) else (some false))) else (some false))) else (some false))) else (some false)))))) = some r := by rw [if_neg (show ¬ (false = true) by decide)] at H; exact H
              clear H
              have H := H1
              clear H1
              replace H := Option.bind_eq_some_iff.mp H
              obtain ⟨t169, A310, H⟩ := H
              replace H : (if a4 < a0 then (if t169 = a2 then ((curve_Curve_At.f t165 t166 a4).bind fun t170 => (if t170 = a2 then ((coraclelaw16_awake.f kj20).bind fun t171 => (some t171)) else (some false))) else (some false)) else (if a4 ≥ (wrap64 (a0 + a1)) then (if t169 = (wrap64 (a2 + a3)) then ((curve_Curve_At.f t165 t166 a4).bind fun t172 => (if t172 = a2 then ((coraclelaw16_awake.f kj20).bind fun t173 => (some t173)) else (some false))) else (some false)) else (if a1 = 0 then (none) else (if t169 = (wrap64 (a2 + (wrap64 (Int.tdiv (wrap64 (a3 * (wrap64 (a4 - a0)))) a1)))) then ((curve_Curve_At.f t165 t166 a4).bind fun t174 => (if t174 = a2 then ((curve_Curve_At.f t161 t162 a0).bind fun t175 => (if t175 = a2 then ((curve_Curve_At.f t161 t162 (wrap64 (a0 + a1))).bind fun t176 => (if t176 = (wrap64 (a2 + a3)) then ((coraclelaw16_awake.f kj20).bind fun t177 => (some t177)) else (some false))) else (some false))) else (some false))) else (some false))))) = some r := H
              have A31 := Aside0.mk A310
              clear A310
              by_cases c32 : a4 < a0
              · rw [if_pos c32] at H
                have c32b0 : decide (a4 < a0) = true := decide_eq_true c32
                clear c32
                by_cases c33 : t169 = a2
                · rw [if_pos c33] at H
                  have c33b0 : (t169 == a2) = true := beq_iff_eq.mpr c33
                  have c33b1 : (t169 != a2) = false := bne_eq_false_iff_eq.mpr c33
                  clear c33
                  replace H := Option.bind_eq_some_iff.mp H
                  obtain ⟨t170, A340, H⟩ := H
                  replace H : (if t170 = a2 then ((coraclelaw16_awake.f kj20).bind fun t171 => (some t171)) else (some false)) = some r := H
                  have A34 := Aside0.mk A340
                  clear A340
                  by_cases c35 : t170 = a2
                  · rw [if_pos c35] at H
                    have c35b0 : (t170 == a2) = true := beq_iff_eq.mpr c35
                    have c35b1 : (t170 != a2) = false := bne_eq_false_iff_eq.mpr c35
                    clear c35
                    replace H := Option.bind_eq_some_iff.mp H
                    obtain ⟨t171, A360, H⟩ := H
                    replace H : (some t171) = some r := H
                    have A36 := Aside0.mk A360
                    clear A360
                    obtain rfl := Option.some.inj H
                    have hnb37 := NB164_168.out
                    have hnc37 := NB168_164.out
                    have hcz38_0 : wc.cell? ⟨gb164, 0, none⟩ = some (.complex .f64 t161.re t161.im) := (blk_cell BK164.out 0).trans rfl
                    have hcz38_1 : wc.cell? ⟨gb164, 1, none⟩ = some (.complex .f64 t162.re t162.im) := (blk_cell BK164.out 1).trans rfl
                    have hfz38_0 := blk_frozen BK164.out 0
                    have hfz38_1 := blk_frozen BK164.out 1
                    go_wp2_with (first | ((with_reducible refine gate_callee (f := 39) rfl ?_); refine goesL_ (some 97) rfl rfl Try.func39 (by kernel_rfl) rfl #[.agg #[.complex .f64 t161.re t161.im, .complex .f64 t162.re t162.im], .int .i64 a4] rfl (by (try simp only [List.map_toArray, List.map_cons, List.map_nil]); first | done | rfl | (simp only [List.length_drop, List.length_take]; rfl)) ?_; (with_reducible refine (curve_Curve_At.calls t161 t162 a4 t169 _ A31.out).mono ?_); rintro e w39 ⟨rfl, hb⟩; refine ⟨_, rfl, ?_⟩; have n0_ := Aside0.mk (blk_below (g := gb164) (o := .cells #[.complex .f64 t161.re t161.im, .complex .f64 t162.re t162.im] 51 (0, 0)) (by (with_reducible repeat (first | refine blk_drewN ?_ _ | refine blk_drew ?_ | refine blk_alloc ?_ _)); exact BK164.out) hb); have n1_ := Aside0.mk (blk_below (g := gb168) (o := .cells #[.complex .f64 t165.re t165.im, .complex .f64 t166.re t166.im] 51 (0, 0)) (by (with_reducible repeat (first | refine blk_drewN ?_ _ | refine blk_drew ?_ | refine blk_alloc ?_ _)); exact BK168.out) hb); have n2_ := Aside0.mk (below_step (by repeat (first | (with_reducible first | exact HB.out | apply below_alloc | apply pw_below_drewN | apply below_drew1 | refine below_set ?_ GE164.out | refine below_set ?_ GE168.out) | exact HB.out)) hb); clear BK164; clear BK168; clear HB; have BK164 := n0_; have BK168 := n1_; have HB := n2_; clear n0_ n1_ n2_; (try clear hb); (try clear hb2); (try clear hk); (try clear hi); have hcz40_0 : w39.cell? ⟨gb168, 0, none⟩ = some (.complex .f64 t165.re t165.im) := (blk_cell BK168.out 0).trans rfl; have hcz40_1 : w39.cell? ⟨gb168, 1, none⟩ = some (.complex .f64 t166.re t166.im) := (blk_cell BK168.out 1).trans rfl; have hfz40_0 := blk_frozen BK168.out 0; have hfz40_1 := blk_frozen BK168.out 1) | (go_at_call 39; (with_reducible refine (curve_Curve_At.calls t165 t166 a4 t170 _ A34.out).mono ?_); rintro e w41 ⟨rfl, hb⟩; have n0_ := Aside0.mk (blk_below (g := gb164) (o := .cells #[.complex .f64 t161.re t161.im, .complex .f64 t162.re t162.im] 51 (0, 0)) (by (with_reducible repeat (first | refine blk_drewN ?_ _ | refine blk_drew ?_ | refine blk_alloc ?_ _)); exact BK164.out) hb); have n1_ := Aside0.mk (blk_below (g := gb168) (o := .cells #[.complex .f64 t165.re t165.im, .complex .f64 t166.re t166.im] 51 (0, 0)) (by (with_reducible repeat (first | refine blk_drewN ?_ _ | refine blk_drew ?_ | refine blk_alloc ?_ _)); exact BK168.out) hb); have n2_ := Aside0.mk (below_step (by repeat (first | (with_reducible first | exact HB.out | apply below_alloc | apply pw_below_drewN | apply below_drew1 | refine below_set ?_ GE164.out | refine below_set ?_ GE168.out) | exact HB.out)) hb); clear BK164; clear BK168; clear HB; have BK164 := n0_; have BK168 := n1_; have HB := n2_; clear n0_ n1_ n2_; (try clear hb); (try clear hb2); (try clear hk); (try clear hi)) | (go_at_call 37; (with_reducible refine (coraclelaw16_awake.calls kj20  t171 _ A36.out).mono ?_); rintro e w42 ⟨rfl, hb⟩; have n0_ := Aside0.mk (blk_below (g := gb164) (o := .cells #[.complex .f64 t161.re t161.im, .complex .f64 t162.re t162.im] 51 (0, 0)) (by (with_reducible repeat (first | refine blk_drewN ?_ _ | refine blk_drew ?_ | refine blk_alloc ?_ _)); exact BK164.out) hb); have n1_ := Aside0.mk (blk_below (g := gb168) (o := .cells #[.complex .f64 t165.re t165.im, .complex .f64 t166.re t166.im] 51 (0, 0)) (by (with_reducible repeat (first | refine blk_drewN ?_ _ | refine blk_drew ?_ | refine blk_alloc ?_ _)); exact BK168.out) hb); have n2_ := Aside0.mk (below_step (by repeat (first | (with_reducible first | exact HB.out | apply below_alloc | apply pw_below_drewN | apply below_drew1 | refine below_set ?_ GE164.out | refine below_set ?_ GE168.out) | exact HB.out)) hb); clear BK164; clear BK168; clear HB; have BK164 := n0_; have BK168 := n1_; have HB := n2_; clear n0_ n1_ n2_; (try clear hb); (try clear hb2); (try clear hk); (try clear hi)))
                    go_ret
                    exact ⟨by first | rfl | (simp [errW_none, errW_some] <;> rfl) | (simp [*, errW_none, errW_some] <;> rfl), by repeat (first | (with_reducible first | exact HB.out | apply below_alloc | apply pw_below_drewN | apply below_drew1 | refine below_set ?_ GE164.out | refine below_set ?_ GE168.out) | exact HB.out)⟩
                  · rw [if_neg c35] at H
                    have c35b0 : (t170 == a2) = false := beq_eq_false_iff_ne.mpr c35
                    have c35b1 : (t170 != a2) = true := bne_iff_ne.mpr c35
                    obtain rfl := Option.some.inj H
                    have hnb43 := NB164_168.out
                    have hnc43 := NB168_164.out
                    have hcz44_0 : wc.cell? ⟨gb164, 0, none⟩ = some (.complex .f64 t161.re t161.im) := (blk_cell BK164.out 0).trans rfl
                    have hcz44_1 : wc.cell? ⟨gb164, 1, none⟩ = some (.complex .f64 t162.re t162.im) := (blk_cell BK164.out 1).trans rfl
                    have hfz44_0 := blk_frozen BK164.out 0
                    have hfz44_1 := blk_frozen BK164.out 1
                    go_wp2_with (first | ((with_reducible refine gate_callee (f := 39) rfl ?_); refine goesL_ (some 97) rfl rfl Try.func39 (by kernel_rfl) rfl #[.agg #[.complex .f64 t161.re t161.im, .complex .f64 t162.re t162.im], .int .i64 a4] rfl (by (try simp only [List.map_toArray, List.map_cons, List.map_nil]); first | done | rfl | (simp only [List.length_drop, List.length_take]; rfl)) ?_; (with_reducible refine (curve_Curve_At.calls t161 t162 a4 t169 _ A31.out).mono ?_); rintro e w45 ⟨rfl, hb⟩; refine ⟨_, rfl, ?_⟩; have n0_ := Aside0.mk (blk_below (g := gb164) (o := .cells #[.complex .f64 t161.re t161.im, .complex .f64 t162.re t162.im] 51 (0, 0)) (by (with_reducible repeat (first | refine blk_drewN ?_ _ | refine blk_drew ?_ | refine blk_alloc ?_ _)); exact BK164.out) hb); have n1_ := Aside0.mk (blk_below (g := gb168) (o := .cells #[.complex .f64 t165.re t165.im, .complex .f64 t166.re t166.im] 51 (0, 0)) (by (with_reducible repeat (first | refine blk_drewN ?_ _ | refine blk_drew ?_ | refine blk_alloc ?_ _)); exact BK168.out) hb); have n2_ := Aside0.mk (below_step (by repeat (first | (with_reducible first | exact HB.out | apply below_alloc | apply pw_below_drewN | apply below_drew1 | refine below_set ?_ GE164.out | refine below_set ?_ GE168.out) | exact HB.out)) hb); clear BK164; clear BK168; clear HB; have BK164 := n0_; have BK168 := n1_; have HB := n2_; clear n0_ n1_ n2_; (try clear hb); (try clear hb2); (try clear hk); (try clear hi); have hcz46_0 : w45.cell? ⟨gb168, 0, none⟩ = some (.complex .f64 t165.re t165.im) := (blk_cell BK168.out 0).trans rfl; have hcz46_1 : w45.cell? ⟨gb168, 1, none⟩ = some (.complex .f64 t166.re t166.im) := (blk_cell BK168.out 1).trans rfl; have hfz46_0 := blk_frozen BK168.out 0; have hfz46_1 := blk_frozen BK168.out 1) | (go_at_call 39; (with_reducible refine (curve_Curve_At.calls t165 t166 a4 t170 _ A34.out).mono ?_); rintro e w47 ⟨rfl, hb⟩; have n0_ := Aside0.mk (blk_below (g := gb164) (o := .cells #[.complex .f64 t161.re t161.im, .complex .f64 t162.re t162.im] 51 (0, 0)) (by (with_reducible repeat (first | refine blk_drewN ?_ _ | refine blk_drew ?_ | refine blk_alloc ?_ _)); exact BK164.out) hb); have n1_ := Aside0.mk (blk_below (g := gb168) (o := .cells #[.complex .f64 t165.re t165.im, .complex .f64 t166.re t166.im] 51 (0, 0)) (by (with_reducible repeat (first | refine blk_drewN ?_ _ | refine blk_drew ?_ | refine blk_alloc ?_ _)); exact BK168.out) hb); have n2_ := Aside0.mk (below_step (by repeat (first | (with_reducible first | exact HB.out | apply below_alloc | apply pw_below_drewN | apply below_drew1 | refine below_set ?_ GE164.out | refine below_set ?_ GE168.out) | exact HB.out)) hb); clear BK164; clear BK168; clear HB; have BK164 := n0_; have BK168 := n1_; have HB := n2_; clear n0_ n1_ n2_; (try clear hb); (try clear hb2); (try clear hk); (try clear hi)))
                    go_ret
                    exact ⟨by first | rfl | (simp [errW_none, errW_some] <;> rfl) | (simp [*, errW_none, errW_some] <;> rfl), by repeat (first | (with_reducible first | exact HB.out | apply below_alloc | apply pw_below_drewN | apply below_drew1 | refine below_set ?_ GE164.out | refine below_set ?_ GE168.out) | exact HB.out)⟩
                · rw [if_neg c33] at H
                  have c33b0 : (t169 == a2) = false := beq_eq_false_iff_ne.mpr c33
                  have c33b1 : (t169 != a2) = true := bne_iff_ne.mpr c33
                  obtain rfl := Option.some.inj H
                  have hnb48 := NB164_168.out
                  have hnc48 := NB168_164.out
                  have hcz49_0 : wc.cell? ⟨gb164, 0, none⟩ = some (.complex .f64 t161.re t161.im) := (blk_cell BK164.out 0).trans rfl
                  have hcz49_1 : wc.cell? ⟨gb164, 1, none⟩ = some (.complex .f64 t162.re t162.im) := (blk_cell BK164.out 1).trans rfl
                  have hfz49_0 := blk_frozen BK164.out 0
                  have hfz49_1 := blk_frozen BK164.out 1
                  go_wp2_with (first | ((with_reducible refine gate_callee (f := 39) rfl ?_); refine goesL_ (some 97) rfl rfl Try.func39 (by kernel_rfl) rfl #[.agg #[.complex .f64 t161.re t161.im, .complex .f64 t162.re t162.im], .int .i64 a4] rfl (by (try simp only [List.map_toArray, List.map_cons, List.map_nil]); first | done | rfl | (simp only [List.length_drop, List.length_take]; rfl)) ?_; (with_reducible refine (curve_Curve_At.calls t161 t162 a4 t169 _ A31.out).mono ?_); rintro e w50 ⟨rfl, hb⟩; refine ⟨_, rfl, ?_⟩; have n0_ := Aside0.mk (blk_below (g := gb164) (o := .cells #[.complex .f64 t161.re t161.im, .complex .f64 t162.re t162.im] 51 (0, 0)) (by (with_reducible repeat (first | refine blk_drewN ?_ _ | refine blk_drew ?_ | refine blk_alloc ?_ _)); exact BK164.out) hb); have n1_ := Aside0.mk (blk_below (g := gb168) (o := .cells #[.complex .f64 t165.re t165.im, .complex .f64 t166.re t166.im] 51 (0, 0)) (by (with_reducible repeat (first | refine blk_drewN ?_ _ | refine blk_drew ?_ | refine blk_alloc ?_ _)); exact BK168.out) hb); have n2_ := Aside0.mk (below_step (by repeat (first | (with_reducible first | exact HB.out | apply below_alloc | apply pw_below_drewN | apply below_drew1 | refine below_set ?_ GE164.out | refine below_set ?_ GE168.out) | exact HB.out)) hb); clear BK164; clear BK168; clear HB; have BK164 := n0_; have BK168 := n1_; have HB := n2_; clear n0_ n1_ n2_; (try clear hb); (try clear hb2); (try clear hk); (try clear hi)))
                  go_ret
                  exact ⟨by first | rfl | (simp [errW_none, errW_some] <;> rfl) | (simp [*, errW_none, errW_some] <;> rfl), by repeat (first | (with_reducible first | exact HB.out | apply below_alloc | apply pw_below_drewN | apply below_drew1 | refine below_set ?_ GE164.out | refine below_set ?_ GE168.out) | exact HB.out)⟩
              · rw [if_neg c32] at H
                have c32b0 : decide (a4 < a0) = false := decide_eq_false c32
                clear c32
                by_cases c51 : a4 ≥ (wrap64 (a0 + a1))
                · rw [if_pos c51] at H
                  have c51b0 : decide ((wrap64 (a0 + a1)) ≤ a4) = true := decide_eq_true c51
                  clear c51
                  by_cases c52 : t169 = (wrap64 (a2 + a3))
                  · rw [if_pos c52] at H
                    have c52b0 : (t169 == (wrap64 (a2 + a3))) = true := beq_iff_eq.mpr c52
                    have c52b1 : (t169 != (wrap64 (a2 + a3))) = false := bne_eq_false_iff_eq.mpr c52
                    clear c52
                    replace H := Option.bind_eq_some_iff.mp H
                    obtain ⟨t172, A530, H⟩ := H
                    replace H : (if t172 = a2 then ((coraclelaw16_awake.f kj20).bind fun t173 => (some t173)) else (some false)) = some r := H
                    have A53 := Aside0.mk A530
                    clear A530
                    by_cases c54 : t172 = a2
                    · rw [if_pos c54] at H
                      have c54b0 : (t172 == a2) = true := beq_iff_eq.mpr c54
                      have c54b1 : (t172 != a2) = false := bne_eq_false_iff_eq.mpr c54
                      clear c54
                      replace H := Option.bind_eq_some_iff.mp H
                      obtain ⟨t173, A550, H⟩ := H
                      replace H : (some t173) = some r := H
                      have A55 := Aside0.mk A550
                      clear A550
                      obtain rfl := Option.some.inj H
                      have hnb56 := NB164_168.out
                      have hnc56 := NB168_164.out
                      have hcz57_0 : wc.cell? ⟨gb164, 0, none⟩ = some (.complex .f64 t161.re t161.im) := (blk_cell BK164.out 0).trans rfl
                      have hcz57_1 : wc.cell? ⟨gb164, 1, none⟩ = some (.complex .f64 t162.re t162.im) := (blk_cell BK164.out 1).trans rfl
                      have hfz57_0 := blk_frozen BK164.out 0
                      have hfz57_1 := blk_frozen BK164.out 1
                      go_wp2_with (first | ((with_reducible refine gate_callee (f := 39) rfl ?_); refine goesL_ (some 97) rfl rfl Try.func39 (by kernel_rfl) rfl #[.agg #[.complex .f64 t161.re t161.im, .complex .f64 t162.re t162.im], .int .i64 a4] rfl (by (try simp only [List.map_toArray, List.map_cons, List.map_nil]); first | done | rfl | (simp only [List.length_drop, List.length_take]; rfl)) ?_; (with_reducible refine (curve_Curve_At.calls t161 t162 a4 t169 _ A31.out).mono ?_); rintro e w58 ⟨rfl, hb⟩; refine ⟨_, rfl, ?_⟩; have n0_ := Aside0.mk (blk_below (g := gb164) (o := .cells #[.complex .f64 t161.re t161.im, .complex .f64 t162.re t162.im] 51 (0, 0)) (by (with_reducible repeat (first | refine blk_drewN ?_ _ | refine blk_drew ?_ | refine blk_alloc ?_ _)); exact BK164.out) hb); have n1_ := Aside0.mk (blk_below (g := gb168) (o := .cells #[.complex .f64 t165.re t165.im, .complex .f64 t166.re t166.im] 51 (0, 0)) (by (with_reducible repeat (first | refine blk_drewN ?_ _ | refine blk_drew ?_ | refine blk_alloc ?_ _)); exact BK168.out) hb); have n2_ := Aside0.mk (below_step (by repeat (first | (with_reducible first | exact HB.out | apply below_alloc | apply pw_below_drewN | apply below_drew1 | refine below_set ?_ GE164.out | refine below_set ?_ GE168.out) | exact HB.out)) hb); clear BK164; clear BK168; clear HB; have BK164 := n0_; have BK168 := n1_; have HB := n2_; clear n0_ n1_ n2_; (try clear hb); (try clear hb2); (try clear hk); (try clear hi); have hcz59_0 : w58.cell? ⟨gb168, 0, none⟩ = some (.complex .f64 t165.re t165.im) := (blk_cell BK168.out 0).trans rfl; have hcz59_1 : w58.cell? ⟨gb168, 1, none⟩ = some (.complex .f64 t166.re t166.im) := (blk_cell BK168.out 1).trans rfl; have hfz59_0 := blk_frozen BK168.out 0; have hfz59_1 := blk_frozen BK168.out 1) | (go_at_call 39; (with_reducible refine (curve_Curve_At.calls t165 t166 a4 t172 _ A53.out).mono ?_); rintro e w60 ⟨rfl, hb⟩; have n0_ := Aside0.mk (blk_below (g := gb164) (o := .cells #[.complex .f64 t161.re t161.im, .complex .f64 t162.re t162.im] 51 (0, 0)) (by (with_reducible repeat (first | refine blk_drewN ?_ _ | refine blk_drew ?_ | refine blk_alloc ?_ _)); exact BK164.out) hb); have n1_ := Aside0.mk (blk_below (g := gb168) (o := .cells #[.complex .f64 t165.re t165.im, .complex .f64 t166.re t166.im] 51 (0, 0)) (by (with_reducible repeat (first | refine blk_drewN ?_ _ | refine blk_drew ?_ | refine blk_alloc ?_ _)); exact BK168.out) hb); have n2_ := Aside0.mk (below_step (by repeat (first | (with_reducible first | exact HB.out | apply below_alloc | apply pw_below_drewN | apply below_drew1 | refine below_set ?_ GE164.out | refine below_set ?_ GE168.out) | exact HB.out)) hb); clear BK164; clear BK168; clear HB; have BK164 := n0_; have BK168 := n1_; have HB := n2_; clear n0_ n1_ n2_; (try clear hb); (try clear hb2); (try clear hk); (try clear hi)) | (go_at_call 37; (with_reducible refine (coraclelaw16_awake.calls kj20  t173 _ A55.out).mono ?_); rintro e w61 ⟨rfl, hb⟩; have n0_ := Aside0.mk (blk_below (g := gb164) (o := .cells #[.complex .f64 t161.re t161.im, .complex .f64 t162.re t162.im] 51 (0, 0)) (by (with_reducible repeat (first | refine blk_drewN ?_ _ | refine blk_drew ?_ | refine blk_alloc ?_ _)); exact BK164.out) hb); have n1_ := Aside0.mk (blk_below (g := gb168) (o := .cells #[.complex .f64 t165.re t165.im, .complex .f64 t166.re t166.im] 51 (0, 0)) (by (with_reducible repeat (first | refine blk_drewN ?_ _ | refine blk_drew ?_ | refine blk_alloc ?_ _)); exact BK168.out) hb); have n2_ := Aside0.mk (below_step (by repeat (first | (with_reducible first | exact HB.out | apply below_alloc | apply pw_below_drewN | apply below_drew1 | refine below_set ?_ GE164.out | refine below_set ?_ GE168.out) | exact HB.out)) hb); clear BK164; clear BK168; clear HB; have BK164 := n0_; have BK168 := n1_; have HB := n2_; clear n0_ n1_ n2_; (try clear hb); (try clear hb2); (try clear hk); (try clear hi)))
                      go_ret
                      exact ⟨by first | rfl | (simp [errW_none, errW_some] <;> rfl) | (simp [*, errW_none, errW_some] <;> rfl), by repeat (first | (with_reducible first | exact HB.out | apply below_alloc | apply pw_below_drewN | apply below_drew1 | refine below_set ?_ GE164.out | refine below_set ?_ GE168.out) | exact HB.out)⟩
                    · rw [if_neg c54] at H
                      have c54b0 : (t172 == a2) = false := beq_eq_false_iff_ne.mpr c54
                      have c54b1 : (t172 != a2) = true := bne_iff_ne.mpr c54
                      obtain rfl := Option.some.inj H
                      have hnb62 := NB164_168.out
                      have hnc62 := NB168_164.out
                      have hcz63_0 : wc.cell? ⟨gb164, 0, none⟩ = some (.complex .f64 t161.re t161.im) := (blk_cell BK164.out 0).trans rfl
                      have hcz63_1 : wc.cell? ⟨gb164, 1, none⟩ = some (.complex .f64 t162.re t162.im) := (blk_cell BK164.out 1).trans rfl
                      have hfz63_0 := blk_frozen BK164.out 0
                      have hfz63_1 := blk_frozen BK164.out 1
                      go_wp2_with (first | ((with_reducible refine gate_callee (f := 39) rfl ?_); refine goesL_ (some 97) rfl rfl Try.func39 (by kernel_rfl) rfl #[.agg #[.complex .f64 t161.re t161.im, .complex .f64 t162.re t162.im], .int .i64 a4] rfl (by (try simp only [List.map_toArray, List.map_cons, List.map_nil]); first | done | rfl | (simp only [List.length_drop, List.length_take]; rfl)) ?_; (with_reducible refine (curve_Curve_At.calls t161 t162 a4 t169 _ A31.out).mono ?_); rintro e w64 ⟨rfl, hb⟩; refine ⟨_, rfl, ?_⟩; have n0_ := Aside0.mk (blk_below (g := gb164) (o := .cells #[.complex .f64 t161.re t161.im, .complex .f64 t162.re t162.im] 51 (0, 0)) (by (with_reducible repeat (first | refine blk_drewN ?_ _ | refine blk_drew ?_ | refine blk_alloc ?_ _)); exact BK164.out) hb); have n1_ := Aside0.mk (blk_below (g := gb168) (o := .cells #[.complex .f64 t165.re t165.im, .complex .f64 t166.re t166.im] 51 (0, 0)) (by (with_reducible repeat (first | refine blk_drewN ?_ _ | refine blk_drew ?_ | refine blk_alloc ?_ _)); exact BK168.out) hb); have n2_ := Aside0.mk (below_step (by repeat (first | (with_reducible first | exact HB.out | apply below_alloc | apply pw_below_drewN | apply below_drew1 | refine below_set ?_ GE164.out | refine below_set ?_ GE168.out) | exact HB.out)) hb); clear BK164; clear BK168; clear HB; have BK164 := n0_; have BK168 := n1_; have HB := n2_; clear n0_ n1_ n2_; (try clear hb); (try clear hb2); (try clear hk); (try clear hi); have hcz65_0 : w64.cell? ⟨gb168, 0, none⟩ = some (.complex .f64 t165.re t165.im) := (blk_cell BK168.out 0).trans rfl; have hcz65_1 : w64.cell? ⟨gb168, 1, none⟩ = some (.complex .f64 t166.re t166.im) := (blk_cell BK168.out 1).trans rfl; have hfz65_0 := blk_frozen BK168.out 0; have hfz65_1 := blk_frozen BK168.out 1) | (go_at_call 39; (with_reducible refine (curve_Curve_At.calls t165 t166 a4 t172 _ A53.out).mono ?_); rintro e w66 ⟨rfl, hb⟩; have n0_ := Aside0.mk (blk_below (g := gb164) (o := .cells #[.complex .f64 t161.re t161.im, .complex .f64 t162.re t162.im] 51 (0, 0)) (by (with_reducible repeat (first | refine blk_drewN ?_ _ | refine blk_drew ?_ | refine blk_alloc ?_ _)); exact BK164.out) hb); have n1_ := Aside0.mk (blk_below (g := gb168) (o := .cells #[.complex .f64 t165.re t165.im, .complex .f64 t166.re t166.im] 51 (0, 0)) (by (with_reducible repeat (first | refine blk_drewN ?_ _ | refine blk_drew ?_ | refine blk_alloc ?_ _)); exact BK168.out) hb); have n2_ := Aside0.mk (below_step (by repeat (first | (with_reducible first | exact HB.out | apply below_alloc | apply pw_below_drewN | apply below_drew1 | refine below_set ?_ GE164.out | refine below_set ?_ GE168.out) | exact HB.out)) hb); clear BK164; clear BK168; clear HB; have BK164 := n0_; have BK168 := n1_; have HB := n2_; clear n0_ n1_ n2_; (try clear hb); (try clear hb2); (try clear hk); (try clear hi)))
                      go_ret
                      exact ⟨by first | rfl | (simp [errW_none, errW_some] <;> rfl) | (simp [*, errW_none, errW_some] <;> rfl), by repeat (first | (with_reducible first | exact HB.out | apply below_alloc | apply pw_below_drewN | apply below_drew1 | refine below_set ?_ GE164.out | refine below_set ?_ GE168.out) | exact HB.out)⟩
                  · rw [if_neg c52] at H
                    have c52b0 : (t169 == (wrap64 (a2 + a3))) = false := beq_eq_false_iff_ne.mpr c52
                    have c52b1 : (t169 != (wrap64 (a2 + a3))) = true := bne_iff_ne.mpr c52
                    obtain rfl := Option.some.inj H
                    have hnb67 := NB164_168.out
                    have hnc67 := NB168_164.out
                    have hcz68_0 : wc.cell? ⟨gb164, 0, none⟩ = some (.complex .f64 t161.re t161.im) := (blk_cell BK164.out 0).trans rfl
                    have hcz68_1 : wc.cell? ⟨gb164, 1, none⟩ = some (.complex .f64 t162.re t162.im) := (blk_cell BK164.out 1).trans rfl
                    have hfz68_0 := blk_frozen BK164.out 0
                    have hfz68_1 := blk_frozen BK164.out 1
                    go_wp2_with (first | ((with_reducible refine gate_callee (f := 39) rfl ?_); refine goesL_ (some 97) rfl rfl Try.func39 (by kernel_rfl) rfl #[.agg #[.complex .f64 t161.re t161.im, .complex .f64 t162.re t162.im], .int .i64 a4] rfl (by (try simp only [List.map_toArray, List.map_cons, List.map_nil]); first | done | rfl | (simp only [List.length_drop, List.length_take]; rfl)) ?_; (with_reducible refine (curve_Curve_At.calls t161 t162 a4 t169 _ A31.out).mono ?_); rintro e w69 ⟨rfl, hb⟩; refine ⟨_, rfl, ?_⟩; have n0_ := Aside0.mk (blk_below (g := gb164) (o := .cells #[.complex .f64 t161.re t161.im, .complex .f64 t162.re t162.im] 51 (0, 0)) (by (with_reducible repeat (first | refine blk_drewN ?_ _ | refine blk_drew ?_ | refine blk_alloc ?_ _)); exact BK164.out) hb); have n1_ := Aside0.mk (blk_below (g := gb168) (o := .cells #[.complex .f64 t165.re t165.im, .complex .f64 t166.re t166.im] 51 (0, 0)) (by (with_reducible repeat (first | refine blk_drewN ?_ _ | refine blk_drew ?_ | refine blk_alloc ?_ _)); exact BK168.out) hb); have n2_ := Aside0.mk (below_step (by repeat (first | (with_reducible first | exact HB.out | apply below_alloc | apply pw_below_drewN | apply below_drew1 | refine below_set ?_ GE164.out | refine below_set ?_ GE168.out) | exact HB.out)) hb); clear BK164; clear BK168; clear HB; have BK164 := n0_; have BK168 := n1_; have HB := n2_; clear n0_ n1_ n2_; (try clear hb); (try clear hb2); (try clear hk); (try clear hi)))
                    go_ret
                    exact ⟨by first | rfl | (simp [errW_none, errW_some] <;> rfl) | (simp [*, errW_none, errW_some] <;> rfl), by repeat (first | (with_reducible first | exact HB.out | apply below_alloc | apply pw_below_drewN | apply below_drew1 | refine below_set ?_ GE164.out | refine below_set ?_ GE168.out) | exact HB.out)⟩
                · rw [if_neg c51] at H
                  have c51b0 : decide ((wrap64 (a0 + a1)) ≤ a4) = false := decide_eq_false c51
                  clear c51
                  by_cases c70 : a1 = 0
                  · rw [if_pos c70] at H
                    exact absurd H (by simp)
                  · rw [if_neg c70] at H
                    have c70b0 : (a1 == 0) = false := beq_eq_false_iff_ne.mpr c70
                    have c70b1 : (a1 != 0) = true := bne_iff_ne.mpr c70
                    by_cases c71 : t169 = (wrap64 (a2 + (wrap64 (Int.tdiv (wrap64 (a3 * (wrap64 (a4 - a0)))) a1))))
                    · rw [if_pos c71] at H
                      have c71b0 : (t169 == (wrap64 (a2 + (wrap64 (Int.tdiv (wrap64 (a3 * (wrap64 (a4 - a0)))) a1))))) = true := beq_iff_eq.mpr c71
                      have c71b1 : (t169 != (wrap64 (a2 + (wrap64 (Int.tdiv (wrap64 (a3 * (wrap64 (a4 - a0)))) a1))))) = false := bne_eq_false_iff_eq.mpr c71
                      clear c71
                      replace H := Option.bind_eq_some_iff.mp H
                      obtain ⟨t174, A720, H⟩ := H
                      replace H : (if t174 = a2 then ((curve_Curve_At.f t161 t162 a0).bind fun t175 => (if t175 = a2 then ((curve_Curve_At.f t161 t162 (wrap64 (a0 + a1))).bind fun t176 => (if t176 = (wrap64 (a2 + a3)) then ((coraclelaw16_awake.f kj20).bind fun t177 => (some t177)) else (some false))) else (some false))) else (some false)) = some r := H
                      have A72 := Aside0.mk A720
                      clear A720
                      by_cases c73 : t174 = a2
                      · rw [if_pos c73] at H
                        have c73b0 : (t174 == a2) = true := beq_iff_eq.mpr c73
                        have c73b1 : (t174 != a2) = false := bne_eq_false_iff_eq.mpr c73
                        clear c73
                        replace H := Option.bind_eq_some_iff.mp H
                        obtain ⟨t175, A740, H⟩ := H
                        replace H : (if t175 = a2 then ((curve_Curve_At.f t161 t162 (wrap64 (a0 + a1))).bind fun t176 => (if t176 = (wrap64 (a2 + a3)) then ((coraclelaw16_awake.f kj20).bind fun t177 => (some t177)) else (some false))) else (some false)) = some r := H
                        have A74 := Aside0.mk A740
                        clear A740
                        by_cases c75 : t175 = a2
                        · rw [if_pos c75] at H
                          have c75b0 : (t175 == a2) = true := beq_iff_eq.mpr c75
                          have c75b1 : (t175 != a2) = false := bne_eq_false_iff_eq.mpr c75
                          clear c75
                          replace H := Option.bind_eq_some_iff.mp H
                          obtain ⟨t176, A760, H⟩ := H
                          replace H : (if t176 = (wrap64 (a2 + a3)) then ((coraclelaw16_awake.f kj20).bind fun t177 => (some t177)) else (some false)) = some r := H
                          have A76 := Aside0.mk A760
                          clear A760
                          by_cases c77 : t176 = (wrap64 (a2 + a3))
                          · rw [if_pos c77] at H
                            have c77b0 : (t176 == (wrap64 (a2 + a3))) = true := beq_iff_eq.mpr c77
                            have c77b1 : (t176 != (wrap64 (a2 + a3))) = false := bne_eq_false_iff_eq.mpr c77
                            clear c77
                            replace H := Option.bind_eq_some_iff.mp H
                            obtain ⟨t177, A780, H⟩ := H
                            replace H : (some t177) = some r := H
                            have A78 := Aside0.mk A780
                            clear A780
                            obtain rfl := Option.some.inj H
                            have hnb79 := NB164_168.out
                            have hnc79 := NB168_164.out
                            have hcz80_0 : wc.cell? ⟨gb164, 0, none⟩ = some (.complex .f64 t161.re t161.im) := (blk_cell BK164.out 0).trans rfl
                            have hcz80_1 : wc.cell? ⟨gb164, 1, none⟩ = some (.complex .f64 t162.re t162.im) := (blk_cell BK164.out 1).trans rfl
                            have hfz80_0 := blk_frozen BK164.out 0
                            have hfz80_1 := blk_frozen BK164.out 1
                            go_wp2_with (first | ((with_reducible refine gate_callee (f := 39) rfl ?_); refine goesL_ (some 97) rfl rfl Try.func39 (by kernel_rfl) rfl #[.agg #[.complex .f64 t161.re t161.im, .complex .f64 t162.re t162.im], .int .i64 a4] rfl (by (try simp only [List.map_toArray, List.map_cons, List.map_nil]); first | done | rfl | (simp only [List.length_drop, List.length_take]; rfl)) ?_; (with_reducible refine (curve_Curve_At.calls t161 t162 a4 t169 _ A31.out).mono ?_); rintro e w81 ⟨rfl, hb⟩; refine ⟨_, rfl, ?_⟩; have n0_ := Aside0.mk (blk_below (g := gb164) (o := .cells #[.complex .f64 t161.re t161.im, .complex .f64 t162.re t162.im] 51 (0, 0)) (by (with_reducible repeat (first | refine blk_drewN ?_ _ | refine blk_drew ?_ | refine blk_alloc ?_ _)); exact BK164.out) hb); have n1_ := Aside0.mk (blk_below (g := gb168) (o := .cells #[.complex .f64 t165.re t165.im, .complex .f64 t166.re t166.im] 51 (0, 0)) (by (with_reducible repeat (first | refine blk_drewN ?_ _ | refine blk_drew ?_ | refine blk_alloc ?_ _)); exact BK168.out) hb); have n2_ := Aside0.mk (below_step (by repeat (first | (with_reducible first | exact HB.out | apply below_alloc | apply pw_below_drewN | apply below_drew1 | refine below_set ?_ GE164.out | refine below_set ?_ GE168.out) | exact HB.out)) hb); clear BK164; clear BK168; clear HB; have BK164 := n0_; have BK168 := n1_; have HB := n2_; clear n0_ n1_ n2_; (try clear hb); (try clear hb2); (try clear hk); (try clear hi); have hcz82_0 : w81.cell? ⟨gb168, 0, none⟩ = some (.complex .f64 t165.re t165.im) := (blk_cell BK168.out 0).trans rfl; have hcz82_1 : w81.cell? ⟨gb168, 1, none⟩ = some (.complex .f64 t166.re t166.im) := (blk_cell BK168.out 1).trans rfl; have hfz82_0 := blk_frozen BK168.out 0; have hfz82_1 := blk_frozen BK168.out 1) | (go_at_call 39; (with_reducible refine (curve_Curve_At.calls t165 t166 a4 t174 _ A72.out).mono ?_); rintro e w83 ⟨rfl, hb⟩; have n0_ := Aside0.mk (blk_below (g := gb164) (o := .cells #[.complex .f64 t161.re t161.im, .complex .f64 t162.re t162.im] 51 (0, 0)) (by (with_reducible repeat (first | refine blk_drewN ?_ _ | refine blk_drew ?_ | refine blk_alloc ?_ _)); exact BK164.out) hb); have n1_ := Aside0.mk (blk_below (g := gb168) (o := .cells #[.complex .f64 t165.re t165.im, .complex .f64 t166.re t166.im] 51 (0, 0)) (by (with_reducible repeat (first | refine blk_drewN ?_ _ | refine blk_drew ?_ | refine blk_alloc ?_ _)); exact BK168.out) hb); have n2_ := Aside0.mk (below_step (by repeat (first | (with_reducible first | exact HB.out | apply below_alloc | apply pw_below_drewN | apply below_drew1 | refine below_set ?_ GE164.out | refine below_set ?_ GE168.out) | exact HB.out)) hb); clear BK164; clear BK168; clear HB; have BK164 := n0_; have BK168 := n1_; have HB := n2_; clear n0_ n1_ n2_; (try clear hb); (try clear hb2); (try clear hk); (try clear hi); have hcz84_0 : w83.cell? ⟨gb164, 0, none⟩ = some (.complex .f64 t161.re t161.im) := (blk_cell BK164.out 0).trans rfl; have hcz84_1 : w83.cell? ⟨gb164, 1, none⟩ = some (.complex .f64 t162.re t162.im) := (blk_cell BK164.out 1).trans rfl; have hfz84_0 := blk_frozen BK164.out 0; have hfz84_1 := blk_frozen BK164.out 1) | (go_at_call 39; (with_reducible refine (curve_Curve_At.calls t161 t162 a0 t175 _ A74.out).mono ?_); rintro e w85 ⟨rfl, hb⟩; have n0_ := Aside0.mk (blk_below (g := gb164) (o := .cells #[.complex .f64 t161.re t161.im, .complex .f64 t162.re t162.im] 51 (0, 0)) (by (with_reducible repeat (first | refine blk_drewN ?_ _ | refine blk_drew ?_ | refine blk_alloc ?_ _)); exact BK164.out) hb); have n1_ := Aside0.mk (blk_below (g := gb168) (o := .cells #[.complex .f64 t165.re t165.im, .complex .f64 t166.re t166.im] 51 (0, 0)) (by (with_reducible repeat (first | refine blk_drewN ?_ _ | refine blk_drew ?_ | refine blk_alloc ?_ _)); exact BK168.out) hb); have n2_ := Aside0.mk (below_step (by repeat (first | (with_reducible first | exact HB.out | apply below_alloc | apply pw_below_drewN | apply below_drew1 | refine below_set ?_ GE164.out | refine below_set ?_ GE168.out) | exact HB.out)) hb); clear BK164; clear BK168; clear HB; have BK164 := n0_; have BK168 := n1_; have HB := n2_; clear n0_ n1_ n2_; (try clear hb); (try clear hb2); (try clear hk); (try clear hi); have hcz86_0 : w85.cell? ⟨gb164, 0, none⟩ = some (.complex .f64 t161.re t161.im) := (blk_cell BK164.out 0).trans rfl; have hcz86_1 : w85.cell? ⟨gb164, 1, none⟩ = some (.complex .f64 t162.re t162.im) := (blk_cell BK164.out 1).trans rfl; have hfz86_0 := blk_frozen BK164.out 0; have hfz86_1 := blk_frozen BK164.out 1) | (go_at_call 39; (with_reducible refine (curve_Curve_At.calls t161 t162 (wrap64 (a0 + a1)) t176 _ A76.out).mono ?_); rintro e w87 ⟨rfl, hb⟩; have n0_ := Aside0.mk (blk_below (g := gb164) (o := .cells #[.complex .f64 t161.re t161.im, .complex .f64 t162.re t162.im] 51 (0, 0)) (by (with_reducible repeat (first | refine blk_drewN ?_ _ | refine blk_drew ?_ | refine blk_alloc ?_ _)); exact BK164.out) hb); have n1_ := Aside0.mk (blk_below (g := gb168) (o := .cells #[.complex .f64 t165.re t165.im, .complex .f64 t166.re t166.im] 51 (0, 0)) (by (with_reducible repeat (first | refine blk_drewN ?_ _ | refine blk_drew ?_ | refine blk_alloc ?_ _)); exact BK168.out) hb); have n2_ := Aside0.mk (below_step (by repeat (first | (with_reducible first | exact HB.out | apply below_alloc | apply pw_below_drewN | apply below_drew1 | refine below_set ?_ GE164.out | refine below_set ?_ GE168.out) | exact HB.out)) hb); clear BK164; clear BK168; clear HB; have BK164 := n0_; have BK168 := n1_; have HB := n2_; clear n0_ n1_ n2_; (try clear hb); (try clear hb2); (try clear hk); (try clear hi)) | (go_at_call 37; (with_reducible refine (coraclelaw16_awake.calls kj20  t177 _ A78.out).mono ?_); rintro e w88 ⟨rfl, hb⟩; have n0_ := Aside0.mk (blk_below (g := gb164) (o := .cells #[.complex .f64 t161.re t161.im, .complex .f64 t162.re t162.im] 51 (0, 0)) (by (with_reducible repeat (first | refine blk_drewN ?_ _ | refine blk_drew ?_ | refine blk_alloc ?_ _)); exact BK164.out) hb); have n1_ := Aside0.mk (blk_below (g := gb168) (o := .cells #[.complex .f64 t165.re t165.im, .complex .f64 t166.re t166.im] 51 (0, 0)) (by (with_reducible repeat (first | refine blk_drewN ?_ _ | refine blk_drew ?_ | refine blk_alloc ?_ _)); exact BK168.out) hb); have n2_ := Aside0.mk (below_step (by repeat (first | (with_reducible first | exact HB.out | apply below_alloc | apply pw_below_drewN | apply below_drew1 | refine below_set ?_ GE164.out | refine below_set ?_ GE168.out) | exact HB.out)) hb); clear BK164; clear BK168; clear HB; have BK164 := n0_; have BK168 := n1_; have HB := n2_; clear n0_ n1_ n2_; (try clear hb); (try clear hb2); (try clear hk); (try clear hi)))
                            go_ret
                            exact ⟨by first | rfl | (simp [errW_none, errW_some] <;> rfl) | (simp [*, errW_none, errW_some] <;> rfl), by repeat (first | (with_reducible first | exact HB.out | apply below_alloc | apply pw_below_drewN | apply below_drew1 | refine below_set ?_ GE164.out | refine below_set ?_ GE168.out) | exact HB.out)⟩
                          · rw [if_neg c77] at H
                            have c77b0 : (t176 == (wrap64 (a2 + a3))) = false := beq_eq_false_iff_ne.mpr c77
                            have c77b1 : (t176 != (wrap64 (a2 + a3))) = true := bne_iff_ne.mpr c77
                            obtain rfl := Option.some.inj H
                            have hnb89 := NB164_168.out
                            have hnc89 := NB168_164.out
                            have hcz90_0 : wc.cell? ⟨gb164, 0, none⟩ = some (.complex .f64 t161.re t161.im) := (blk_cell BK164.out 0).trans rfl
                            have hcz90_1 : wc.cell? ⟨gb164, 1, none⟩ = some (.complex .f64 t162.re t162.im) := (blk_cell BK164.out 1).trans rfl
                            have hfz90_0 := blk_frozen BK164.out 0
                            have hfz90_1 := blk_frozen BK164.out 1
                            go_wp2_with (first | ((with_reducible refine gate_callee (f := 39) rfl ?_); refine goesL_ (some 97) rfl rfl Try.func39 (by kernel_rfl) rfl #[.agg #[.complex .f64 t161.re t161.im, .complex .f64 t162.re t162.im], .int .i64 a4] rfl (by (try simp only [List.map_toArray, List.map_cons, List.map_nil]); first | done | rfl | (simp only [List.length_drop, List.length_take]; rfl)) ?_; (with_reducible refine (curve_Curve_At.calls t161 t162 a4 t169 _ A31.out).mono ?_); rintro e w91 ⟨rfl, hb⟩; refine ⟨_, rfl, ?_⟩; have n0_ := Aside0.mk (blk_below (g := gb164) (o := .cells #[.complex .f64 t161.re t161.im, .complex .f64 t162.re t162.im] 51 (0, 0)) (by (with_reducible repeat (first | refine blk_drewN ?_ _ | refine blk_drew ?_ | refine blk_alloc ?_ _)); exact BK164.out) hb); have n1_ := Aside0.mk (blk_below (g := gb168) (o := .cells #[.complex .f64 t165.re t165.im, .complex .f64 t166.re t166.im] 51 (0, 0)) (by (with_reducible repeat (first | refine blk_drewN ?_ _ | refine blk_drew ?_ | refine blk_alloc ?_ _)); exact BK168.out) hb); have n2_ := Aside0.mk (below_step (by repeat (first | (with_reducible first | exact HB.out | apply below_alloc | apply pw_below_drewN | apply below_drew1 | refine below_set ?_ GE164.out | refine below_set ?_ GE168.out) | exact HB.out)) hb); clear BK164; clear BK168; clear HB; have BK164 := n0_; have BK168 := n1_; have HB := n2_; clear n0_ n1_ n2_; (try clear hb); (try clear hb2); (try clear hk); (try clear hi); have hcz92_0 : w91.cell? ⟨gb168, 0, none⟩ = some (.complex .f64 t165.re t165.im) := (blk_cell BK168.out 0).trans rfl; have hcz92_1 : w91.cell? ⟨gb168, 1, none⟩ = some (.complex .f64 t166.re t166.im) := (blk_cell BK168.out 1).trans rfl; have hfz92_0 := blk_frozen BK168.out 0; have hfz92_1 := blk_frozen BK168.out 1) | (go_at_call 39; (with_reducible refine (curve_Curve_At.calls t165 t166 a4 t174 _ A72.out).mono ?_); rintro e w93 ⟨rfl, hb⟩; have n0_ := Aside0.mk (blk_below (g := gb164) (o := .cells #[.complex .f64 t161.re t161.im, .complex .f64 t162.re t162.im] 51 (0, 0)) (by (with_reducible repeat (first | refine blk_drewN ?_ _ | refine blk_drew ?_ | refine blk_alloc ?_ _)); exact BK164.out) hb); have n1_ := Aside0.mk (blk_below (g := gb168) (o := .cells #[.complex .f64 t165.re t165.im, .complex .f64 t166.re t166.im] 51 (0, 0)) (by (with_reducible repeat (first | refine blk_drewN ?_ _ | refine blk_drew ?_ | refine blk_alloc ?_ _)); exact BK168.out) hb); have n2_ := Aside0.mk (below_step (by repeat (first | (with_reducible first | exact HB.out | apply below_alloc | apply pw_below_drewN | apply below_drew1 | refine below_set ?_ GE164.out | refine below_set ?_ GE168.out) | exact HB.out)) hb); clear BK164; clear BK168; clear HB; have BK164 := n0_; have BK168 := n1_; have HB := n2_; clear n0_ n1_ n2_; (try clear hb); (try clear hb2); (try clear hk); (try clear hi); have hcz94_0 : w93.cell? ⟨gb164, 0, none⟩ = some (.complex .f64 t161.re t161.im) := (blk_cell BK164.out 0).trans rfl; have hcz94_1 : w93.cell? ⟨gb164, 1, none⟩ = some (.complex .f64 t162.re t162.im) := (blk_cell BK164.out 1).trans rfl; have hfz94_0 := blk_frozen BK164.out 0; have hfz94_1 := blk_frozen BK164.out 1) | (go_at_call 39; (with_reducible refine (curve_Curve_At.calls t161 t162 a0 t175 _ A74.out).mono ?_); rintro e w95 ⟨rfl, hb⟩; have n0_ := Aside0.mk (blk_below (g := gb164) (o := .cells #[.complex .f64 t161.re t161.im, .complex .f64 t162.re t162.im] 51 (0, 0)) (by (with_reducible repeat (first | refine blk_drewN ?_ _ | refine blk_drew ?_ | refine blk_alloc ?_ _)); exact BK164.out) hb); have n1_ := Aside0.mk (blk_below (g := gb168) (o := .cells #[.complex .f64 t165.re t165.im, .complex .f64 t166.re t166.im] 51 (0, 0)) (by (with_reducible repeat (first | refine blk_drewN ?_ _ | refine blk_drew ?_ | refine blk_alloc ?_ _)); exact BK168.out) hb); have n2_ := Aside0.mk (below_step (by repeat (first | (with_reducible first | exact HB.out | apply below_alloc | apply pw_below_drewN | apply below_drew1 | refine below_set ?_ GE164.out | refine below_set ?_ GE168.out) | exact HB.out)) hb); clear BK164; clear BK168; clear HB; have BK164 := n0_; have BK168 := n1_; have HB := n2_; clear n0_ n1_ n2_; (try clear hb); (try clear hb2); (try clear hk); (try clear hi); have hcz96_0 : w95.cell? ⟨gb164, 0, none⟩ = some (.complex .f64 t161.re t161.im) := (blk_cell BK164.out 0).trans rfl; have hcz96_1 : w95.cell? ⟨gb164, 1, none⟩ = some (.complex .f64 t162.re t162.im) := (blk_cell BK164.out 1).trans rfl; have hfz96_0 := blk_frozen BK164.out 0; have hfz96_1 := blk_frozen BK164.out 1) | (go_at_call 39; (with_reducible refine (curve_Curve_At.calls t161 t162 (wrap64 (a0 + a1)) t176 _ A76.out).mono ?_); rintro e w97 ⟨rfl, hb⟩; have n0_ := Aside0.mk (blk_below (g := gb164) (o := .cells #[.complex .f64 t161.re t161.im, .complex .f64 t162.re t162.im] 51 (0, 0)) (by (with_reducible repeat (first | refine blk_drewN ?_ _ | refine blk_drew ?_ | refine blk_alloc ?_ _)); exact BK164.out) hb); have n1_ := Aside0.mk (blk_below (g := gb168) (o := .cells #[.complex .f64 t165.re t165.im, .complex .f64 t166.re t166.im] 51 (0, 0)) (by (with_reducible repeat (first | refine blk_drewN ?_ _ | refine blk_drew ?_ | refine blk_alloc ?_ _)); exact BK168.out) hb); have n2_ := Aside0.mk (below_step (by repeat (first | (with_reducible first | exact HB.out | apply below_alloc | apply pw_below_drewN | apply below_drew1 | refine below_set ?_ GE164.out | refine below_set ?_ GE168.out) | exact HB.out)) hb); clear BK164; clear BK168; clear HB; have BK164 := n0_; have BK168 := n1_; have HB := n2_; clear n0_ n1_ n2_; (try clear hb); (try clear hb2); (try clear hk); (try clear hi)))
                            go_ret
                            exact ⟨by first | rfl | (simp [errW_none, errW_some] <;> rfl) | (simp [*, errW_none, errW_some] <;> rfl), by repeat (first | (with_reducible first | exact HB.out | apply below_alloc | apply pw_below_drewN | apply below_drew1 | refine below_set ?_ GE164.out | refine below_set ?_ GE168.out) | exact HB.out)⟩
                        · rw [if_neg c75] at H
                          have c75b0 : (t175 == a2) = false := beq_eq_false_iff_ne.mpr c75
                          have c75b1 : (t175 != a2) = true := bne_iff_ne.mpr c75
                          obtain rfl := Option.some.inj H
                          have hnb98 := NB164_168.out
                          have hnc98 := NB168_164.out
                          have hcz99_0 : wc.cell? ⟨gb164, 0, none⟩ = some (.complex .f64 t161.re t161.im) := (blk_cell BK164.out 0).trans rfl
                          have hcz99_1 : wc.cell? ⟨gb164, 1, none⟩ = some (.complex .f64 t162.re t162.im) := (blk_cell BK164.out 1).trans rfl
                          have hfz99_0 := blk_frozen BK164.out 0
                          have hfz99_1 := blk_frozen BK164.out 1
                          go_wp2_with (first | ((with_reducible refine gate_callee (f := 39) rfl ?_); refine goesL_ (some 97) rfl rfl Try.func39 (by kernel_rfl) rfl #[.agg #[.complex .f64 t161.re t161.im, .complex .f64 t162.re t162.im], .int .i64 a4] rfl (by (try simp only [List.map_toArray, List.map_cons, List.map_nil]); first | done | rfl | (simp only [List.length_drop, List.length_take]; rfl)) ?_; (with_reducible refine (curve_Curve_At.calls t161 t162 a4 t169 _ A31.out).mono ?_); rintro e w100 ⟨rfl, hb⟩; refine ⟨_, rfl, ?_⟩; have n0_ := Aside0.mk (blk_below (g := gb164) (o := .cells #[.complex .f64 t161.re t161.im, .complex .f64 t162.re t162.im] 51 (0, 0)) (by (with_reducible repeat (first | refine blk_drewN ?_ _ | refine blk_drew ?_ | refine blk_alloc ?_ _)); exact BK164.out) hb); have n1_ := Aside0.mk (blk_below (g := gb168) (o := .cells #[.complex .f64 t165.re t165.im, .complex .f64 t166.re t166.im] 51 (0, 0)) (by (with_reducible repeat (first | refine blk_drewN ?_ _ | refine blk_drew ?_ | refine blk_alloc ?_ _)); exact BK168.out) hb); have n2_ := Aside0.mk (below_step (by repeat (first | (with_reducible first | exact HB.out | apply below_alloc | apply pw_below_drewN | apply below_drew1 | refine below_set ?_ GE164.out | refine below_set ?_ GE168.out) | exact HB.out)) hb); clear BK164; clear BK168; clear HB; have BK164 := n0_; have BK168 := n1_; have HB := n2_; clear n0_ n1_ n2_; (try clear hb); (try clear hb2); (try clear hk); (try clear hi); have hcz101_0 : w100.cell? ⟨gb168, 0, none⟩ = some (.complex .f64 t165.re t165.im) := (blk_cell BK168.out 0).trans rfl; have hcz101_1 : w100.cell? ⟨gb168, 1, none⟩ = some (.complex .f64 t166.re t166.im) := (blk_cell BK168.out 1).trans rfl; have hfz101_0 := blk_frozen BK168.out 0; have hfz101_1 := blk_frozen BK168.out 1) | (go_at_call 39; (with_reducible refine (curve_Curve_At.calls t165 t166 a4 t174 _ A72.out).mono ?_); rintro e w102 ⟨rfl, hb⟩; have n0_ := Aside0.mk (blk_below (g := gb164) (o := .cells #[.complex .f64 t161.re t161.im, .complex .f64 t162.re t162.im] 51 (0, 0)) (by (with_reducible repeat (first | refine blk_drewN ?_ _ | refine blk_drew ?_ | refine blk_alloc ?_ _)); exact BK164.out) hb); have n1_ := Aside0.mk (blk_below (g := gb168) (o := .cells #[.complex .f64 t165.re t165.im, .complex .f64 t166.re t166.im] 51 (0, 0)) (by (with_reducible repeat (first | refine blk_drewN ?_ _ | refine blk_drew ?_ | refine blk_alloc ?_ _)); exact BK168.out) hb); have n2_ := Aside0.mk (below_step (by repeat (first | (with_reducible first | exact HB.out | apply below_alloc | apply pw_below_drewN | apply below_drew1 | refine below_set ?_ GE164.out | refine below_set ?_ GE168.out) | exact HB.out)) hb); clear BK164; clear BK168; clear HB; have BK164 := n0_; have BK168 := n1_; have HB := n2_; clear n0_ n1_ n2_; (try clear hb); (try clear hb2); (try clear hk); (try clear hi); have hcz103_0 : w102.cell? ⟨gb164, 0, none⟩ = some (.complex .f64 t161.re t161.im) := (blk_cell BK164.out 0).trans rfl; have hcz103_1 : w102.cell? ⟨gb164, 1, none⟩ = some (.complex .f64 t162.re t162.im) := (blk_cell BK164.out 1).trans rfl; have hfz103_0 := blk_frozen BK164.out 0; have hfz103_1 := blk_frozen BK164.out 1) | (go_at_call 39; (with_reducible refine (curve_Curve_At.calls t161 t162 a0 t175 _ A74.out).mono ?_); rintro e w104 ⟨rfl, hb⟩; have n0_ := Aside0.mk (blk_below (g := gb164) (o := .cells #[.complex .f64 t161.re t161.im, .complex .f64 t162.re t162.im] 51 (0, 0)) (by (with_reducible repeat (first | refine blk_drewN ?_ _ | refine blk_drew ?_ | refine blk_alloc ?_ _)); exact BK164.out) hb); have n1_ := Aside0.mk (blk_below (g := gb168) (o := .cells #[.complex .f64 t165.re t165.im, .complex .f64 t166.re t166.im] 51 (0, 0)) (by (with_reducible repeat (first | refine blk_drewN ?_ _ | refine blk_drew ?_ | refine blk_alloc ?_ _)); exact BK168.out) hb); have n2_ := Aside0.mk (below_step (by repeat (first | (with_reducible first | exact HB.out | apply below_alloc | apply pw_below_drewN | apply below_drew1 | refine below_set ?_ GE164.out | refine below_set ?_ GE168.out) | exact HB.out)) hb); clear BK164; clear BK168; clear HB; have BK164 := n0_; have BK168 := n1_; have HB := n2_; clear n0_ n1_ n2_; (try clear hb); (try clear hb2); (try clear hk); (try clear hi)))
                          go_ret
                          exact ⟨by first | rfl | (simp [errW_none, errW_some] <;> rfl) | (simp [*, errW_none, errW_some] <;> rfl), by repeat (first | (with_reducible first | exact HB.out | apply below_alloc | apply pw_below_drewN | apply below_drew1 | refine below_set ?_ GE164.out | refine below_set ?_ GE168.out) | exact HB.out)⟩
                      · rw [if_neg c73] at H
                        have c73b0 : (t174 == a2) = false := beq_eq_false_iff_ne.mpr c73
                        have c73b1 : (t174 != a2) = true := bne_iff_ne.mpr c73
                        obtain rfl := Option.some.inj H
                        have hnb105 := NB164_168.out
                        have hnc105 := NB168_164.out
                        have hcz106_0 : wc.cell? ⟨gb164, 0, none⟩ = some (.complex .f64 t161.re t161.im) := (blk_cell BK164.out 0).trans rfl
                        have hcz106_1 : wc.cell? ⟨gb164, 1, none⟩ = some (.complex .f64 t162.re t162.im) := (blk_cell BK164.out 1).trans rfl
                        have hfz106_0 := blk_frozen BK164.out 0
                        have hfz106_1 := blk_frozen BK164.out 1
                        go_wp2_with (first | ((with_reducible refine gate_callee (f := 39) rfl ?_); refine goesL_ (some 97) rfl rfl Try.func39 (by kernel_rfl) rfl #[.agg #[.complex .f64 t161.re t161.im, .complex .f64 t162.re t162.im], .int .i64 a4] rfl (by (try simp only [List.map_toArray, List.map_cons, List.map_nil]); first | done | rfl | (simp only [List.length_drop, List.length_take]; rfl)) ?_; (with_reducible refine (curve_Curve_At.calls t161 t162 a4 t169 _ A31.out).mono ?_); rintro e w107 ⟨rfl, hb⟩; refine ⟨_, rfl, ?_⟩; have n0_ := Aside0.mk (blk_below (g := gb164) (o := .cells #[.complex .f64 t161.re t161.im, .complex .f64 t162.re t162.im] 51 (0, 0)) (by (with_reducible repeat (first | refine blk_drewN ?_ _ | refine blk_drew ?_ | refine blk_alloc ?_ _)); exact BK164.out) hb); have n1_ := Aside0.mk (blk_below (g := gb168) (o := .cells #[.complex .f64 t165.re t165.im, .complex .f64 t166.re t166.im] 51 (0, 0)) (by (with_reducible repeat (first | refine blk_drewN ?_ _ | refine blk_drew ?_ | refine blk_alloc ?_ _)); exact BK168.out) hb); have n2_ := Aside0.mk (below_step (by repeat (first | (with_reducible first | exact HB.out | apply below_alloc | apply pw_below_drewN | apply below_drew1 | refine below_set ?_ GE164.out | refine below_set ?_ GE168.out) | exact HB.out)) hb); clear BK164; clear BK168; clear HB; have BK164 := n0_; have BK168 := n1_; have HB := n2_; clear n0_ n1_ n2_; (try clear hb); (try clear hb2); (try clear hk); (try clear hi); have hcz108_0 : w107.cell? ⟨gb168, 0, none⟩ = some (.complex .f64 t165.re t165.im) := (blk_cell BK168.out 0).trans rfl; have hcz108_1 : w107.cell? ⟨gb168, 1, none⟩ = some (.complex .f64 t166.re t166.im) := (blk_cell BK168.out 1).trans rfl; have hfz108_0 := blk_frozen BK168.out 0; have hfz108_1 := blk_frozen BK168.out 1) | (go_at_call 39; (with_reducible refine (curve_Curve_At.calls t165 t166 a4 t174 _ A72.out).mono ?_); rintro e w109 ⟨rfl, hb⟩; have n0_ := Aside0.mk (blk_below (g := gb164) (o := .cells #[.complex .f64 t161.re t161.im, .complex .f64 t162.re t162.im] 51 (0, 0)) (by (with_reducible repeat (first | refine blk_drewN ?_ _ | refine blk_drew ?_ | refine blk_alloc ?_ _)); exact BK164.out) hb); have n1_ := Aside0.mk (blk_below (g := gb168) (o := .cells #[.complex .f64 t165.re t165.im, .complex .f64 t166.re t166.im] 51 (0, 0)) (by (with_reducible repeat (first | refine blk_drewN ?_ _ | refine blk_drew ?_ | refine blk_alloc ?_ _)); exact BK168.out) hb); have n2_ := Aside0.mk (below_step (by repeat (first | (with_reducible first | exact HB.out | apply below_alloc | apply pw_below_drewN | apply below_drew1 | refine below_set ?_ GE164.out | refine below_set ?_ GE168.out) | exact HB.out)) hb); clear BK164; clear BK168; clear HB; have BK164 := n0_; have BK168 := n1_; have HB := n2_; clear n0_ n1_ n2_; (try clear hb); (try clear hb2); (try clear hk); (try clear hi)))
                        go_ret
                        exact ⟨by first | rfl | (simp [errW_none, errW_some] <;> rfl) | (simp [*, errW_none, errW_some] <;> rfl), by repeat (first | (with_reducible first | exact HB.out | apply below_alloc | apply pw_below_drewN | apply below_drew1 | refine below_set ?_ GE164.out | refine below_set ?_ GE168.out) | exact HB.out)⟩
                    · rw [if_neg c71] at H
                      have c71b0 : (t169 == (wrap64 (a2 + (wrap64 (Int.tdiv (wrap64 (a3 * (wrap64 (a4 - a0)))) a1))))) = false := beq_eq_false_iff_ne.mpr c71
                      have c71b1 : (t169 != (wrap64 (a2 + (wrap64 (Int.tdiv (wrap64 (a3 * (wrap64 (a4 - a0)))) a1))))) = true := bne_iff_ne.mpr c71
                      obtain rfl := Option.some.inj H
                      have hnb110 := NB164_168.out
                      have hnc110 := NB168_164.out
                      have hcz111_0 : wc.cell? ⟨gb164, 0, none⟩ = some (.complex .f64 t161.re t161.im) := (blk_cell BK164.out 0).trans rfl
                      have hcz111_1 : wc.cell? ⟨gb164, 1, none⟩ = some (.complex .f64 t162.re t162.im) := (blk_cell BK164.out 1).trans rfl
                      have hfz111_0 := blk_frozen BK164.out 0
                      have hfz111_1 := blk_frozen BK164.out 1
                      go_wp2_with (first | ((with_reducible refine gate_callee (f := 39) rfl ?_); refine goesL_ (some 97) rfl rfl Try.func39 (by kernel_rfl) rfl #[.agg #[.complex .f64 t161.re t161.im, .complex .f64 t162.re t162.im], .int .i64 a4] rfl (by (try simp only [List.map_toArray, List.map_cons, List.map_nil]); first | done | rfl | (simp only [List.length_drop, List.length_take]; rfl)) ?_; (with_reducible refine (curve_Curve_At.calls t161 t162 a4 t169 _ A31.out).mono ?_); rintro e w112 ⟨rfl, hb⟩; refine ⟨_, rfl, ?_⟩; have n0_ := Aside0.mk (blk_below (g := gb164) (o := .cells #[.complex .f64 t161.re t161.im, .complex .f64 t162.re t162.im] 51 (0, 0)) (by (with_reducible repeat (first | refine blk_drewN ?_ _ | refine blk_drew ?_ | refine blk_alloc ?_ _)); exact BK164.out) hb); have n1_ := Aside0.mk (blk_below (g := gb168) (o := .cells #[.complex .f64 t165.re t165.im, .complex .f64 t166.re t166.im] 51 (0, 0)) (by (with_reducible repeat (first | refine blk_drewN ?_ _ | refine blk_drew ?_ | refine blk_alloc ?_ _)); exact BK168.out) hb); have n2_ := Aside0.mk (below_step (by repeat (first | (with_reducible first | exact HB.out | apply below_alloc | apply pw_below_drewN | apply below_drew1 | refine below_set ?_ GE164.out | refine below_set ?_ GE168.out) | exact HB.out)) hb); clear BK164; clear BK168; clear HB; have BK164 := n0_; have BK168 := n1_; have HB := n2_; clear n0_ n1_ n2_; (try clear hb); (try clear hb2); (try clear hk); (try clear hi)))
                      go_ret
                      exact ⟨by first | rfl | (simp [errW_none, errW_some] <;> rfl) | (simp [*, errW_none, errW_some] <;> rfl), by repeat (first | (with_reducible first | exact HB.out | apply below_alloc | apply pw_below_drewN | apply below_drew1 | refine below_set ?_ GE164.out | refine below_set ?_ GE168.out) | exact HB.out)⟩

/-- THE ONE PURE STATEMENT of coraclelaw16_CurveEnds: yours. -/
def coraclelaw16_CurveEnds.Pure : Prop := ∀ (a0 : Int) (a1 : Int) (a2 : Int) (a3 : Int) (a4 : Int), (Lit.int .i64 a0).wf = true → (Lit.int .i64 a1).wf = true → (Lit.int .i64 a2).wf = true → (Lit.int .i64 a3).wf = true → (Lit.int .i64 a4).wf = true → ∃ k, coraclelaw16_CurveEnds.f k a0 a1 a2 a3 a4 = some true
theorem coraclelaw16_CurveEnds.walk (P : coraclelaw16_CurveEnds.Pure) (a0 : Int) (a1 : Int) (a2 : Int) (a3 : Int) (a4 : Int) (w : World) (w0 : (Lit.int .i64 a0).wf = true) (w1 : (Lit.int .i64 a1).wf = true) (w2 : (Lit.int .i64 a2).wf = true) (w3 : (Lit.int .i64 a3).wf = true) (w4 : (Lit.int .i64 a4).wf = true) :
    Calls Try.prog 13 #[.int .i64 a0, .int .i64 a1, .int .i64 a2, .int .i64 a3, .int .i64 a4] w fun e w' => e = .returned (.bool true) ∧ Below w.heap.size w w' := by
  obtain ⟨k, h⟩ := P a0 a1 a2 a3 a4 w0 w1 w2 w3 w4
  refine (coraclelaw16_CurveEnds.calls k a0 a1 a2 a3 a4 true w h).mono ?_
  rintro e w' ⟨rfl, hd⟩
  exact ⟨rfl, hd⟩

/-! ### amount_Valid: function 23 -/
def amount_Valid.f (a0 : Int) : Option (Bool) := if a0 ≥ 0 then (some (decide (a0 ≤ 2100000000000000))) else (some false)
set_option maxHeartbeats 8000000 in
set_option maxRecDepth 100000 in
theorem amount_Valid.calls (a0 : Int) (r : Bool) (w : World) (h : amount_Valid.f a0 = some r) :
    Calls Try.prog 23 #[.int .i64 a0] w fun e w' => e = .returned (.bool r) ∧ Drawn0 w w' := by
  have H : (if a0 ≥ 0 then (some (decide (a0 ≤ 2100000000000000))) else (some false)) = some r := h
  clear h
  by_cases c2 : a0 ≥ 0
  · rw [if_pos c2] at H
    have c2b0 : decide (0 ≤ a0) = true := decide_eq_true c2
    clear c2
    obtain rfl := Option.some.inj H
    go_enter Try.func23, Try.ntmps23
    go_wp2
    go_ret
    exact ⟨by first | rfl | (simp; done) | (simp [*]; done), by repeat (first | exact Drawn0.refl _ | apply Drawn0.step)⟩
  · rw [if_neg c2] at H
    have c2b0 : decide (0 ≤ a0) = false := decide_eq_false c2
    clear c2
    obtain rfl := Option.some.inj H
    go_enter Try.func23, Try.ntmps23
    go_wp2
    go_ret
    exact ⟨by first | rfl | (simp; done) | (simp [*]; done), by repeat (first | exact Drawn0.refl _ | apply Drawn0.step)⟩

/-! ### amount_within: function 45 -/
def amount_within.f (a0 : Int) (a1 : Int) (a2 : Int) : Option (Bool) := if a0 ≥ a1 then (some (decide (a0 ≤ a2))) else (some false)
set_option maxHeartbeats 8000000 in
set_option maxRecDepth 100000 in
theorem amount_within.calls (a0 : Int) (a1 : Int) (a2 : Int) (r : Bool) (w : World) (h : amount_within.f a0 a1 a2 = some r) :
    Calls Try.prog 45 #[.int .i64 a0, .int .i64 a1, .int .i64 a2] w fun e w' => e = .returned (.bool r) ∧ Drawn0 w w' := by
  have H : (if a0 ≥ a1 then (some (decide (a0 ≤ a2))) else (some false)) = some r := h
  clear h
  by_cases c4 : a0 ≥ a1
  · rw [if_pos c4] at H
    have c4b0 : decide (a1 ≤ a0) = true := decide_eq_true c4
    clear c4
    obtain rfl := Option.some.inj H
    go_enter Try.func45, Try.ntmps45
    go_wp2
    go_ret
    exact ⟨by first | rfl | (simp; done) | (simp [*]; done), by repeat (first | exact Drawn0.refl _ | apply Drawn0.step)⟩
  · rw [if_neg c4] at H
    have c4b0 : decide (a1 ≤ a0) = false := decide_eq_false c4
    clear c4
    obtain rfl := Option.some.inj H
    go_enter Try.func45, Try.ntmps45
    go_wp2
    go_ret
    exact ⟨by first | rfl | (simp; done) | (simp [*]; done), by repeat (first | exact Drawn0.refl _ | apply Drawn0.step)⟩

/-! ### amount_Rate: function 26 -/
def amount_Rate.f (a0 : Int) (a1 : Int) : Option (Int × Int) := (amount_Valid.f a0).bind fun t178 => (if t178 = true then ((amount_within.f a1 1 4000000).bind fun t179 => (if t179 = true then (if a1 = 0 then (none) else (some (mn (wrap64 (Int.tdiv (wrap64 (a0 * 1000)) a1)) 1000000000, 0))) else (some (0, 11)))) else (some (0, 11)))
set_option maxHeartbeats 8000000 in
set_option maxRecDepth 100000 in
theorem amount_Rate.calls (a0 : Int) (a1 : Int) (r1 : Int) (r2 : Int) (w : World) (h : amount_Rate.f a0 a1 = some (r1, r2)) :
    Calls Try.prog 26 #[.int .i64 a0, .int .i64 a1] w fun e w' => e = .returned (.tuple #[.int .i64 r1, .int .i64 r2]) ∧ Below w.heap.size w w' := by
  have HB := Aside0.mk (Below.refl w.heap.size w)
  have H : ((amount_Valid.f a0).bind fun t178 => (if t178 = true then ((amount_within.f a1 1 4000000).bind fun t179 => (if t179 = true then (if a1 = 0 then (none) else (some (mn (wrap64 (Int.tdiv (wrap64 (a0 * 1000)) a1)) 1000000000, 0))) else (some (0, 11)))) else (some (0, 11)))) = some (r1, r2) := h
  clear h
  replace H := Option.bind_eq_some_iff.mp H
  obtain ⟨t178, A30, H⟩ := H
  replace H : (if t178 = true then ((amount_within.f a1 1 4000000).bind fun t179 => (if t179 = true then (if a1 = 0 then (none) else (some (mn (wrap64 (Int.tdiv (wrap64 (a0 * 1000)) a1)) 1000000000, 0))) else (some (0, 11)))) else (some (0, 11))) = some (r1, r2) := H
  have A3 := Aside0.mk A30
  clear A30
  by_cases c4 : t178 = true
  · subst c4
    have H1 : ((amount_within.f a1 1 4000000).bind fun t179 => (if t179 = true then (if a1 = 0 then (none) else (some (mn (wrap64 (Int.tdiv (wrap64 (a0 * 1000)) a1)) 1000000000, 0))) else (some (0, 11)))) = some (r1, r2) := by rw [if_pos rfl] at H; exact H
    clear H
    have H := H1
    clear H1
    replace H := Option.bind_eq_some_iff.mp H
    obtain ⟨t179, A50, H⟩ := H
    replace H : (if t179 = true then (if a1 = 0 then (none) else (some (mn (wrap64 (Int.tdiv (wrap64 (a0 * 1000)) a1)) 1000000000, 0))) else (some (0, 11))) = some (r1, r2) := H
    have A5 := Aside0.mk A50
    clear A50
    by_cases c6 : t179 = true
    · subst c6
      have H1 : (if a1 = 0 then (none) else (some (mn (wrap64 (Int.tdiv (wrap64 (a0 * 1000)) a1)) 1000000000, 0))) = some (r1, r2) := by rw [if_pos rfl] at H; exact H
      clear H
      have H := H1
      clear H1
      by_cases c7 : a1 = 0
      · rw [if_pos c7] at H
        exact absurd H (by simp)
      · rw [if_neg c7] at H
        have c7b0 : (a1 == 0) = false := beq_eq_false_iff_ne.mpr c7
        have c7b1 : (a1 != 0) = true := bne_iff_ne.mpr c7
        obtain ⟨ji8, hji8⟩ : ∃ j_ : Int, (mn (wrap64 (Int.tdiv (wrap64 (a0 * 1000)) a1)) 1000000000) = j_ := ⟨_, rfl⟩
        replace H : (some (ji8, 0)) = some (r1, r2) := by first | (rw [hji8] at H; exact H) | (simp only [hji8] at H ⊢; exact H)
        (try rw [hji8] at A3)
        (try rw [hji8] at A5)
        (try (have hji8h : ji8 ≤ 1000000000 := by (rw [← hji8]; unfold mn; (repeat' split) <;> omega)))
        (try (have hji8g : ji8 ≤ 64 := by omega))
        have hji8_ : (if 1000000000 < (wrap64 (Int.tdiv (wrap64 (a0 * 1000)) a1)) then 1000000000 else (wrap64 (Int.tdiv (wrap64 (a0 * 1000)) a1))) = ji8 := hji8
        simp only [Option.some.injEq, Prod.mk.injEq] at H
        obtain ⟨rfl, rfl⟩ := H
        go_enter Try.func26, Try.ntmps26
        go_wp2_with (first | ((with_reducible refine gate_callee (f := 23) rfl ?_); refine goesL_ (some 7) rfl rfl Try.func23 (by kernel_rfl) rfl #[.int .i64 a0] rfl (by (try simp only [List.map_toArray, List.map_cons, List.map_nil]); first | done | rfl | (simp only [List.length_drop, List.length_take]; rfl)) ?_; (with_reducible refine (amount_Valid.calls a0 true _ A3.out).mono ?_); rintro e w' ⟨rfl, ⟨nd, rfl⟩⟩; refine ⟨_, rfl, ?_⟩) | (go_at_call 45; (with_reducible refine (amount_within.calls a1 1 4000000 true _ A5.out).mono ?_); rintro e w' ⟨rfl, ⟨nd, rfl⟩⟩))
        go_ret2
        exact ⟨by first | rfl | (simp [errW_none, errW_some] <;> rfl) | (simp only [← hji8]; first | rfl | (simp [errW_none, errW_some] <;> rfl)) | (simp [*, errW_none, errW_some] <;> rfl), by repeat (first | (with_reducible first | exact HB.out | apply below_alloc | apply pw_below_drewN | apply below_drew1) | exact HB.out)⟩
    · replace c6 := Bool.eq_false_iff.mpr c6
      subst c6
      have H1 : (some (0, 11)) = some (r1, r2) := by rw [if_neg (show ¬ (false = true) by decide)] at H; exact H
      clear H
      have H := H1
      clear H1
      simp only [Option.some.injEq, Prod.mk.injEq] at H
      obtain ⟨rfl, rfl⟩ := H
      go_enter Try.func26, Try.ntmps26
      go_wp2_with (first | ((with_reducible refine gate_callee (f := 23) rfl ?_); refine goesL_ (some 7) rfl rfl Try.func23 (by kernel_rfl) rfl #[.int .i64 a0] rfl (by (try simp only [List.map_toArray, List.map_cons, List.map_nil]); first | done | rfl | (simp only [List.length_drop, List.length_take]; rfl)) ?_; (with_reducible refine (amount_Valid.calls a0 true _ A3.out).mono ?_); rintro e w' ⟨rfl, ⟨nd, rfl⟩⟩; refine ⟨_, rfl, ?_⟩) | (go_at_call 45; (with_reducible refine (amount_within.calls a1 1 4000000 false _ A5.out).mono ?_); rintro e w' ⟨rfl, ⟨nd, rfl⟩⟩))
      go_ret2
      exact ⟨by first | rfl | (simp [errW_none, errW_some] <;> rfl) | (simp [*, errW_none, errW_some] <;> rfl), by repeat (first | (with_reducible first | exact HB.out | apply below_alloc | apply pw_below_drewN | apply below_drew1) | exact HB.out)⟩
  · replace c4 := Bool.eq_false_iff.mpr c4
    subst c4
    have H1 : (some (0, 11)) = some (r1, r2) := by rw [if_neg (show ¬ (false = true) by decide)] at H; exact H
    clear H
    have H := H1
    clear H1
    simp only [Option.some.injEq, Prod.mk.injEq] at H
    obtain ⟨rfl, rfl⟩ := H
    go_enter Try.func26, Try.ntmps26
    go_wp2_with (first | ((with_reducible refine gate_callee (f := 23) rfl ?_); refine goesL_ (some 7) rfl rfl Try.func23 (by kernel_rfl) rfl #[.int .i64 a0] rfl (by (try simp only [List.map_toArray, List.map_cons, List.map_nil]); first | done | rfl | (simp only [List.length_drop, List.length_take]; rfl)) ?_; (with_reducible refine (amount_Valid.calls a0 false _ A3.out).mono ?_); rintro e w' ⟨rfl, ⟨nd, rfl⟩⟩; refine ⟨_, rfl, ?_⟩))
    go_ret2
    exact ⟨by first | rfl | (simp [errW_none, errW_some] <;> rfl) | (simp [*, errW_none, errW_some] <;> rfl), by repeat (first | (with_reducible first | exact HB.out | apply below_alloc | apply pw_below_drewN | apply below_drew1) | exact HB.out)⟩

/-! ### curve_Of: function 42 -/
def curve_Of.f (a0 : Int) (a1 : Int) (a2 : Int) (a3 : Int) : Option (C128 × C128 × Int) := (amount_Rate.f a2 a3).bind fun bt181 => (if a0 ≥ 0 then (if a0 ≤ 1000000 then (if a1 ≥ 0 then (if a1 ≤ 1000000 then (if a3 > 4000000 then (some ((⟨0, 0⟩ : C128), (⟨0, 0⟩ : C128), 1)) else (if bt181.2 = 0 then (if bt181.1 < 253 then (some ((⟨0, 0⟩ : C128), (⟨0, 0⟩ : C128), 1)) else ((curve_Line.f (⟨(fint a0), 4643105662702714880⟩ : C128) (⟨(fint (mx a0 a1)), (fint bt181.1)⟩ : C128)).bind fun bt183 => (some (bt183.1, bt183.2.1, bt183.2.2)))) else (some ((⟨0, 0⟩ : C128), (⟨0, 0⟩ : C128), 1)))) else (some ((⟨0, 0⟩ : C128), (⟨0, 0⟩ : C128), 1))) else (some ((⟨0, 0⟩ : C128), (⟨0, 0⟩ : C128), 1))) else (some ((⟨0, 0⟩ : C128), (⟨0, 0⟩ : C128), 1))) else (some ((⟨0, 0⟩ : C128), (⟨0, 0⟩ : C128), 1)))
set_option maxHeartbeats 8000000 in
set_option maxRecDepth 100000 in
theorem curve_Of.calls (a0 : Int) (a1 : Int) (a2 : Int) (a3 : Int) (r1 : C128) (r2 : C128) (r3 : Int) (w : World) (h : curve_Of.f a0 a1 a2 a3 = some (r1, r2, r3)) :
    Calls Try.prog 42 #[.int .i64 a0, .int .i64 a1, .int .i64 a2, .int .i64 a3] w fun e w' => e = .returned (.tuple #[.agg #[.complex .f64 r1.re r1.im, .complex .f64 r2.re r2.im], .int .i64 r3]) ∧ Below w.heap.size w w' := by
  have hu51 := Try.underlying51
  have HB := Aside0.mk (Below.refl w.heap.size w)
  have H : ((amount_Rate.f a2 a3).bind fun bt181 => (if a0 ≥ 0 then (if a0 ≤ 1000000 then (if a1 ≥ 0 then (if a1 ≤ 1000000 then (if a3 > 4000000 then (some ((⟨0, 0⟩ : C128), (⟨0, 0⟩ : C128), 1)) else (if bt181.2 = 0 then (if bt181.1 < 253 then (some ((⟨0, 0⟩ : C128), (⟨0, 0⟩ : C128), 1)) else ((curve_Line.f (⟨(fint a0), 4643105662702714880⟩ : C128) (⟨(fint (mx a0 a1)), (fint bt181.1)⟩ : C128)).bind fun bt183 => (some (bt183.1, bt183.2.1, bt183.2.2)))) else (some ((⟨0, 0⟩ : C128), (⟨0, 0⟩ : C128), 1)))) else (some ((⟨0, 0⟩ : C128), (⟨0, 0⟩ : C128), 1))) else (some ((⟨0, 0⟩ : C128), (⟨0, 0⟩ : C128), 1))) else (some ((⟨0, 0⟩ : C128), (⟨0, 0⟩ : C128), 1))) else (some ((⟨0, 0⟩ : C128), (⟨0, 0⟩ : C128), 1)))) = some (r1, r2, r3) := h
  clear h
  replace H := Option.bind_eq_some_iff.mp H
  obtain ⟨⟨t181, t182⟩, A50, H⟩ := H
  replace H : (if a0 ≥ 0 then (if a0 ≤ 1000000 then (if a1 ≥ 0 then (if a1 ≤ 1000000 then (if a3 > 4000000 then (some ((⟨0, 0⟩ : C128), (⟨0, 0⟩ : C128), 1)) else (if t182 = 0 then (if t181 < 253 then (some ((⟨0, 0⟩ : C128), (⟨0, 0⟩ : C128), 1)) else ((curve_Line.f (⟨(fint a0), 4643105662702714880⟩ : C128) (⟨(fint (mx a0 a1)), (fint t181)⟩ : C128)).bind fun bt183 => (some (bt183.1, bt183.2.1, bt183.2.2)))) else (some ((⟨0, 0⟩ : C128), (⟨0, 0⟩ : C128), 1)))) else (some ((⟨0, 0⟩ : C128), (⟨0, 0⟩ : C128), 1))) else (some ((⟨0, 0⟩ : C128), (⟨0, 0⟩ : C128), 1))) else (some ((⟨0, 0⟩ : C128), (⟨0, 0⟩ : C128), 1))) else (some ((⟨0, 0⟩ : C128), (⟨0, 0⟩ : C128), 1))) = some (r1, r2, r3) := H
  have A5 := Aside0.mk A50
  clear A50
  by_cases c6 : a0 ≥ 0
  · rw [if_pos c6] at H
    have c6b0 : decide (0 ≤ a0) = true := decide_eq_true c6
    clear c6
    by_cases c7 : a0 ≤ 1000000
    · rw [if_pos c7] at H
      have c7b0 : decide (a0 ≤ 1000000) = true := decide_eq_true c7
      clear c7
      by_cases c8 : a1 ≥ 0
      · rw [if_pos c8] at H
        have c8b0 : decide (0 ≤ a1) = true := decide_eq_true c8
        clear c8
        by_cases c9 : a1 ≤ 1000000
        · rw [if_pos c9] at H
          have c9b0 : decide (a1 ≤ 1000000) = true := decide_eq_true c9
          clear c9
          by_cases c10 : a3 > 4000000
          · rw [if_pos c10] at H
            have c10b0 : decide (4000000 < a3) = true := decide_eq_true c10
            clear c10
            simp only [Option.some.injEq, Prod.mk.injEq] at H
            obtain ⟨rfl, rfl, rfl⟩ := H
            go_enter Try.func42, Try.ntmps42
            go_wp2_with (first | ((with_reducible refine gate_dst (N := 8) rfl ?_); refine box_event ?hg (N := 8) ?hd (cs := #[.complex .f64 0 0, .complex .f64 0 0]) (t := 51) ?hr ?_; (case hd => rfl); (case hg => rfl); (case hr => first | (go_simp; done) | (go_simp; rfl)); intro gb180 hg w11 hbox hb; have n0_ := Aside0.mk (below_step (by repeat (first | (with_reducible first | exact HB.out | apply below_alloc | apply pw_below_drewN | apply below_drew1) | exact HB.out)) hb); have n1_ := Aside0.mk (hbox); have n2_ := Aside0.mk ((by rw [hg]; exact (below_size (by repeat (first | (with_reducible first | exact HB.out | apply below_alloc | apply pw_below_drewN | apply below_drew1) | exact HB.out))) : w.heap.size ≤ gb180)); have n3_ := Aside0.mk ((by rw [hg]; exact (below_size (by repeat (first | (with_reducible first | exact HB.out | apply below_alloc | apply pw_below_drewN | apply below_drew1) | exact HB.out))) : w.heap.size ≤ gb180)); clear HB; have HB := n0_; have BK180 := n1_; have GW180 := n2_; have GE180 := n3_; clear n0_ n1_ n2_ n3_; clear hb hbox hg) | ((with_reducible refine gate_callee (f := 26) rfl ?_); refine goesL_ (some 16) rfl rfl Try.func26 (by kernel_rfl) rfl #[.int .i64 a2, .int .i64 a3] rfl (by (try simp only [List.map_toArray, List.map_cons, List.map_nil]); first | done | rfl | (simp only [List.length_drop, List.length_take]; rfl)) ?_; (with_reducible refine (amount_Rate.calls a2 a3 t181 t182 _ A5.out).mono ?_); rintro e w12 ⟨rfl, hb⟩; refine ⟨_, rfl, ?_⟩; have n0_ := Aside0.mk (blk_below (g := gb180) (o := .cells #[.complex .f64 0 0, .complex .f64 0 0] 51 (0, 0)) (by (with_reducible repeat (first | refine blk_drewN ?_ _ | refine blk_drew ?_ | refine blk_alloc ?_ _)); exact BK180.out) hb); have n1_ := Aside0.mk (below_step (by repeat (first | (with_reducible first | exact HB.out | apply below_alloc | apply pw_below_drewN | apply below_drew1 | refine below_set ?_ GE180.out) | exact HB.out)) hb); clear BK180; clear HB; have BK180 := n0_; have HB := n1_; clear n0_ n1_; (try clear hb); (try clear hb2); (try clear hk); (try clear hi); have hcz13_0 : w12.cell? ⟨gb180, 0, none⟩ = some (.complex .f64 0 0) := (blk_cell BK180.out 0).trans rfl; have hcz13_1 : w12.cell? ⟨gb180, 1, none⟩ = some (.complex .f64 0 0) := (blk_cell BK180.out 1).trans rfl; have hfz13_0 := blk_frozen BK180.out 0; have hfz13_1 := blk_frozen BK180.out 1))
            refine bodyPost_ret (results_ct rfl _ _ gb180 51 #[.complex .f64 0 0, .complex .f64 0 0] (0, 0) _ rfl (by (with_reducible repeat (first | refine blk_drewN ?_ _ | refine blk_drew ?_ | refine blk_alloc ?_ _)); refine blk_put (cs := #[.complex .f64 0 0, .complex .f64 0 0]) ?_ 1 _ rfl; (with_reducible repeat (first | refine blk_drewN ?_ _ | refine blk_drew ?_ | refine blk_alloc ?_ _)); refine blk_put (cs := #[.complex .f64 0 0, .complex .f64 0 0]) ?_ 0 _ rfl; (with_reducible repeat (first | refine blk_drewN ?_ _ | refine blk_drew ?_ | refine blk_alloc ?_ _)); exact BK180.out) Try.underlying51 rfl (by kernel_rfl)) rfl ?_
            exact ⟨by first | rfl | (simp [errW_none, errW_some] <;> rfl) | (simp [*, errW_none, errW_some] <;> rfl), by repeat (first | (with_reducible first | exact HB.out | apply below_alloc | apply pw_below_drewN | apply below_drew1 | refine below_set ?_ GE180.out) | exact HB.out)⟩
          · rw [if_neg c10] at H
            have c10b0 : decide (4000000 < a3) = false := decide_eq_false c10
            clear c10
            by_cases c14 : t182 = 0
            · rw [if_pos c14] at H
              have c14b0 : (t182 == 0) = true := beq_iff_eq.mpr c14
              have c14b1 : (t182 != 0) = false := bne_eq_false_iff_eq.mpr c14
              clear c14
              by_cases c15 : t181 < 253
              · rw [if_pos c15] at H
                have c15b0 : decide (t181 < 253) = true := decide_eq_true c15
                clear c15
                simp only [Option.some.injEq, Prod.mk.injEq] at H
                obtain ⟨rfl, rfl, rfl⟩ := H
                go_enter Try.func42, Try.ntmps42
                go_wp2_with (first | ((with_reducible refine gate_dst (N := 8) rfl ?_); refine box_event ?hg (N := 8) ?hd (cs := #[.complex .f64 0 0, .complex .f64 0 0]) (t := 51) ?hr ?_; (case hd => rfl); (case hg => rfl); (case hr => first | (go_simp; done) | (go_simp; rfl)); intro gb180 hg w16 hbox hb; have n0_ := Aside0.mk (below_step (by repeat (first | (with_reducible first | exact HB.out | apply below_alloc | apply pw_below_drewN | apply below_drew1) | exact HB.out)) hb); have n1_ := Aside0.mk (hbox); have n2_ := Aside0.mk ((by rw [hg]; exact (below_size (by repeat (first | (with_reducible first | exact HB.out | apply below_alloc | apply pw_below_drewN | apply below_drew1) | exact HB.out))) : w.heap.size ≤ gb180)); have n3_ := Aside0.mk ((by rw [hg]; exact (below_size (by repeat (first | (with_reducible first | exact HB.out | apply below_alloc | apply pw_below_drewN | apply below_drew1) | exact HB.out))) : w.heap.size ≤ gb180)); clear HB; have HB := n0_; have BK180 := n1_; have GW180 := n2_; have GE180 := n3_; clear n0_ n1_ n2_ n3_; clear hb hbox hg) | ((with_reducible refine gate_callee (f := 26) rfl ?_); refine goesL_ (some 16) rfl rfl Try.func26 (by kernel_rfl) rfl #[.int .i64 a2, .int .i64 a3] rfl (by (try simp only [List.map_toArray, List.map_cons, List.map_nil]); first | done | rfl | (simp only [List.length_drop, List.length_take]; rfl)) ?_; (with_reducible refine (amount_Rate.calls a2 a3 t181 t182 _ A5.out).mono ?_); rintro e w17 ⟨rfl, hb⟩; refine ⟨_, rfl, ?_⟩; have n0_ := Aside0.mk (blk_below (g := gb180) (o := .cells #[.complex .f64 0 0, .complex .f64 0 0] 51 (0, 0)) (by (with_reducible repeat (first | refine blk_drewN ?_ _ | refine blk_drew ?_ | refine blk_alloc ?_ _)); exact BK180.out) hb); have n1_ := Aside0.mk (below_step (by repeat (first | (with_reducible first | exact HB.out | apply below_alloc | apply pw_below_drewN | apply below_drew1 | refine below_set ?_ GE180.out) | exact HB.out)) hb); clear BK180; clear HB; have BK180 := n0_; have HB := n1_; clear n0_ n1_; (try clear hb); (try clear hb2); (try clear hk); (try clear hi); have hcz18_0 : w17.cell? ⟨gb180, 0, none⟩ = some (.complex .f64 0 0) := (blk_cell BK180.out 0).trans rfl; have hcz18_1 : w17.cell? ⟨gb180, 1, none⟩ = some (.complex .f64 0 0) := (blk_cell BK180.out 1).trans rfl; have hfz18_0 := blk_frozen BK180.out 0; have hfz18_1 := blk_frozen BK180.out 1))
                refine bodyPost_ret (results_ct rfl _ _ gb180 51 #[.complex .f64 0 0, .complex .f64 0 0] (0, 0) _ rfl (by (with_reducible repeat (first | refine blk_drewN ?_ _ | refine blk_drew ?_ | refine blk_alloc ?_ _)); refine blk_put (cs := #[.complex .f64 0 0, .complex .f64 0 0]) ?_ 1 _ rfl; (with_reducible repeat (first | refine blk_drewN ?_ _ | refine blk_drew ?_ | refine blk_alloc ?_ _)); refine blk_put (cs := #[.complex .f64 0 0, .complex .f64 0 0]) ?_ 0 _ rfl; (with_reducible repeat (first | refine blk_drewN ?_ _ | refine blk_drew ?_ | refine blk_alloc ?_ _)); exact BK180.out) Try.underlying51 rfl (by kernel_rfl)) rfl ?_
                exact ⟨by first | rfl | (simp [errW_none, errW_some] <;> rfl) | (simp [*, errW_none, errW_some] <;> rfl), by repeat (first | (with_reducible first | exact HB.out | apply below_alloc | apply pw_below_drewN | apply below_drew1 | refine below_set ?_ GE180.out) | exact HB.out)⟩
              · rw [if_neg c15] at H
                have c15b0 : decide (t181 < 253) = false := decide_eq_false c15
                clear c15
                obtain ⟨ji19, hji19⟩ : ∃ j_ : Int, (mx a0 a1) = j_ := ⟨_, rfl⟩
                replace H : ((curve_Line.f (⟨(fint a0), 4643105662702714880⟩ : C128) (⟨(fint (ji19)), (fint t181)⟩ : C128)).bind fun bt183 => (some (bt183.1, bt183.2.1, bt183.2.2))) = some (r1, r2, r3) := by first | (rw [hji19] at H; exact H) | (simp only [hji19] at H ⊢; exact H)
                (try rw [hji19] at A5)
                have hji19_ : (if a0 < a1 then a1 else a0) = ji19 := hji19
                replace H := Option.bind_eq_some_iff.mp H
                obtain ⟨⟨t183, t184, t185⟩, A200, H⟩ := H
                replace H : (some (t183, t184, t185)) = some (r1, r2, r3) := H
                have A20 := Aside0.mk A200
                clear A200
                simp only [Option.some.injEq, Prod.mk.injEq] at H
                obtain ⟨rfl, rfl, rfl⟩ := H
                go_enter Try.func42, Try.ntmps42
                go_wp2_with (first | ((with_reducible refine gate_dst (N := 8) rfl ?_); refine box_event ?hg (N := 8) ?hd (cs := #[.complex .f64 0 0, .complex .f64 0 0]) (t := 51) ?hr ?_; (case hd => rfl); (case hg => rfl); (case hr => first | (go_simp; done) | (go_simp; rfl)); intro gb180 hg w21 hbox hb; have n0_ := Aside0.mk (below_step (by repeat (first | (with_reducible first | exact HB.out | apply below_alloc | apply pw_below_drewN | apply below_drew1) | exact HB.out)) hb); have n1_ := Aside0.mk (hbox); have n2_ := Aside0.mk ((by rw [hg]; exact (below_size (by repeat (first | (with_reducible first | exact HB.out | apply below_alloc | apply pw_below_drewN | apply below_drew1) | exact HB.out))) : w.heap.size ≤ gb180)); have n3_ := Aside0.mk ((by rw [hg]; exact (below_size (by repeat (first | (with_reducible first | exact HB.out | apply below_alloc | apply pw_below_drewN | apply below_drew1) | exact HB.out))) : w.heap.size ≤ gb180)); clear HB; have HB := n0_; have BK180 := n1_; have GW180 := n2_; have GE180 := n3_; clear n0_ n1_ n2_ n3_; clear hb hbox hg) | ((with_reducible refine gate_callee (f := 26) rfl ?_); refine goesL_ (some 16) rfl rfl Try.func26 (by kernel_rfl) rfl #[.int .i64 a2, .int .i64 a3] rfl (by (try simp only [List.map_toArray, List.map_cons, List.map_nil]); first | done | rfl | (simp only [List.length_drop, List.length_take]; rfl)) ?_; (with_reducible refine (amount_Rate.calls a2 a3 t181 t182 _ A5.out).mono ?_); rintro e w22 ⟨rfl, hb⟩; refine ⟨_, rfl, ?_⟩; have n0_ := Aside0.mk (blk_below (g := gb180) (o := .cells #[.complex .f64 0 0, .complex .f64 0 0] 51 (0, 0)) (by (with_reducible repeat (first | refine blk_drewN ?_ _ | refine blk_drew ?_ | refine blk_alloc ?_ _)); exact BK180.out) hb); have n1_ := Aside0.mk (below_step (by repeat (first | (with_reducible first | exact HB.out | apply below_alloc | apply pw_below_drewN | apply below_drew1 | refine below_set ?_ GE180.out) | exact HB.out)) hb); clear BK180; clear HB; have BK180 := n0_; have HB := n1_; clear n0_ n1_; (try clear hb); (try clear hb2); (try clear hk); (try clear hi)) | ((with_reducible refine gate_callee (f := 38) rfl ?_); refine goesL_ (some 58) rfl rfl Try.func38 (by kernel_rfl) rfl #[.complex .f64 (fint a0) 4643105662702714880, .complex .f64 (fint (ji19)) (fint t181)] rfl (by (try simp only [List.map_toArray, List.map_cons, List.map_nil]); first | done | (simp only [hji19]; rfl) | rfl | (simp only [List.length_drop, List.length_take]; rfl)) ?_; (with_reducible refine (curve_Line.calls (⟨(fint a0), 4643105662702714880⟩ : C128) (⟨(fint (ji19)), (fint t181)⟩ : C128) t183 t184 t185 _ A20.out).mono ?_); rintro e w23 ⟨rfl, hb⟩; refine ⟨_, rfl, ?_⟩; have n0_ := Aside0.mk (blk_below (g := gb180) (o := .cells #[.complex .f64 0 0, .complex .f64 0 0] 51 (0, 0)) (by (with_reducible repeat (first | refine blk_drewN ?_ _ | refine blk_drew ?_ | refine blk_alloc ?_ _)); exact BK180.out) hb); have n1_ := Aside0.mk (below_step (by repeat (first | (with_reducible first | exact HB.out | apply below_alloc | apply pw_below_drewN | apply below_drew1 | refine below_set ?_ GE180.out) | exact HB.out)) hb); clear BK180; clear HB; have BK180 := n0_; have HB := n1_; clear n0_ n1_; (try clear hb); (try clear hb2); (try clear hk); (try clear hi); have hcz24_0 : w23.cell? ⟨gb180, 0, none⟩ = some (.complex .f64 0 0) := (blk_cell BK180.out 0).trans rfl; have hcz24_1 : w23.cell? ⟨gb180, 1, none⟩ = some (.complex .f64 0 0) := (blk_cell BK180.out 1).trans rfl; have hfz24_0 := blk_frozen BK180.out 0; have hfz24_1 := blk_frozen BK180.out 1))
                refine bodyPost_ret (results_ct rfl _ _ gb180 51 #[.complex .f64 t183.re t183.im, .complex .f64 t184.re t184.im] (0, 0) _ rfl (by (with_reducible repeat (first | refine blk_drewN ?_ _ | refine blk_drew ?_ | refine blk_alloc ?_ _)); refine blk_put (cs := #[.complex .f64 t183.re t183.im, .complex .f64 0 0]) ?_ 1 _ rfl; (with_reducible repeat (first | refine blk_drewN ?_ _ | refine blk_drew ?_ | refine blk_alloc ?_ _)); refine blk_put (cs := #[.complex .f64 0 0, .complex .f64 0 0]) ?_ 0 _ rfl; (with_reducible repeat (first | refine blk_drewN ?_ _ | refine blk_drew ?_ | refine blk_alloc ?_ _)); exact BK180.out) Try.underlying51 rfl (by kernel_rfl)) rfl ?_
                exact ⟨by first | rfl | (simp [errW_none, errW_some] <;> rfl) | (simp only [← hji19]; first | rfl | (simp [errW_none, errW_some] <;> rfl)) | (simp [*, errW_none, errW_some] <;> rfl), by repeat (first | (with_reducible first | exact HB.out | apply below_alloc | apply pw_below_drewN | apply below_drew1 | refine below_set ?_ GE180.out) | exact HB.out)⟩
            · rw [if_neg c14] at H
              have c14b0 : (t182 == 0) = false := beq_eq_false_iff_ne.mpr c14
              have c14b1 : (t182 != 0) = true := bne_iff_ne.mpr c14
              simp only [Option.some.injEq, Prod.mk.injEq] at H
              obtain ⟨rfl, rfl, rfl⟩ := H
              go_enter Try.func42, Try.ntmps42
              go_wp2_with (first | ((with_reducible refine gate_dst (N := 8) rfl ?_); refine box_event ?hg (N := 8) ?hd (cs := #[.complex .f64 0 0, .complex .f64 0 0]) (t := 51) ?hr ?_; (case hd => rfl); (case hg => rfl); (case hr => first | (go_simp; done) | (go_simp; rfl)); intro gb180 hg w25 hbox hb; have n0_ := Aside0.mk (below_step (by repeat (first | (with_reducible first | exact HB.out | apply below_alloc | apply pw_below_drewN | apply below_drew1) | exact HB.out)) hb); have n1_ := Aside0.mk (hbox); have n2_ := Aside0.mk ((by rw [hg]; exact (below_size (by repeat (first | (with_reducible first | exact HB.out | apply below_alloc | apply pw_below_drewN | apply below_drew1) | exact HB.out))) : w.heap.size ≤ gb180)); have n3_ := Aside0.mk ((by rw [hg]; exact (below_size (by repeat (first | (with_reducible first | exact HB.out | apply below_alloc | apply pw_below_drewN | apply below_drew1) | exact HB.out))) : w.heap.size ≤ gb180)); clear HB; have HB := n0_; have BK180 := n1_; have GW180 := n2_; have GE180 := n3_; clear n0_ n1_ n2_ n3_; clear hb hbox hg) | ((with_reducible refine gate_callee (f := 26) rfl ?_); refine goesL_ (some 16) rfl rfl Try.func26 (by kernel_rfl) rfl #[.int .i64 a2, .int .i64 a3] rfl (by (try simp only [List.map_toArray, List.map_cons, List.map_nil]); first | done | rfl | (simp only [List.length_drop, List.length_take]; rfl)) ?_; (with_reducible refine (amount_Rate.calls a2 a3 t181 t182 _ A5.out).mono ?_); rintro e w26 ⟨rfl, hb⟩; refine ⟨_, rfl, ?_⟩; have n0_ := Aside0.mk (blk_below (g := gb180) (o := .cells #[.complex .f64 0 0, .complex .f64 0 0] 51 (0, 0)) (by (with_reducible repeat (first | refine blk_drewN ?_ _ | refine blk_drew ?_ | refine blk_alloc ?_ _)); exact BK180.out) hb); have n1_ := Aside0.mk (below_step (by repeat (first | (with_reducible first | exact HB.out | apply below_alloc | apply pw_below_drewN | apply below_drew1 | refine below_set ?_ GE180.out) | exact HB.out)) hb); clear BK180; clear HB; have BK180 := n0_; have HB := n1_; clear n0_ n1_; (try clear hb); (try clear hb2); (try clear hk); (try clear hi); have hcz27_0 : w26.cell? ⟨gb180, 0, none⟩ = some (.complex .f64 0 0) := (blk_cell BK180.out 0).trans rfl; have hcz27_1 : w26.cell? ⟨gb180, 1, none⟩ = some (.complex .f64 0 0) := (blk_cell BK180.out 1).trans rfl; have hfz27_0 := blk_frozen BK180.out 0; have hfz27_1 := blk_frozen BK180.out 1))
              refine bodyPost_ret (results_ct rfl _ _ gb180 51 #[.complex .f64 0 0, .complex .f64 0 0] (0, 0) _ rfl (by (with_reducible repeat (first | refine blk_drewN ?_ _ | refine blk_drew ?_ | refine blk_alloc ?_ _)); refine blk_put (cs := #[.complex .f64 0 0, .complex .f64 0 0]) ?_ 1 _ rfl; (with_reducible repeat (first | refine blk_drewN ?_ _ | refine blk_drew ?_ | refine blk_alloc ?_ _)); refine blk_put (cs := #[.complex .f64 0 0, .complex .f64 0 0]) ?_ 0 _ rfl; (with_reducible repeat (first | refine blk_drewN ?_ _ | refine blk_drew ?_ | refine blk_alloc ?_ _)); exact BK180.out) Try.underlying51 rfl (by kernel_rfl)) rfl ?_
              exact ⟨by first | rfl | (simp [errW_none, errW_some] <;> rfl) | (simp [*, errW_none, errW_some] <;> rfl), by repeat (first | (with_reducible first | exact HB.out | apply below_alloc | apply pw_below_drewN | apply below_drew1 | refine below_set ?_ GE180.out) | exact HB.out)⟩
        · rw [if_neg c9] at H
          have c9b0 : decide (a1 ≤ 1000000) = false := decide_eq_false c9
          clear c9
          simp only [Option.some.injEq, Prod.mk.injEq] at H
          obtain ⟨rfl, rfl, rfl⟩ := H
          go_enter Try.func42, Try.ntmps42
          go_wp2_with (first | ((with_reducible refine gate_dst (N := 8) rfl ?_); refine box_event ?hg (N := 8) ?hd (cs := #[.complex .f64 0 0, .complex .f64 0 0]) (t := 51) ?hr ?_; (case hd => rfl); (case hg => rfl); (case hr => first | (go_simp; done) | (go_simp; rfl)); intro gb180 hg w28 hbox hb; have n0_ := Aside0.mk (below_step (by repeat (first | (with_reducible first | exact HB.out | apply below_alloc | apply pw_below_drewN | apply below_drew1) | exact HB.out)) hb); have n1_ := Aside0.mk (hbox); have n2_ := Aside0.mk ((by rw [hg]; exact (below_size (by repeat (first | (with_reducible first | exact HB.out | apply below_alloc | apply pw_below_drewN | apply below_drew1) | exact HB.out))) : w.heap.size ≤ gb180)); have n3_ := Aside0.mk ((by rw [hg]; exact (below_size (by repeat (first | (with_reducible first | exact HB.out | apply below_alloc | apply pw_below_drewN | apply below_drew1) | exact HB.out))) : w.heap.size ≤ gb180)); clear HB; have HB := n0_; have BK180 := n1_; have GW180 := n2_; have GE180 := n3_; clear n0_ n1_ n2_ n3_; clear hb hbox hg) | ((with_reducible refine gate_callee (f := 26) rfl ?_); refine goesL_ (some 16) rfl rfl Try.func26 (by kernel_rfl) rfl #[.int .i64 a2, .int .i64 a3] rfl (by (try simp only [List.map_toArray, List.map_cons, List.map_nil]); first | done | rfl | (simp only [List.length_drop, List.length_take]; rfl)) ?_; (with_reducible refine (amount_Rate.calls a2 a3 t181 t182 _ A5.out).mono ?_); rintro e w29 ⟨rfl, hb⟩; refine ⟨_, rfl, ?_⟩; have n0_ := Aside0.mk (blk_below (g := gb180) (o := .cells #[.complex .f64 0 0, .complex .f64 0 0] 51 (0, 0)) (by (with_reducible repeat (first | refine blk_drewN ?_ _ | refine blk_drew ?_ | refine blk_alloc ?_ _)); exact BK180.out) hb); have n1_ := Aside0.mk (below_step (by repeat (first | (with_reducible first | exact HB.out | apply below_alloc | apply pw_below_drewN | apply below_drew1 | refine below_set ?_ GE180.out) | exact HB.out)) hb); clear BK180; clear HB; have BK180 := n0_; have HB := n1_; clear n0_ n1_; (try clear hb); (try clear hb2); (try clear hk); (try clear hi); have hcz30_0 : w29.cell? ⟨gb180, 0, none⟩ = some (.complex .f64 0 0) := (blk_cell BK180.out 0).trans rfl; have hcz30_1 : w29.cell? ⟨gb180, 1, none⟩ = some (.complex .f64 0 0) := (blk_cell BK180.out 1).trans rfl; have hfz30_0 := blk_frozen BK180.out 0; have hfz30_1 := blk_frozen BK180.out 1))
          refine bodyPost_ret (results_ct rfl _ _ gb180 51 #[.complex .f64 0 0, .complex .f64 0 0] (0, 0) _ rfl (by (with_reducible repeat (first | refine blk_drewN ?_ _ | refine blk_drew ?_ | refine blk_alloc ?_ _)); refine blk_put (cs := #[.complex .f64 0 0, .complex .f64 0 0]) ?_ 1 _ rfl; (with_reducible repeat (first | refine blk_drewN ?_ _ | refine blk_drew ?_ | refine blk_alloc ?_ _)); refine blk_put (cs := #[.complex .f64 0 0, .complex .f64 0 0]) ?_ 0 _ rfl; (with_reducible repeat (first | refine blk_drewN ?_ _ | refine blk_drew ?_ | refine blk_alloc ?_ _)); exact BK180.out) Try.underlying51 rfl (by kernel_rfl)) rfl ?_
          exact ⟨by first | rfl | (simp [errW_none, errW_some] <;> rfl) | (simp [*, errW_none, errW_some] <;> rfl), by repeat (first | (with_reducible first | exact HB.out | apply below_alloc | apply pw_below_drewN | apply below_drew1 | refine below_set ?_ GE180.out) | exact HB.out)⟩
      · rw [if_neg c8] at H
        have c8b0 : decide (0 ≤ a1) = false := decide_eq_false c8
        clear c8
        simp only [Option.some.injEq, Prod.mk.injEq] at H
        obtain ⟨rfl, rfl, rfl⟩ := H
        go_enter Try.func42, Try.ntmps42
        go_wp2_with (first | ((with_reducible refine gate_dst (N := 8) rfl ?_); refine box_event ?hg (N := 8) ?hd (cs := #[.complex .f64 0 0, .complex .f64 0 0]) (t := 51) ?hr ?_; (case hd => rfl); (case hg => rfl); (case hr => first | (go_simp; done) | (go_simp; rfl)); intro gb180 hg w31 hbox hb; have n0_ := Aside0.mk (below_step (by repeat (first | (with_reducible first | exact HB.out | apply below_alloc | apply pw_below_drewN | apply below_drew1) | exact HB.out)) hb); have n1_ := Aside0.mk (hbox); have n2_ := Aside0.mk ((by rw [hg]; exact (below_size (by repeat (first | (with_reducible first | exact HB.out | apply below_alloc | apply pw_below_drewN | apply below_drew1) | exact HB.out))) : w.heap.size ≤ gb180)); have n3_ := Aside0.mk ((by rw [hg]; exact (below_size (by repeat (first | (with_reducible first | exact HB.out | apply below_alloc | apply pw_below_drewN | apply below_drew1) | exact HB.out))) : w.heap.size ≤ gb180)); clear HB; have HB := n0_; have BK180 := n1_; have GW180 := n2_; have GE180 := n3_; clear n0_ n1_ n2_ n3_; clear hb hbox hg) | ((with_reducible refine gate_callee (f := 26) rfl ?_); refine goesL_ (some 16) rfl rfl Try.func26 (by kernel_rfl) rfl #[.int .i64 a2, .int .i64 a3] rfl (by (try simp only [List.map_toArray, List.map_cons, List.map_nil]); first | done | rfl | (simp only [List.length_drop, List.length_take]; rfl)) ?_; (with_reducible refine (amount_Rate.calls a2 a3 t181 t182 _ A5.out).mono ?_); rintro e w32 ⟨rfl, hb⟩; refine ⟨_, rfl, ?_⟩; have n0_ := Aside0.mk (blk_below (g := gb180) (o := .cells #[.complex .f64 0 0, .complex .f64 0 0] 51 (0, 0)) (by (with_reducible repeat (first | refine blk_drewN ?_ _ | refine blk_drew ?_ | refine blk_alloc ?_ _)); exact BK180.out) hb); have n1_ := Aside0.mk (below_step (by repeat (first | (with_reducible first | exact HB.out | apply below_alloc | apply pw_below_drewN | apply below_drew1 | refine below_set ?_ GE180.out) | exact HB.out)) hb); clear BK180; clear HB; have BK180 := n0_; have HB := n1_; clear n0_ n1_; (try clear hb); (try clear hb2); (try clear hk); (try clear hi); have hcz33_0 : w32.cell? ⟨gb180, 0, none⟩ = some (.complex .f64 0 0) := (blk_cell BK180.out 0).trans rfl; have hcz33_1 : w32.cell? ⟨gb180, 1, none⟩ = some (.complex .f64 0 0) := (blk_cell BK180.out 1).trans rfl; have hfz33_0 := blk_frozen BK180.out 0; have hfz33_1 := blk_frozen BK180.out 1))
        refine bodyPost_ret (results_ct rfl _ _ gb180 51 #[.complex .f64 0 0, .complex .f64 0 0] (0, 0) _ rfl (by (with_reducible repeat (first | refine blk_drewN ?_ _ | refine blk_drew ?_ | refine blk_alloc ?_ _)); refine blk_put (cs := #[.complex .f64 0 0, .complex .f64 0 0]) ?_ 1 _ rfl; (with_reducible repeat (first | refine blk_drewN ?_ _ | refine blk_drew ?_ | refine blk_alloc ?_ _)); refine blk_put (cs := #[.complex .f64 0 0, .complex .f64 0 0]) ?_ 0 _ rfl; (with_reducible repeat (first | refine blk_drewN ?_ _ | refine blk_drew ?_ | refine blk_alloc ?_ _)); exact BK180.out) Try.underlying51 rfl (by kernel_rfl)) rfl ?_
        exact ⟨by first | rfl | (simp [errW_none, errW_some] <;> rfl) | (simp [*, errW_none, errW_some] <;> rfl), by repeat (first | (with_reducible first | exact HB.out | apply below_alloc | apply pw_below_drewN | apply below_drew1 | refine below_set ?_ GE180.out) | exact HB.out)⟩
    · rw [if_neg c7] at H
      have c7b0 : decide (a0 ≤ 1000000) = false := decide_eq_false c7
      clear c7
      simp only [Option.some.injEq, Prod.mk.injEq] at H
      obtain ⟨rfl, rfl, rfl⟩ := H
      go_enter Try.func42, Try.ntmps42
      go_wp2_with (first | ((with_reducible refine gate_dst (N := 8) rfl ?_); refine box_event ?hg (N := 8) ?hd (cs := #[.complex .f64 0 0, .complex .f64 0 0]) (t := 51) ?hr ?_; (case hd => rfl); (case hg => rfl); (case hr => first | (go_simp; done) | (go_simp; rfl)); intro gb180 hg w34 hbox hb; have n0_ := Aside0.mk (below_step (by repeat (first | (with_reducible first | exact HB.out | apply below_alloc | apply pw_below_drewN | apply below_drew1) | exact HB.out)) hb); have n1_ := Aside0.mk (hbox); have n2_ := Aside0.mk ((by rw [hg]; exact (below_size (by repeat (first | (with_reducible first | exact HB.out | apply below_alloc | apply pw_below_drewN | apply below_drew1) | exact HB.out))) : w.heap.size ≤ gb180)); have n3_ := Aside0.mk ((by rw [hg]; exact (below_size (by repeat (first | (with_reducible first | exact HB.out | apply below_alloc | apply pw_below_drewN | apply below_drew1) | exact HB.out))) : w.heap.size ≤ gb180)); clear HB; have HB := n0_; have BK180 := n1_; have GW180 := n2_; have GE180 := n3_; clear n0_ n1_ n2_ n3_; clear hb hbox hg) | ((with_reducible refine gate_callee (f := 26) rfl ?_); refine goesL_ (some 16) rfl rfl Try.func26 (by kernel_rfl) rfl #[.int .i64 a2, .int .i64 a3] rfl (by (try simp only [List.map_toArray, List.map_cons, List.map_nil]); first | done | rfl | (simp only [List.length_drop, List.length_take]; rfl)) ?_; (with_reducible refine (amount_Rate.calls a2 a3 t181 t182 _ A5.out).mono ?_); rintro e w35 ⟨rfl, hb⟩; refine ⟨_, rfl, ?_⟩; have n0_ := Aside0.mk (blk_below (g := gb180) (o := .cells #[.complex .f64 0 0, .complex .f64 0 0] 51 (0, 0)) (by (with_reducible repeat (first | refine blk_drewN ?_ _ | refine blk_drew ?_ | refine blk_alloc ?_ _)); exact BK180.out) hb); have n1_ := Aside0.mk (below_step (by repeat (first | (with_reducible first | exact HB.out | apply below_alloc | apply pw_below_drewN | apply below_drew1 | refine below_set ?_ GE180.out) | exact HB.out)) hb); clear BK180; clear HB; have BK180 := n0_; have HB := n1_; clear n0_ n1_; (try clear hb); (try clear hb2); (try clear hk); (try clear hi); have hcz36_0 : w35.cell? ⟨gb180, 0, none⟩ = some (.complex .f64 0 0) := (blk_cell BK180.out 0).trans rfl; have hcz36_1 : w35.cell? ⟨gb180, 1, none⟩ = some (.complex .f64 0 0) := (blk_cell BK180.out 1).trans rfl; have hfz36_0 := blk_frozen BK180.out 0; have hfz36_1 := blk_frozen BK180.out 1))
      refine bodyPost_ret (results_ct rfl _ _ gb180 51 #[.complex .f64 0 0, .complex .f64 0 0] (0, 0) _ rfl (by (with_reducible repeat (first | refine blk_drewN ?_ _ | refine blk_drew ?_ | refine blk_alloc ?_ _)); refine blk_put (cs := #[.complex .f64 0 0, .complex .f64 0 0]) ?_ 1 _ rfl; (with_reducible repeat (first | refine blk_drewN ?_ _ | refine blk_drew ?_ | refine blk_alloc ?_ _)); refine blk_put (cs := #[.complex .f64 0 0, .complex .f64 0 0]) ?_ 0 _ rfl; (with_reducible repeat (first | refine blk_drewN ?_ _ | refine blk_drew ?_ | refine blk_alloc ?_ _)); exact BK180.out) Try.underlying51 rfl (by kernel_rfl)) rfl ?_
      exact ⟨by first | rfl | (simp [errW_none, errW_some] <;> rfl) | (simp [*, errW_none, errW_some] <;> rfl), by repeat (first | (with_reducible first | exact HB.out | apply below_alloc | apply pw_below_drewN | apply below_drew1 | refine below_set ?_ GE180.out) | exact HB.out)⟩
  · rw [if_neg c6] at H
    have c6b0 : decide (0 ≤ a0) = false := decide_eq_false c6
    clear c6
    simp only [Option.some.injEq, Prod.mk.injEq] at H
    obtain ⟨rfl, rfl, rfl⟩ := H
    go_enter Try.func42, Try.ntmps42
    go_wp2_with (first | ((with_reducible refine gate_dst (N := 8) rfl ?_); refine box_event ?hg (N := 8) ?hd (cs := #[.complex .f64 0 0, .complex .f64 0 0]) (t := 51) ?hr ?_; (case hd => rfl); (case hg => rfl); (case hr => first | (go_simp; done) | (go_simp; rfl)); intro gb180 hg w37 hbox hb; have n0_ := Aside0.mk (below_step (by repeat (first | (with_reducible first | exact HB.out | apply below_alloc | apply pw_below_drewN | apply below_drew1) | exact HB.out)) hb); have n1_ := Aside0.mk (hbox); have n2_ := Aside0.mk ((by rw [hg]; exact (below_size (by repeat (first | (with_reducible first | exact HB.out | apply below_alloc | apply pw_below_drewN | apply below_drew1) | exact HB.out))) : w.heap.size ≤ gb180)); have n3_ := Aside0.mk ((by rw [hg]; exact (below_size (by repeat (first | (with_reducible first | exact HB.out | apply below_alloc | apply pw_below_drewN | apply below_drew1) | exact HB.out))) : w.heap.size ≤ gb180)); clear HB; have HB := n0_; have BK180 := n1_; have GW180 := n2_; have GE180 := n3_; clear n0_ n1_ n2_ n3_; clear hb hbox hg) | ((with_reducible refine gate_callee (f := 26) rfl ?_); refine goesL_ (some 16) rfl rfl Try.func26 (by kernel_rfl) rfl #[.int .i64 a2, .int .i64 a3] rfl (by (try simp only [List.map_toArray, List.map_cons, List.map_nil]); first | done | rfl | (simp only [List.length_drop, List.length_take]; rfl)) ?_; (with_reducible refine (amount_Rate.calls a2 a3 t181 t182 _ A5.out).mono ?_); rintro e w38 ⟨rfl, hb⟩; refine ⟨_, rfl, ?_⟩; have n0_ := Aside0.mk (blk_below (g := gb180) (o := .cells #[.complex .f64 0 0, .complex .f64 0 0] 51 (0, 0)) (by (with_reducible repeat (first | refine blk_drewN ?_ _ | refine blk_drew ?_ | refine blk_alloc ?_ _)); exact BK180.out) hb); have n1_ := Aside0.mk (below_step (by repeat (first | (with_reducible first | exact HB.out | apply below_alloc | apply pw_below_drewN | apply below_drew1 | refine below_set ?_ GE180.out) | exact HB.out)) hb); clear BK180; clear HB; have BK180 := n0_; have HB := n1_; clear n0_ n1_; (try clear hb); (try clear hb2); (try clear hk); (try clear hi); have hcz39_0 : w38.cell? ⟨gb180, 0, none⟩ = some (.complex .f64 0 0) := (blk_cell BK180.out 0).trans rfl; have hcz39_1 : w38.cell? ⟨gb180, 1, none⟩ = some (.complex .f64 0 0) := (blk_cell BK180.out 1).trans rfl; have hfz39_0 := blk_frozen BK180.out 0; have hfz39_1 := blk_frozen BK180.out 1))
    refine bodyPost_ret (results_ct rfl _ _ gb180 51 #[.complex .f64 0 0, .complex .f64 0 0] (0, 0) _ rfl (by (with_reducible repeat (first | refine blk_drewN ?_ _ | refine blk_drew ?_ | refine blk_alloc ?_ _)); refine blk_put (cs := #[.complex .f64 0 0, .complex .f64 0 0]) ?_ 1 _ rfl; (with_reducible repeat (first | refine blk_drewN ?_ _ | refine blk_drew ?_ | refine blk_alloc ?_ _)); refine blk_put (cs := #[.complex .f64 0 0, .complex .f64 0 0]) ?_ 0 _ rfl; (with_reducible repeat (first | refine blk_drewN ?_ _ | refine blk_drew ?_ | refine blk_alloc ?_ _)); exact BK180.out) Try.underlying51 rfl (by kernel_rfl)) rfl ?_
    exact ⟨by first | rfl | (simp [errW_none, errW_some] <;> rfl) | (simp [*, errW_none, errW_some] <;> rfl), by repeat (first | (with_reducible first | exact HB.out | apply below_alloc | apply pw_below_drewN | apply below_drew1 | refine below_set ?_ GE180.out) | exact HB.out)⟩

end Go.Proofs.Ytfoahgdaigfhoaa.QCur
