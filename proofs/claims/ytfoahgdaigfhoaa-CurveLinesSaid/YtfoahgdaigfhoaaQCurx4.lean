/- Functions of the program as plain Lean functions, and that its calls come to what these tell: written by a program of this session; Lean checks it. -/
import Derived.Test.YtfoahgdaigfhoaaQCurx0
import Derived.Test.YtfoahgdaigfhoaaQCurx1
import Derived.Test.YtfoahgdaigfhoaaQCurx2
import Derived.Test.YtfoahgdaigfhoaaQCurx3
namespace Go.Proofs.Ytfoahgdaigfhoaa.QCur
open Go.RowKit Go.Proofs.Ytfoahgdaigfhoaa.Hand Go.Proofs.YtfoahgdaigfhoaaW.PrintWords Go.Proofs.YtfoahgdaigfhoaaW.PrintLast Go.Proofs.YtfoahgdaigfhoaaW.PrintMore
attribute [local go_sem] max2_int min2_int max_two min_two max_three min_three max_four min_four run_equalIn_c run_store_float run_store_complex run_fop run_feq run_fne run_flt run_fle run_fgt run_fge run_fint run_toi run_real' run_imag' run_complex' run_ceq run_cne run_cadd run_csub run_cmul
set_option linter.unusedVariables false
set_option linter.unusedSimpArgs false

attribute [local go_sem high] eqA51
/-! ### coraclelaw16_CurveLines: function 11 -/
mutual
def coraclelaw16_CurveLines.j0 : Nat → Int → Int → Int → Int → Int → Bool → Bool → Option (Bool)
  | 0, _, _, _, _, _, _, _ => none
  | k + 1, x0, x1, x2, x3, x4, x5, x47 => if x47 = true then ((coraclelaw16_awake.f k).bind fun t140 => (some t140)) else (if x5 = true then (if fok .add (fint x0) 4602678819172646912 = true then (coraclelaw16_CurveLines.j1 k x0 x1 x2 x3 x4 x5 (⟨(fop .add (fint x0) 4602678819172646912), (fint x1)⟩ : C128) (⟨(fint x2), (fint x3)⟩ : C128)) else (none)) else (coraclelaw16_CurveLines.j1 k x0 x1 x2 x3 x4 x5 (⟨(fint x0), (fint x1)⟩ : C128) (⟨(fint x2), (fint x3)⟩ : C128)))
def coraclelaw16_CurveLines.j1 : Nat → Int → Int → Int → Int → Int → Bool → C128 → C128 → Option (Bool)
  | 0, _, _, _, _, _, _, _, _ => none
  | k + 1, x0, x1, x2, x3, x4, x5, x13, x14 => (curve_Line.f x13 x14).bind fun bt141 => (if x5 = true then (coraclelaw16_CurveLines.j2 k x0 x1 x2 x3 x4 x13 x14 bt141.2.2 false bt141.1 bt141.2.1) else (if x0 ≥ 0 then (if x2 ≤ 1000000 then (if x0 ≤ x2 then (if x1 ≥ 253 then (if x3 ≤ 1000000000 then (coraclelaw16_CurveLines.j2 k x0 x1 x2 x3 x4 x13 x14 bt141.2.2 (decide (x1 ≤ x3)) bt141.1 bt141.2.1) else (coraclelaw16_CurveLines.j2 k x0 x1 x2 x3 x4 x13 x14 bt141.2.2 false bt141.1 bt141.2.1)) else (coraclelaw16_CurveLines.j2 k x0 x1 x2 x3 x4 x13 x14 bt141.2.2 false bt141.1 bt141.2.1)) else (coraclelaw16_CurveLines.j2 k x0 x1 x2 x3 x4 x13 x14 bt141.2.2 false bt141.1 bt141.2.1)) else (coraclelaw16_CurveLines.j2 k x0 x1 x2 x3 x4 x13 x14 bt141.2.2 false bt141.1 bt141.2.1)) else (coraclelaw16_CurveLines.j2 k x0 x1 x2 x3 x4 x13 x14 bt141.2.2 false bt141.1 bt141.2.1)))
def coraclelaw16_CurveLines.j2 : Nat → Int → Int → Int → Int → Int → C128 → C128 → Int → Bool → C128 → C128 → Option (Bool)
  | 0, _, _, _, _, _, _, _, _, _, _, _ => none
  | k + 1, x0, x1, x2, x3, x4, x13, x14, x16, x17, x145000, x145001 => if x17 = true then (if x16 = 0 then (if (ceq x145000.re x145000.im x13.re x13.im) = true then (if (ceq x145001.re x145001.im x14.re x14.im) = true then ((curve_Curve_At.f x145000 x145001 x4).bind fun t145 => ((coracleref1_At.f k x0 x1 x2 x3 x4).bind fun t146 => (if t145 = t146 then ((coraclelaw16_awake.f k).bind fun t147 => (some t147)) else (some false)))) else (some false)) else (some false)) else (some false)) else (if x16 = 1 then (if (ceq x145000.re x145000.im 0 0 && (ceq x145001.re x145001.im 0 0)) = true then ((curve_Curve_At.f x13 x14 x4).bind fun t148 => (if t148 = 0 then ((coraclelaw16_awake.f k).bind fun t149 => (some t149)) else (some false))) else (some false)) else (some false))
end
def coraclelaw16_CurveLines.f (k : Nat) (a0 : Int) (a1 : Int) (a2 : Int) (a3 : Int) (a4 : Int) (a5 : Bool) : Option (Bool) := if a0 < (-2097152) then (coraclelaw16_CurveLines.j0 k a0 a1 a2 a3 a4 a5 true) else (if a0 > 2097152 then (coraclelaw16_CurveLines.j0 k a0 a1 a2 a3 a4 a5 true) else (if a2 < (-2097152) then (coraclelaw16_CurveLines.j0 k a0 a1 a2 a3 a4 a5 true) else (if a2 > 2097152 then (coraclelaw16_CurveLines.j0 k a0 a1 a2 a3 a4 a5 true) else (if a1 < (-2147483648) then (coraclelaw16_CurveLines.j0 k a0 a1 a2 a3 a4 a5 true) else (if a1 > 2147483648 then (coraclelaw16_CurveLines.j0 k a0 a1 a2 a3 a4 a5 true) else (if a3 < (-2147483648) then (coraclelaw16_CurveLines.j0 k a0 a1 a2 a3 a4 a5 true) else (coraclelaw16_CurveLines.j0 k a0 a1 a2 a3 a4 a5 (decide (a3 > 2147483648)))))))))
theorem coraclelaw16_CurveLines.mono_l : ∀ k, (∀ y0 y1 y2 y3 y4 y5 y6, LeO (coraclelaw16_CurveLines.j0 k y0 y1 y2 y3 y4 y5 y6) (coraclelaw16_CurveLines.j0 (k + 1) y0 y1 y2 y3 y4 y5 y6)) ∧ (∀ y0 y1 y2 y3 y4 y5 y6 y7, LeO (coraclelaw16_CurveLines.j1 k y0 y1 y2 y3 y4 y5 y6 y7) (coraclelaw16_CurveLines.j1 (k + 1) y0 y1 y2 y3 y4 y5 y6 y7)) ∧ (∀ y0 y1 y2 y3 y4 y5 y6 y7 y8 y9 y10, LeO (coraclelaw16_CurveLines.j2 k y0 y1 y2 y3 y4 y5 y6 y7 y8 y9 y10) (coraclelaw16_CurveLines.j2 (k + 1) y0 y1 y2 y3 y4 y5 y6 y7 y8 y9 y10))
  | 0 => ⟨fun _ _ _ _ _ _ _ r h => by simp [coraclelaw16_CurveLines.j0] at h, fun _ _ _ _ _ _ _ _ r h => by simp [coraclelaw16_CurveLines.j1] at h, fun _ _ _ _ _ _ _ _ _ _ _ r h => by simp [coraclelaw16_CurveLines.j2] at h⟩
  | k + 1 => by
    obtain ⟨ih0, ih1, ih2⟩ := coraclelaw16_CurveLines.mono_l k
    refine ⟨?_, ?_, ?_⟩
    · intro y0 y1 y2 y3 y4 y5 y6
      unfold coraclelaw16_CurveLines.j0
      repeat' first
      | (with_reducible exact ih0 _ _ _ _ _ _ _)
      | (with_reducible exact ih1 _ _ _ _ _ _ _ _)
      | (with_reducible exact ih2 _ _ _ _ _ _ _ _ _ _ _)
      | (with_reducible exact coraclelaw16_awake.mono _)
      | (with_reducible exact coracleref1_At.mono _ _ _ _ _ _)
      | (with_reducible exact LeO.refl _)
      | (with_reducible exact LeO.none _)
      | (with_reducible refine LeO.ite ?_ ?_)
      | (with_reducible refine LeO.bind ?_ (fun _ => ?_))
      | exact ih0 _ _ _ _ _ _ _
      | exact ih1 _ _ _ _ _ _ _ _
      | exact ih2 _ _ _ _ _ _ _ _ _ _ _
      | exact coraclelaw16_awake.mono _
      | exact coracleref1_At.mono _ _ _ _ _ _
      | exact LeO.none _
      | refine LeO.ite ?_ ?_
      | refine LeO.bind ?_ (fun _ => ?_)
    · intro y0 y1 y2 y3 y4 y5 y6 y7
      unfold coraclelaw16_CurveLines.j1
      repeat' first
      | (with_reducible exact ih0 _ _ _ _ _ _ _)
      | (with_reducible exact ih1 _ _ _ _ _ _ _ _)
      | (with_reducible exact ih2 _ _ _ _ _ _ _ _ _ _ _)
      | (with_reducible exact coraclelaw16_awake.mono _)
      | (with_reducible exact coracleref1_At.mono _ _ _ _ _ _)
      | (with_reducible exact LeO.refl _)
      | (with_reducible exact LeO.none _)
      | (with_reducible refine LeO.ite ?_ ?_)
      | (with_reducible refine LeO.bind ?_ (fun _ => ?_))
      | exact ih0 _ _ _ _ _ _ _
      | exact ih1 _ _ _ _ _ _ _ _
      | exact ih2 _ _ _ _ _ _ _ _ _ _ _
      | exact coraclelaw16_awake.mono _
      | exact coracleref1_At.mono _ _ _ _ _ _
      | exact LeO.none _
      | refine LeO.ite ?_ ?_
      | refine LeO.bind ?_ (fun _ => ?_)
    · intro y0 y1 y2 y3 y4 y5 y6 y7 y8 y9 y10
      unfold coraclelaw16_CurveLines.j2
      repeat' first
      | (with_reducible exact ih0 _ _ _ _ _ _ _)
      | (with_reducible exact ih1 _ _ _ _ _ _ _ _)
      | (with_reducible exact ih2 _ _ _ _ _ _ _ _ _ _ _)
      | (with_reducible exact coraclelaw16_awake.mono _)
      | (with_reducible exact coracleref1_At.mono _ _ _ _ _ _)
      | (with_reducible exact LeO.refl _)
      | (with_reducible exact LeO.none _)
      | (with_reducible refine LeO.ite ?_ ?_)
      | (with_reducible refine LeO.bind ?_ (fun _ => ?_))
      | exact ih0 _ _ _ _ _ _ _
      | exact ih1 _ _ _ _ _ _ _ _
      | exact ih2 _ _ _ _ _ _ _ _ _ _ _
      | exact coraclelaw16_awake.mono _
      | exact coracleref1_At.mono _ _ _ _ _ _
      | exact LeO.none _
      | refine LeO.ite ?_ ?_
      | refine LeO.bind ?_ (fun _ => ?_)
theorem coraclelaw16_CurveLines.mono : ∀ a0 a1 a2 a3 a4 a5 k, LeO (coraclelaw16_CurveLines.f k a0 a1 a2 a3 a4 a5) (coraclelaw16_CurveLines.f (k + 1) a0 a1 a2 a3 a4 a5) := by
  intro a0 a1 a2 a3 a4 a5 k
  obtain ⟨ih0, ih1, ih2⟩ := coraclelaw16_CurveLines.mono_l k
  unfold coraclelaw16_CurveLines.f
  repeat' first
      | (with_reducible exact ih0 _ _ _ _ _ _ _)
      | (with_reducible exact ih1 _ _ _ _ _ _ _ _)
      | (with_reducible exact ih2 _ _ _ _ _ _ _ _ _ _ _)
      | (with_reducible exact coraclelaw16_awake.mono _)
      | (with_reducible exact coracleref1_At.mono _ _ _ _ _ _)
      | (with_reducible exact LeO.refl _)
      | (with_reducible exact LeO.none _)
      | (with_reducible refine LeO.ite ?_ ?_)
      | (with_reducible refine LeO.bind ?_ (fun _ => ?_))
      | exact ih0 _ _ _ _ _ _ _
      | exact ih1 _ _ _ _ _ _ _ _
      | exact ih2 _ _ _ _ _ _ _ _ _ _ _
      | exact coraclelaw16_awake.mono _
      | exact coracleref1_At.mono _ _ _ _ _ _
      | exact LeO.none _
      | refine LeO.ite ?_ ?_
      | refine LeO.bind ?_ (fun _ => ?_)
set_option maxHeartbeats 8000000 in
set_option maxRecDepth 100000 in
theorem coraclelaw16_CurveLines.calls (k : Nat) (a0 : Int) (a1 : Int) (a2 : Int) (a3 : Int) (a4 : Int) (a5 : Bool) (r : Bool) (w : World) (h : coraclelaw16_CurveLines.f k a0 a1 a2 a3 a4 a5 = some r) :
    Calls Try.prog 11 #[.int .i64 a0, .int .i64 a1, .int .i64 a2, .int .i64 a3, .int .i64 a4, .bool a5] w fun e w' => e = .returned (.bool r) ∧ Below w.heap.size w w' := by
  have hu51 := Try.underlying51
  have HB := Aside0.mk (Below.refl w.heap.size w)
  have H : (if a0 < (-2097152) then (coraclelaw16_CurveLines.j0 k a0 a1 a2 a3 a4 a5 true) else (if a0 > 2097152 then (coraclelaw16_CurveLines.j0 k a0 a1 a2 a3 a4 a5 true) else (if a2 < (-2097152) then (coraclelaw16_CurveLines.j0 k a0 a1 a2 a3 a4 a5 true) else (if a2 > 2097152 then (coraclelaw16_CurveLines.j0 k a0 a1 a2 a3 a4 a5 true) else (if a1 < (-2147483648) then (coraclelaw16_CurveLines.j0 k a0 a1 a2 a3 a4 a5 true) else (if a1 > 2147483648 then (coraclelaw16_CurveLines.j0 k a0 a1 a2 a3 a4 a5 true) else (if a3 < (-2147483648) then (coraclelaw16_CurveLines.j0 k a0 a1 a2 a3 a4 a5 true) else (coraclelaw16_CurveLines.j0 k a0 a1 a2 a3 a4 a5 (decide (a3 > 2147483648)))))))))) = some r := h
  clear h
  have HC7 := Aside0.mk H
  clear H
  go_enter Try.func11, Try.ntmps11
  go_upto_region 1 with (fail)
  go_cut [47] (fun v47 wc => ∃ (kq : Nat) (x47_6 : Bool), v47 = .bool x47_6 ∧ Aside0 (coraclelaw16_CurveLines.j0 kq a0 a1 a2 a3 a4 a5 x47_6 = some r) ∧ Aside0 (kq ≤ k) ∧ Aside0 (Below w.heap.size w wc))
  case first =>
    have H := HC7.out
    clear HC7
    by_cases c8 : a0 < (-2097152)
    · rw [if_pos c8] at H
      have c8b0 : decide (a0 < (-2097152)) = true := decide_eq_true c8
      clear c8
      (first | rw [c8b0] | (simp only [i64_w, i32_w]; rw [c8b0]) | skip)
      have H' := Aside0.mk H
      clear H
      go_wp2
      go_meet
      case rel => exact ⟨_, (true), (by first | rfl | (simp; done) | (simp [*]; done)), H', ⟨by first | omega | exact Nat.le_refl _⟩, ⟨by repeat (first | (with_reducible first | exact HB.out | apply below_alloc | apply pw_below_drewN | apply below_drew1) | exact HB.out)⟩⟩
    · rw [if_neg c8] at H
      have c8b0 : decide (a0 < (-2097152)) = false := decide_eq_false c8
      clear c8
      (first | rw [c8b0] | (simp only [i64_w, i32_w]; rw [c8b0]) | skip)
      by_cases c9 : a0 > 2097152
      · rw [if_pos c9] at H
        have c9b0 : decide (2097152 < a0) = true := decide_eq_true c9
        clear c9
        have H' := Aside0.mk H
        clear H
        go_wp2
        go_meet
        case rel => exact ⟨_, (true), (by first | rfl | (simp; done) | (simp [*]; done)), H', ⟨by first | omega | exact Nat.le_refl _⟩, ⟨by repeat (first | (with_reducible first | exact HB.out | apply below_alloc | apply pw_below_drewN | apply below_drew1) | exact HB.out)⟩⟩
      · rw [if_neg c9] at H
        have c9b0 : decide (2097152 < a0) = false := decide_eq_false c9
        clear c9
        by_cases c10 : a2 < (-2097152)
        · rw [if_pos c10] at H
          have c10b0 : decide (a2 < (-2097152)) = true := decide_eq_true c10
          clear c10
          have H' := Aside0.mk H
          clear H
          go_wp2
          go_meet
          case rel => exact ⟨_, (true), (by first | rfl | (simp; done) | (simp [*]; done)), H', ⟨by first | omega | exact Nat.le_refl _⟩, ⟨by repeat (first | (with_reducible first | exact HB.out | apply below_alloc | apply pw_below_drewN | apply below_drew1) | exact HB.out)⟩⟩
        · rw [if_neg c10] at H
          have c10b0 : decide (a2 < (-2097152)) = false := decide_eq_false c10
          clear c10
          by_cases c11 : a2 > 2097152
          · rw [if_pos c11] at H
            have c11b0 : decide (2097152 < a2) = true := decide_eq_true c11
            clear c11
            have H' := Aside0.mk H
            clear H
            go_wp2
            go_meet
            case rel => exact ⟨_, (true), (by first | rfl | (simp; done) | (simp [*]; done)), H', ⟨by first | omega | exact Nat.le_refl _⟩, ⟨by repeat (first | (with_reducible first | exact HB.out | apply below_alloc | apply pw_below_drewN | apply below_drew1) | exact HB.out)⟩⟩
          · rw [if_neg c11] at H
            have c11b0 : decide (2097152 < a2) = false := decide_eq_false c11
            clear c11
            by_cases c12 : a1 < (-2147483648)
            · rw [if_pos c12] at H
              have c12b0 : decide (a1 < (-2147483648)) = true := decide_eq_true c12
              clear c12
              have H' := Aside0.mk H
              clear H
              go_wp2
              go_meet
              case rel => exact ⟨_, (true), (by first | rfl | (simp; done) | (simp [*]; done)), H', ⟨by first | omega | exact Nat.le_refl _⟩, ⟨by repeat (first | (with_reducible first | exact HB.out | apply below_alloc | apply pw_below_drewN | apply below_drew1) | exact HB.out)⟩⟩
            · rw [if_neg c12] at H
              have c12b0 : decide (a1 < (-2147483648)) = false := decide_eq_false c12
              clear c12
              by_cases c13 : a1 > 2147483648
              · rw [if_pos c13] at H
                have c13b0 : decide (2147483648 < a1) = true := decide_eq_true c13
                clear c13
                have H' := Aside0.mk H
                clear H
                go_wp2
                go_meet
                case rel => exact ⟨_, (true), (by first | rfl | (simp; done) | (simp [*]; done)), H', ⟨by first | omega | exact Nat.le_refl _⟩, ⟨by repeat (first | (with_reducible first | exact HB.out | apply below_alloc | apply pw_below_drewN | apply below_drew1) | exact HB.out)⟩⟩
              · rw [if_neg c13] at H
                have c13b0 : decide (2147483648 < a1) = false := decide_eq_false c13
                clear c13
                by_cases c14 : a3 < (-2147483648)
                · rw [if_pos c14] at H
                  have c14b0 : decide (a3 < (-2147483648)) = true := decide_eq_true c14
                  clear c14
                  have H' := Aside0.mk H
                  clear H
                  go_wp2
                  go_meet
                  case rel => exact ⟨_, (true), (by first | rfl | (simp; done) | (simp [*]; done)), H', ⟨by first | omega | exact Nat.le_refl _⟩, ⟨by repeat (first | (with_reducible first | exact HB.out | apply below_alloc | apply pw_below_drewN | apply below_drew1) | exact HB.out)⟩⟩
                · rw [if_neg c14] at H
                  have c14b0 : decide (a3 < (-2147483648)) = false := decide_eq_false c14
                  clear c14
                  have H' := Aside0.mk H
                  clear H
                  go_wp2
                  go_meet
                  case rel => exact ⟨_, (decide (a3 > 2147483648)), (by first | rfl | (simp; done) | (simp [*]; done)), H', ⟨by first | omega | exact Nat.le_refl _⟩, ⟨by repeat (first | (with_reducible first | exact HB.out | apply below_alloc | apply pw_below_drewN | apply below_drew1) | exact HB.out)⟩⟩
  case rest =>
    clear HC7
    try clear c1
    try clear p2
    try clear c8
    try clear c8b0
    try clear c9
    try clear c9b0
    try clear c10
    try clear c10b0
    try clear c11
    try clear c11b0
    try clear c12
    try clear c12b0
    try clear c13
    try clear c13b0
    try clear c14
    try clear c14b0
    obtain ⟨kq, x47_6, rfl, HA, HJ6, HB⟩ := hcut
    cases kq with
    | zero => exact absurd HA.out (by simp [coraclelaw16_CurveLines.j0])
    | succ kj6 =>
      have H := HA.out
      clear HA
      simp only [coraclelaw16_CurveLines.j0] at H
      by_cases c15 : x47_6 = true
      · subst c15
        have H1 : ((coraclelaw16_awake.f kj6).bind fun t140 => (some t140)) = some r := by rw [if_pos rfl] at H; exact H
        clear H
        have H := H1
        clear H1
        replace H := Option.bind_eq_some_iff.mp H
        obtain ⟨t140, A160, H⟩ := H
        replace H : (some t140) = some r := H
        have A16 := Aside0.mk A160
        clear A160
        obtain rfl := Option.some.inj H
        go_wp2_with (first | ((with_reducible refine gate_callee (f := 37) rfl ?_); refine goesL_ (some 48) rfl rfl Try.func37 (by kernel_rfl) rfl #[] rfl (by (try simp only [List.map_toArray, List.map_cons, List.map_nil]); first | done | rfl | (simp only [List.length_drop, List.length_take]; rfl)) ?_; (with_reducible refine (coraclelaw16_awake.calls kj6  t140 _ A16.out).mono ?_); rintro e w17 ⟨rfl, hb⟩; refine ⟨_, rfl, ?_⟩; have n0_ := Aside0.mk (below_step (by repeat (first | (with_reducible first | exact HB.out | apply below_alloc | apply pw_below_drewN | apply below_drew1) | exact HB.out)) hb); clear HB; have HB := n0_; clear n0_; (try clear hb); (try clear hb2); (try clear hk); (try clear hi)))
        go_ret
        exact ⟨by first | rfl | (simp [errW_none, errW_some] <;> rfl) | (simp [*, errW_none, errW_some] <;> rfl), by repeat (first | (with_reducible first | exact HB.out | apply below_alloc | apply pw_below_drewN | apply below_drew1) | exact HB.out)⟩
      · replace c15 := Bool.eq_false_iff.mpr c15
        subst c15
        have H1 : (if a5 = true then (if fok .add (fint a0) 4602678819172646912 = true then (coraclelaw16_CurveLines.j1 kj6 a0 a1 a2 a3 a4 a5 (⟨(fop .add (fint a0) 4602678819172646912), (fint a1)⟩ : C128) (⟨(fint a2), (fint a3)⟩ : C128)) else (none)) else (coraclelaw16_CurveLines.j1 kj6 a0 a1 a2 a3 a4 a5 (⟨(fint a0), (fint a1)⟩ : C128) (⟨(fint a2), (fint a3)⟩ : C128))) = some r := by rw [if_neg (show ¬ (false = true) by decide)] at H; exact H
        clear H
        have H := H1
        clear H1
        have HC18 := Aside0.mk H
        clear H
        go_upto_if 59 with (fail)
        go_cut [13] (fun v13 wc => ∃ (kq : Nat) (x13_17 : C128), v13 = .complex .f64 x13_17.re x13_17.im ∧ Aside0 (coraclelaw16_CurveLines.j1 kq a0 a1 a2 a3 a4 a5 x13_17 (⟨(fint a2), (fint a3)⟩ : C128) = some r) ∧ Aside0 (kq ≤ kj6) ∧ Aside0 (Below w.heap.size w wc))
        case first =>
          have H := HC18.out
          clear HC18
          by_cases c19 : a5 = true
          · subst c19
            have H1 : (if fok .add (fint a0) 4602678819172646912 = true then (coraclelaw16_CurveLines.j1 kj6 a0 a1 a2 a3 a4 true (⟨(fop .add (fint a0) 4602678819172646912), (fint a1)⟩ : C128) (⟨(fint a2), (fint a3)⟩ : C128)) else (none)) = some r := by rw [if_pos rfl] at H; exact H
            clear H
            have H := H1
            clear H1
            by_cases c20 : fok .add (fint a0) 4602678819172646912 = true
            · rw [if_pos c20] at H
              have c20b0 : fok .add (fint a0) 4602678819172646912 = true := c20
              clear c20
              (first | rw [c20b0] | (simp only [i64_w, i32_w]; rw [c20b0]) | skip)
              have H' := Aside0.mk H
              clear H
              go_wp2
              go_meet
              case rel => exact ⟨_, ((⟨(fop .add (fint a0) 4602678819172646912), (fint a1)⟩ : C128)), (by first | rfl | (simp; done) | (simp [*]; done)), H', ⟨by have := HJ6.out; first | omega | exact Nat.le_refl _⟩, ⟨by repeat (first | (with_reducible first | exact HB.out | apply below_alloc | apply pw_below_drewN | apply below_drew1) | exact HB.out)⟩⟩
            · rw [if_neg c20] at H
              exact absurd H (by simp)
          · replace c19 := Bool.eq_false_iff.mpr c19
            subst c19
            have H1 : (coraclelaw16_CurveLines.j1 kj6 a0 a1 a2 a3 a4 false (⟨(fint a0), (fint a1)⟩ : C128) (⟨(fint a2), (fint a3)⟩ : C128)) = some r := by rw [if_neg (show ¬ (false = true) by decide)] at H; exact H
            clear H
            have H := H1
            clear H1
            have H' := Aside0.mk H
            clear H
            go_wp2
            go_meet
            case rel => exact ⟨_, ((⟨(fint a0), (fint a1)⟩ : C128)), (by first | rfl | (simp; done) | (simp [*]; done)), H', ⟨by have := HJ6.out; first | omega | exact Nat.le_refl _⟩, ⟨by repeat (first | (with_reducible first | exact HB.out | apply below_alloc | apply pw_below_drewN | apply below_drew1) | exact HB.out)⟩⟩
        case rest =>
          clear HC18
          try clear c1
          try clear c2
          try clear p2
          try clear c3
          try clear c8
          try clear c8b0
          try clear c9
          try clear c9b0
          try clear c10
          try clear c10b0
          try clear c11
          try clear c11b0
          try clear c12
          try clear c12b0
          try clear c13
          try clear c13b0
          try clear c14
          try clear c14b0
          try clear c15
          try clear c19
          try clear c20
          try clear c20b0
          try clear p2
          obtain ⟨kq, x13_17, rfl, HA, HJ17, HB⟩ := hcut
          cases kq with
          | zero => exact absurd HA.out (by simp [coraclelaw16_CurveLines.j1])
          | succ kj17 =>
            have H := HA.out
            clear HA
            simp only [coraclelaw16_CurveLines.j1] at H
            replace H := Option.bind_eq_some_iff.mp H
            obtain ⟨⟨t141, t142, t143⟩, A210, H⟩ := H
            replace H : (if a5 = true then (coraclelaw16_CurveLines.j2 kj17 a0 a1 a2 a3 a4 x13_17 (⟨(fint a2), (fint a3)⟩ : C128) t143 false t141 t142) else (if a0 ≥ 0 then (if a2 ≤ 1000000 then (if a0 ≤ a2 then (if a1 ≥ 253 then (if a3 ≤ 1000000000 then (coraclelaw16_CurveLines.j2 kj17 a0 a1 a2 a3 a4 x13_17 (⟨(fint a2), (fint a3)⟩ : C128) t143 (decide (a1 ≤ a3)) t141 t142) else (coraclelaw16_CurveLines.j2 kj17 a0 a1 a2 a3 a4 x13_17 (⟨(fint a2), (fint a3)⟩ : C128) t143 false t141 t142)) else (coraclelaw16_CurveLines.j2 kj17 a0 a1 a2 a3 a4 x13_17 (⟨(fint a2), (fint a3)⟩ : C128) t143 false t141 t142)) else (coraclelaw16_CurveLines.j2 kj17 a0 a1 a2 a3 a4 x13_17 (⟨(fint a2), (fint a3)⟩ : C128) t143 false t141 t142)) else (coraclelaw16_CurveLines.j2 kj17 a0 a1 a2 a3 a4 x13_17 (⟨(fint a2), (fint a3)⟩ : C128) t143 false t141 t142)) else (coraclelaw16_CurveLines.j2 kj17 a0 a1 a2 a3 a4 x13_17 (⟨(fint a2), (fint a3)⟩ : C128) t143 false t141 t142))) = some r := H
            have A21 := Aside0.mk A210
            clear A210
            have HC22 := Aside0.mk H
            clear H
            go_upto_region 7 with (first | ((with_reducible refine gate_callee (f := 38) rfl ?_); refine goesL_ (some 69) rfl rfl Try.func38 (by kernel_rfl) rfl #[.complex .f64 x13_17.re x13_17.im, .complex .f64 (fint a2) (fint a3)] rfl (by (try simp only [List.map_toArray, List.map_cons, List.map_nil]); first | done | rfl | (simp only [List.length_drop, List.length_take]; rfl)) ?_; (with_reducible refine (curve_Line.calls x13_17 (⟨(fint a2), (fint a3)⟩ : C128) t141 t142 t143 _ A21.out).mono ?_); rintro e w23 ⟨rfl, hb⟩; refine ⟨_, rfl, ?_⟩; have n0_ := Aside0.mk (below_step (by repeat (first | (with_reducible first | exact HB.out | apply below_alloc | apply pw_below_drewN | apply below_drew1) | exact HB.out)) hb); clear HB; have HB := n0_; clear n0_; (try clear hb); (try clear hb2); (try clear hk); (try clear hi)) | ((with_reducible refine gate_dst (N := 15) rfl ?_); refine box_event ?hg (N := 15) ?hd (cs := #[.complex .f64 0 0, .complex .f64 0 0]) (t := 51) ?hr ?_; (case hd => rfl); (case hg => rfl); (case hr => first | (go_simp; done) | (go_simp; rfl)); intro gb144 hg w24 hbox hb; have n0_ := Aside0.mk (below_step (by repeat (first | (with_reducible first | exact HB.out | apply below_alloc | apply pw_below_drewN | apply below_drew1) | exact HB.out)) hb); have n1_ := Aside0.mk (hbox); have n2_ := Aside0.mk ((by rw [hg]; exact (below_size (by repeat (first | (with_reducible first | exact HB.out | apply below_alloc | apply pw_below_drewN | apply below_drew1) | exact HB.out))) : w.heap.size ≤ gb144)); have n3_ := Aside0.mk ((by rw [hg]; exact (below_size (by repeat (first | (with_reducible first | exact HB.out | apply below_alloc | apply pw_below_drewN | apply below_drew1) | exact HB.out))) : w.heap.size ≤ gb144)); clear HB; have HB := n0_; have BK144 := n1_; have GW144 := n2_; have GE144 := n3_; clear n0_ n1_ n2_ n3_; clear hb hbox hg; have hcz25_0 : w24.cell? ⟨gb144, 0, none⟩ = some (.complex .f64 0 0) := (blk_cell BK144.out 0).trans rfl; have hcz25_1 : w24.cell? ⟨gb144, 1, none⟩ = some (.complex .f64 0 0) := (blk_cell BK144.out 1).trans rfl; have hfz25_0 := blk_frozen BK144.out 0; have hfz25_1 := blk_frozen BK144.out 1))
            (try simp only [Act.put, List.setIfInBounds_toArray, List.set_cons_zero, List.set_cons_succ])
            go_cut [17] (fun v17 wc => ∃ (kq : Nat) (x17_21 : Bool), v17 = .bool x17_21 ∧ Aside0 (coraclelaw16_CurveLines.j2 kq a0 a1 a2 a3 a4 x13_17 (⟨(fint a2), (fint a3)⟩ : C128) t143 x17_21 t141 t142 = some r) ∧ Aside0 (kq ≤ kj17) ∧ Aside0 (wc.heap[gb144]? = some (.cells #[.complex .f64 t141.re t141.im, .complex .f64 t142.re t142.im] 51 (0, 0))) ∧ Aside0 (Below w.heap.size w wc))
            case first =>
              have H := HC22.out
              clear HC22
              by_cases c26 : a5 = true
              · subst c26
                have H1 : (coraclelaw16_CurveLines.j2 kj17 a0 a1 a2 a3 a4 x13_17 (⟨(fint a2), (fint a3)⟩ : C128) t143 false t141 t142) = some r := by rw [if_pos rfl] at H; exact H
                clear H
                have H := H1
                clear H1
                have H' := Aside0.mk H
                clear H
                go_wp2
                go_meet
                case rel => exact ⟨_, (false), (by first | rfl | (simp; done) | (simp [*]; done)), H', ⟨by have := HJ6.out; have := HJ17.out; first | omega | exact Nat.le_refl _⟩, ⟨by (with_reducible repeat (first | refine blk_drewN ?_ _ | refine blk_drew ?_ | refine blk_alloc ?_ _)); refine blk_put (cs := #[.complex .f64 t141.re t141.im, .complex .f64 0 0]) ?_ 1 _ rfl; (with_reducible repeat (first | refine blk_drewN ?_ _ | refine blk_drew ?_ | refine blk_alloc ?_ _)); refine blk_put (cs := #[.complex .f64 0 0, .complex .f64 0 0]) ?_ 0 _ rfl; (with_reducible repeat (first | refine blk_drewN ?_ _ | refine blk_drew ?_ | refine blk_alloc ?_ _)); exact BK144.out⟩, ⟨by repeat (first | (with_reducible first | exact HB.out | apply below_alloc | apply pw_below_drewN | apply below_drew1 | refine below_set ?_ GE144.out) | exact HB.out)⟩⟩
              · replace c26 := Bool.eq_false_iff.mpr c26
                subst c26
                have H1 : (if a0 ≥ 0 then (if a2 ≤ 1000000 then (if a0 ≤ a2 then (if a1 ≥ 253 then (if a3 ≤ 1000000000 then (coraclelaw16_CurveLines.j2 kj17 a0 a1 a2 a3 a4 x13_17 (⟨(fint a2), (fint a3)⟩ : C128) t143 (decide (a1 ≤ a3)) t141 t142) else (coraclelaw16_CurveLines.j2 kj17 a0 a1 a2 a3 a4 x13_17 (⟨(fint a2), (fint a3)⟩ : C128) t143 false t141 t142)) else (coraclelaw16_CurveLines.j2 kj17 a0 a1 a2 a3 a4 x13_17 (⟨(fint a2), (fint a3)⟩ : C128) t143 false t141 t142)) else (coraclelaw16_CurveLines.j2 kj17 a0 a1 a2 a3 a4 x13_17 (⟨(fint a2), (fint a3)⟩ : C128) t143 false t141 t142)) else (coraclelaw16_CurveLines.j2 kj17 a0 a1 a2 a3 a4 x13_17 (⟨(fint a2), (fint a3)⟩ : C128) t143 false t141 t142)) else (coraclelaw16_CurveLines.j2 kj17 a0 a1 a2 a3 a4 x13_17 (⟨(fint a2), (fint a3)⟩ : C128) t143 false t141 t142)) = some r := by rw [if_neg (show ¬ (false = true) by decide)] at H; exact H
                clear H
                have H := H1
                clear H1
                by_cases c27 : a0 ≥ 0
                · rw [if_pos c27] at H
                  have c27b0 : decide (0 ≤ a0) = true := decide_eq_true c27
                  clear c27
                  (first | rw [c27b0] | (simp only [i64_w, i32_w]; rw [c27b0]) | skip)
                  by_cases c28 : a2 ≤ 1000000
                  · rw [if_pos c28] at H
                    have c28b0 : decide (a2 ≤ 1000000) = true := decide_eq_true c28
                    clear c28
                    by_cases c29 : a0 ≤ a2
                    · rw [if_pos c29] at H
                      have c29b0 : decide (a0 ≤ a2) = true := decide_eq_true c29
                      clear c29
                      by_cases c30 : a1 ≥ 253
                      · rw [if_pos c30] at H
                        have c30b0 : decide (253 ≤ a1) = true := decide_eq_true c30
                        clear c30
                        by_cases c31 : a3 ≤ 1000000000
                        · rw [if_pos c31] at H
                          have c31b0 : decide (a3 ≤ 1000000000) = true := decide_eq_true c31
                          clear c31
                          have H' := Aside0.mk H
                          clear H
                          go_wp2
                          go_meet
                          case rel => exact ⟨_, (decide (a1 ≤ a3)), (by first | rfl | (simp; done) | (simp [*]; done)), H', ⟨by have := HJ6.out; have := HJ17.out; first | omega | exact Nat.le_refl _⟩, ⟨by (with_reducible repeat (first | refine blk_drewN ?_ _ | refine blk_drew ?_ | refine blk_alloc ?_ _)); refine blk_put (cs := #[.complex .f64 t141.re t141.im, .complex .f64 0 0]) ?_ 1 _ rfl; (with_reducible repeat (first | refine blk_drewN ?_ _ | refine blk_drew ?_ | refine blk_alloc ?_ _)); refine blk_put (cs := #[.complex .f64 0 0, .complex .f64 0 0]) ?_ 0 _ rfl; (with_reducible repeat (first | refine blk_drewN ?_ _ | refine blk_drew ?_ | refine blk_alloc ?_ _)); exact BK144.out⟩, ⟨by repeat (first | (with_reducible first | exact HB.out | apply below_alloc | apply pw_below_drewN | apply below_drew1 | refine below_set ?_ GE144.out) | exact HB.out)⟩⟩
                        · rw [if_neg c31] at H
                          have c31b0 : decide (a3 ≤ 1000000000) = false := decide_eq_false c31
                          clear c31
                          have H' := Aside0.mk H
                          clear H
                          go_wp2
                          go_meet
                          case rel => exact ⟨_, (false), (by first | rfl | (simp; done) | (simp [*]; done)), H', ⟨by have := HJ6.out; have := HJ17.out; first | omega | exact Nat.le_refl _⟩, ⟨by (with_reducible repeat (first | refine blk_drewN ?_ _ | refine blk_drew ?_ | refine blk_alloc ?_ _)); refine blk_put (cs := #[.complex .f64 t141.re t141.im, .complex .f64 0 0]) ?_ 1 _ rfl; (with_reducible repeat (first | refine blk_drewN ?_ _ | refine blk_drew ?_ | refine blk_alloc ?_ _)); refine blk_put (cs := #[.complex .f64 0 0, .complex .f64 0 0]) ?_ 0 _ rfl; (with_reducible repeat (first | refine blk_drewN ?_ _ | refine blk_drew ?_ | refine blk_alloc ?_ _)); exact BK144.out⟩, ⟨by repeat (first | (with_reducible first | exact HB.out | apply below_alloc | apply pw_below_drewN | apply below_drew1 | refine below_set ?_ GE144.out) | exact HB.out)⟩⟩
                      · rw [if_neg c30] at H
                        have c30b0 : decide (253 ≤ a1) = false := decide_eq_false c30
                        clear c30
                        have H' := Aside0.mk H
                        clear H
                        go_wp2
                        go_meet
                        case rel => exact ⟨_, (false), (by first | rfl | (simp; done) | (simp [*]; done)), H', ⟨by have := HJ6.out; have := HJ17.out; first | omega | exact Nat.le_refl _⟩, ⟨by (with_reducible repeat (first | refine blk_drewN ?_ _ | refine blk_drew ?_ | refine blk_alloc ?_ _)); refine blk_put (cs := #[.complex .f64 t141.re t141.im, .complex .f64 0 0]) ?_ 1 _ rfl; (with_reducible repeat (first | refine blk_drewN ?_ _ | refine blk_drew ?_ | refine blk_alloc ?_ _)); refine blk_put (cs := #[.complex .f64 0 0, .complex .f64 0 0]) ?_ 0 _ rfl; (with_reducible repeat (first | refine blk_drewN ?_ _ | refine blk_drew ?_ | refine blk_alloc ?_ _)); exact BK144.out⟩, ⟨by repeat (first | (with_reducible first | exact HB.out | apply below_alloc | apply pw_below_drewN | apply below_drew1 | refine below_set ?_ GE144.out) | exact HB.out)⟩⟩
                    · rw [if_neg c29] at H
                      have c29b0 : decide (a0 ≤ a2) = false := decide_eq_false c29
                      clear c29
                      have H' := Aside0.mk H
                      clear H
                      go_wp2
                      go_meet
                      case rel => exact ⟨_, (false), (by first | rfl | (simp; done) | (simp [*]; done)), H', ⟨by have := HJ6.out; have := HJ17.out; first | omega | exact Nat.le_refl _⟩, ⟨by (with_reducible repeat (first | refine blk_drewN ?_ _ | refine blk_drew ?_ | refine blk_alloc ?_ _)); refine blk_put (cs := #[.complex .f64 t141.re t141.im, .complex .f64 0 0]) ?_ 1 _ rfl; (with_reducible repeat (first | refine blk_drewN ?_ _ | refine blk_drew ?_ | refine blk_alloc ?_ _)); refine blk_put (cs := #[.complex .f64 0 0, .complex .f64 0 0]) ?_ 0 _ rfl; (with_reducible repeat (first | refine blk_drewN ?_ _ | refine blk_drew ?_ | refine blk_alloc ?_ _)); exact BK144.out⟩, ⟨by repeat (first | (with_reducible first | exact HB.out | apply below_alloc | apply pw_below_drewN | apply below_drew1 | refine below_set ?_ GE144.out) | exact HB.out)⟩⟩
                  · rw [if_neg c28] at H
                    have c28b0 : decide (a2 ≤ 1000000) = false := decide_eq_false c28
                    clear c28
                    have H' := Aside0.mk H
                    clear H
                    go_wp2
                    go_meet
                    case rel => exact ⟨_, (false), (by first | rfl | (simp; done) | (simp [*]; done)), H', ⟨by have := HJ6.out; have := HJ17.out; first | omega | exact Nat.le_refl _⟩, ⟨by (with_reducible repeat (first | refine blk_drewN ?_ _ | refine blk_drew ?_ | refine blk_alloc ?_ _)); refine blk_put (cs := #[.complex .f64 t141.re t141.im, .complex .f64 0 0]) ?_ 1 _ rfl; (with_reducible repeat (first | refine blk_drewN ?_ _ | refine blk_drew ?_ | refine blk_alloc ?_ _)); refine blk_put (cs := #[.complex .f64 0 0, .complex .f64 0 0]) ?_ 0 _ rfl; (with_reducible repeat (first | refine blk_drewN ?_ _ | refine blk_drew ?_ | refine blk_alloc ?_ _)); exact BK144.out⟩, ⟨by repeat (first | (with_reducible first | exact HB.out | apply below_alloc | apply pw_below_drewN | apply below_drew1 | refine below_set ?_ GE144.out) | exact HB.out)⟩⟩
                · rw [if_neg c27] at H
                  have c27b0 : decide (0 ≤ a0) = false := decide_eq_false c27
                  clear c27
                  (first | rw [c27b0] | (simp only [i64_w, i32_w]; rw [c27b0]) | skip)
                  have H' := Aside0.mk H
                  clear H
                  go_wp2
                  go_meet
                  case rel => exact ⟨_, (false), (by first | rfl | (simp; done) | (simp [*]; done)), H', ⟨by have := HJ6.out; have := HJ17.out; first | omega | exact Nat.le_refl _⟩, ⟨by (with_reducible repeat (first | refine blk_drewN ?_ _ | refine blk_drew ?_ | refine blk_alloc ?_ _)); refine blk_put (cs := #[.complex .f64 t141.re t141.im, .complex .f64 0 0]) ?_ 1 _ rfl; (with_reducible repeat (first | refine blk_drewN ?_ _ | refine blk_drew ?_ | refine blk_alloc ?_ _)); refine blk_put (cs := #[.complex .f64 0 0, .complex .f64 0 0]) ?_ 0 _ rfl; (with_reducible repeat (first | refine blk_drewN ?_ _ | refine blk_drew ?_ | refine blk_alloc ?_ _)); exact BK144.out⟩, ⟨by repeat (first | (with_reducible first | exact HB.out | apply below_alloc | apply pw_below_drewN | apply below_drew1 | refine below_set ?_ GE144.out) | exact HB.out)⟩⟩
            case rest =>
              clear HC22
              try clear c1
              try clear c2
              try clear p2
              try clear c3
              try clear c8
              try clear c8b0
              try clear c9
              try clear c9b0
              try clear c10
              try clear c10b0
              try clear c11
              try clear c11b0
              try clear c12
              try clear c12b0
              try clear c13
              try clear c13b0
              try clear c14
              try clear c14b0
              try clear c15
              try clear c19
              try clear c20
              try clear c20b0
              try clear c26
              try clear c27
              try clear c27b0
              try clear c28
              try clear c28b0
              try clear c29
              try clear c29b0
              try clear c30
              try clear c30b0
              try clear c31
              try clear c31b0
              try clear hcz25_0
              try clear hcz25_1
              try clear hfz25_0
              try clear hfz25_1
              try clear p2
              obtain ⟨kq, x17_21, rfl, HA, HJ21, BK144, HB⟩ := hcut
              cases kq with
              | zero => exact absurd HA.out (by simp [coraclelaw16_CurveLines.j2])
              | succ kj21 =>
                have H := HA.out
                clear HA
                simp only [coraclelaw16_CurveLines.j2] at H
                by_cases c32 : x17_21 = true
                · subst c32
                  have H1 : (if t143 = 0 then (if (ceq t141.re t141.im x13_17.re x13_17.im) = true then (if (ceq t142.re t142.im (⟨(fint a2), (fint a3)⟩ : C128).re (⟨(fint a2), (fint a3)⟩ : C128).im) = true then ((curve_Curve_At.f t141 t142 a4).bind fun t145 => ((coracleref1_At.f kj21 a0 a1 a2 a3 a4).bind fun t146 => (if t145 = t146 then ((coraclelaw16_awake.f kj21).bind fun t147 => (some t147)) else (some false)))) else (some false)) else (some false)) else (some false)) = some r := by rw [if_pos rfl] at H; exact H
                  clear H
                  have H := H1
                  clear H1
                  by_cases c33 : t143 = 0
                  · rw [if_pos c33] at H
                    have c33b0 : (t143 == 0) = true := beq_iff_eq.mpr c33
                    have c33b1 : (t143 != 0) = false := bne_eq_false_iff_eq.mpr c33
                    clear c33
                    by_cases c34 : (ceq t141.re t141.im x13_17.re x13_17.im) = true
                    · rw [if_pos c34] at H
                      have c34b0 : (ceq t141.re t141.im x13_17.re x13_17.im) = true := c34
                      clear c34
                      by_cases c35 : (ceq t142.re t142.im (⟨(fint a2), (fint a3)⟩ : C128).re (⟨(fint a2), (fint a3)⟩ : C128).im) = true
                      · rw [if_pos c35] at H
                        have c35b0 : (ceq t142.re t142.im (⟨(fint a2), (fint a3)⟩ : C128).re (⟨(fint a2), (fint a3)⟩ : C128).im) = true := c35
                        clear c35
                        replace H := Option.bind_eq_some_iff.mp H
                        obtain ⟨t145, A360, H⟩ := H
                        replace H : ((coracleref1_At.f kj21 a0 a1 a2 a3 a4).bind fun t146 => (if t145 = t146 then ((coraclelaw16_awake.f kj21).bind fun t147 => (some t147)) else (some false))) = some r := H
                        have A36 := Aside0.mk A360
                        clear A360
                        replace H := Option.bind_eq_some_iff.mp H
                        obtain ⟨t146, A370, H⟩ := H
                        replace H : (if t145 = t146 then ((coraclelaw16_awake.f kj21).bind fun t147 => (some t147)) else (some false)) = some r := H
                        have A37 := Aside0.mk A370
                        clear A370
                        by_cases c38 : t145 = t146
                        · rw [if_pos c38] at H
                          have c38b0 : (t145 == t146) = true := beq_iff_eq.mpr c38
                          have c38b1 : (t145 != t146) = false := bne_eq_false_iff_eq.mpr c38
                          clear c38
                          replace H := Option.bind_eq_some_iff.mp H
                          obtain ⟨t147, A390, H⟩ := H
                          replace H : (some t147) = some r := H
                          have A39 := Aside0.mk A390
                          clear A390
                          obtain rfl := Option.some.inj H
                          have hcz40_0 : wc.cell? ⟨gb144, 0, none⟩ = some (.complex .f64 t141.re t141.im) := (blk_cell BK144.out 0).trans rfl
                          have hcz40_1 : wc.cell? ⟨gb144, 1, none⟩ = some (.complex .f64 t142.re t142.im) := (blk_cell BK144.out 1).trans rfl
                          have hfz40_0 := blk_frozen BK144.out 0
                          have hfz40_1 := blk_frozen BK144.out 1
                          go_wp2_with (first | (go_at_call 39; (with_reducible refine (curve_Curve_At.calls t141 t142 a4 t145 _ A36.out).mono ?_); rintro e w41 ⟨rfl, hb⟩; have n0_ := Aside0.mk (blk_below (g := gb144) (o := .cells #[.complex .f64 t141.re t141.im, .complex .f64 t142.re t142.im] 51 (0, 0)) (by (with_reducible repeat (first | refine blk_drewN ?_ _ | refine blk_drew ?_ | refine blk_alloc ?_ _)); exact BK144.out) hb); have n1_ := Aside0.mk (below_step (by repeat (first | (with_reducible first | exact HB.out | apply below_alloc | apply pw_below_drewN | apply below_drew1 | refine below_set ?_ GE144.out) | exact HB.out)) hb); clear BK144; clear HB; have BK144 := n0_; have HB := n1_; clear n0_ n1_; (try clear hb); (try clear hb2); (try clear hk); (try clear hi)) | (go_at_call 40; (with_reducible refine (coracleref1_At.calls kj21 a0 a1 a2 a3 a4 t146 _ A37.out).mono ?_); rintro e w' ⟨rfl, ⟨nd, rfl⟩⟩) | (go_at_call 37; (with_reducible refine (coraclelaw16_awake.calls kj21  t147 _ A39.out).mono ?_); rintro e w42 ⟨rfl, hb⟩; have n0_ := Aside0.mk (blk_below (g := gb144) (o := .cells #[.complex .f64 t141.re t141.im, .complex .f64 t142.re t142.im] 51 (0, 0)) (by (with_reducible repeat (first | refine blk_drewN ?_ _ | refine blk_drew ?_ | refine blk_alloc ?_ _)); exact BK144.out) hb); have n1_ := Aside0.mk (below_step (by repeat (first | (with_reducible first | exact HB.out | apply below_alloc | apply pw_below_drewN | apply below_drew1 | refine below_set ?_ GE144.out) | exact HB.out)) hb); clear BK144; clear HB; have BK144 := n0_; have HB := n1_; clear n0_ n1_; (try clear hb); (try clear hb2); (try clear hk); (try clear hi)))
                          go_ret
                          exact ⟨by first | rfl | (simp [errW_none, errW_some] <;> rfl) | (simp [*, errW_none, errW_some] <;> rfl), by repeat (first | (with_reducible first | exact HB.out | apply below_alloc | apply pw_below_drewN | apply below_drew1 | refine below_set ?_ GE144.out) | exact HB.out)⟩
                        · rw [if_neg c38] at H
                          have c38b0 : (t145 == t146) = false := beq_eq_false_iff_ne.mpr c38
                          have c38b1 : (t145 != t146) = true := bne_iff_ne.mpr c38
                          obtain rfl := Option.some.inj H
                          have hcz43_0 : wc.cell? ⟨gb144, 0, none⟩ = some (.complex .f64 t141.re t141.im) := (blk_cell BK144.out 0).trans rfl
                          have hcz43_1 : wc.cell? ⟨gb144, 1, none⟩ = some (.complex .f64 t142.re t142.im) := (blk_cell BK144.out 1).trans rfl
                          have hfz43_0 := blk_frozen BK144.out 0
                          have hfz43_1 := blk_frozen BK144.out 1
                          go_wp2_with (first | (go_at_call 39; (with_reducible refine (curve_Curve_At.calls t141 t142 a4 t145 _ A36.out).mono ?_); rintro e w44 ⟨rfl, hb⟩; have n0_ := Aside0.mk (blk_below (g := gb144) (o := .cells #[.complex .f64 t141.re t141.im, .complex .f64 t142.re t142.im] 51 (0, 0)) (by (with_reducible repeat (first | refine blk_drewN ?_ _ | refine blk_drew ?_ | refine blk_alloc ?_ _)); exact BK144.out) hb); have n1_ := Aside0.mk (below_step (by repeat (first | (with_reducible first | exact HB.out | apply below_alloc | apply pw_below_drewN | apply below_drew1 | refine below_set ?_ GE144.out) | exact HB.out)) hb); clear BK144; clear HB; have BK144 := n0_; have HB := n1_; clear n0_ n1_; (try clear hb); (try clear hb2); (try clear hk); (try clear hi)) | (go_at_call 40; (with_reducible refine (coracleref1_At.calls kj21 a0 a1 a2 a3 a4 t146 _ A37.out).mono ?_); rintro e w' ⟨rfl, ⟨nd, rfl⟩⟩))
                          go_ret
                          exact ⟨by first | rfl | (simp [errW_none, errW_some] <;> rfl) | (simp [*, errW_none, errW_some] <;> rfl), by repeat (first | (with_reducible first | exact HB.out | apply below_alloc | apply pw_below_drewN | apply below_drew1 | refine below_set ?_ GE144.out) | exact HB.out)⟩
                      · rw [if_neg c35] at H
                        have c35b0 : (ceq t142.re t142.im (⟨(fint a2), (fint a3)⟩ : C128).re (⟨(fint a2), (fint a3)⟩ : C128).im) = false := by simpa using c35
                        clear c35
                        obtain rfl := Option.some.inj H
                        have hcz45_0 : wc.cell? ⟨gb144, 0, none⟩ = some (.complex .f64 t141.re t141.im) := (blk_cell BK144.out 0).trans rfl
                        have hcz45_1 : wc.cell? ⟨gb144, 1, none⟩ = some (.complex .f64 t142.re t142.im) := (blk_cell BK144.out 1).trans rfl
                        have hfz45_0 := blk_frozen BK144.out 0
                        have hfz45_1 := blk_frozen BK144.out 1
                        go_wp2
                        go_ret
                        exact ⟨by first | rfl | (simp [errW_none, errW_some] <;> rfl) | (simp [*, errW_none, errW_some] <;> rfl), by repeat (first | (with_reducible first | exact HB.out | apply below_alloc | apply pw_below_drewN | apply below_drew1 | refine below_set ?_ GE144.out) | exact HB.out)⟩
                    · rw [if_neg c34] at H
                      have c34b0 : (ceq t141.re t141.im x13_17.re x13_17.im) = false := by simpa using c34
                      clear c34
                      obtain rfl := Option.some.inj H
                      have hcz46_0 : wc.cell? ⟨gb144, 0, none⟩ = some (.complex .f64 t141.re t141.im) := (blk_cell BK144.out 0).trans rfl
                      have hcz46_1 : wc.cell? ⟨gb144, 1, none⟩ = some (.complex .f64 t142.re t142.im) := (blk_cell BK144.out 1).trans rfl
                      have hfz46_0 := blk_frozen BK144.out 0
                      have hfz46_1 := blk_frozen BK144.out 1
                      go_wp2
                      go_ret
                      exact ⟨by first | rfl | (simp [errW_none, errW_some] <;> rfl) | (simp [*, errW_none, errW_some] <;> rfl), by repeat (first | (with_reducible first | exact HB.out | apply below_alloc | apply pw_below_drewN | apply below_drew1 | refine below_set ?_ GE144.out) | exact HB.out)⟩
                  · rw [if_neg c33] at H
                    have c33b0 : (t143 == 0) = false := beq_eq_false_iff_ne.mpr c33
                    have c33b1 : (t143 != 0) = true := bne_iff_ne.mpr c33
                    obtain rfl := Option.some.inj H
                    go_wp2
                    go_ret
                    exact ⟨by first | rfl | (simp [errW_none, errW_some] <;> rfl) | (simp [*, errW_none, errW_some] <;> rfl), by repeat (first | (with_reducible first | exact HB.out | apply below_alloc | apply pw_below_drewN | apply below_drew1 | refine below_set ?_ GE144.out) | exact HB.out)⟩
                · replace c32 := Bool.eq_false_iff.mpr c32
                  subst c32
                  have H1 : (if t143 = 1 then (if (ceq t141.re t141.im 0 0 && (ceq t142.re t142.im 0 0)) = true then ((curve_Curve_At.f x13_17 (⟨(fint a2), (fint a3)⟩ : C128) a4).bind fun t148 => (if t148 = 0 then ((coraclelaw16_awake.f kj21).bind fun t149 => (some t149)) else (some false))) else (some false)) else (some false)) = some r := by rw [if_neg (show ¬ (false = true) by decide)] at H; exact H
                  clear H
                  have H := H1
                  clear H1
                  by_cases c47 : t143 = 1
                  · rw [if_pos c47] at H
                    have c47b0 : (t143 == 1) = true := beq_iff_eq.mpr c47
                    have c47b1 : (t143 != 1) = false := bne_eq_false_iff_eq.mpr c47
                    clear c47
                    by_cases c48 : (ceq t141.re t141.im 0 0 && (ceq t142.re t142.im 0 0)) = true
                    · rw [if_pos c48] at H
                      have c48b0 : (ceq t141.re t141.im 0 0 && (ceq t142.re t142.im 0 0)) = true := c48
                      clear c48
                      replace H := Option.bind_eq_some_iff.mp H
                      obtain ⟨t148, A490, H⟩ := H
                      replace H : (if t148 = 0 then ((coraclelaw16_awake.f kj21).bind fun t149 => (some t149)) else (some false)) = some r := H
                      have A49 := Aside0.mk A490
                      clear A490
                      by_cases c50 : t148 = 0
                      · rw [if_pos c50] at H
                        have c50b0 : (t148 == 0) = true := beq_iff_eq.mpr c50
                        have c50b1 : (t148 != 0) = false := bne_eq_false_iff_eq.mpr c50
                        clear c50
                        replace H := Option.bind_eq_some_iff.mp H
                        obtain ⟨t149, A510, H⟩ := H
                        replace H : (some t149) = some r := H
                        have A51 := Aside0.mk A510
                        clear A510
                        obtain rfl := Option.some.inj H
                        have hcz52_0 : wc.cell? ⟨gb144, 0, none⟩ = some (.complex .f64 t141.re t141.im) := (blk_cell BK144.out 0).trans rfl
                        have hcz52_1 : wc.cell? ⟨gb144, 1, none⟩ = some (.complex .f64 t142.re t142.im) := (blk_cell BK144.out 1).trans rfl
                        have hfz52_0 := blk_frozen BK144.out 0
                        have hfz52_1 := blk_frozen BK144.out 1
                        go_wp2_with (first | (go_at_call 39; (with_reducible refine (curve_Curve_At.calls x13_17 (⟨(fint a2), (fint a3)⟩ : C128) a4 t148 _ A49.out).mono ?_); rintro e w53 ⟨rfl, hb⟩; have n0_ := Aside0.mk (blk_below (g := gb144) (o := .cells #[.complex .f64 t141.re t141.im, .complex .f64 t142.re t142.im] 51 (0, 0)) (by (with_reducible repeat (first | refine blk_drewN ?_ _ | refine blk_drew ?_ | refine blk_alloc ?_ _)); exact BK144.out) hb); have n1_ := Aside0.mk (below_step (by repeat (first | (with_reducible first | exact HB.out | apply below_alloc | apply pw_below_drewN | apply below_drew1 | refine below_set ?_ GE144.out) | exact HB.out)) hb); clear BK144; clear HB; have BK144 := n0_; have HB := n1_; clear n0_ n1_; (try clear hb); (try clear hb2); (try clear hk); (try clear hi)) | (go_at_call 37; (with_reducible refine (coraclelaw16_awake.calls kj21  t149 _ A51.out).mono ?_); rintro e w54 ⟨rfl, hb⟩; have n0_ := Aside0.mk (blk_below (g := gb144) (o := .cells #[.complex .f64 t141.re t141.im, .complex .f64 t142.re t142.im] 51 (0, 0)) (by (with_reducible repeat (first | refine blk_drewN ?_ _ | refine blk_drew ?_ | refine blk_alloc ?_ _)); exact BK144.out) hb); have n1_ := Aside0.mk (below_step (by repeat (first | (with_reducible first | exact HB.out | apply below_alloc | apply pw_below_drewN | apply below_drew1 | refine below_set ?_ GE144.out) | exact HB.out)) hb); clear BK144; clear HB; have BK144 := n0_; have HB := n1_; clear n0_ n1_; (try clear hb); (try clear hb2); (try clear hk); (try clear hi)))
                        go_ret
                        exact ⟨by first | rfl | (simp [errW_none, errW_some] <;> rfl) | (simp [*, errW_none, errW_some] <;> rfl), by repeat (first | (with_reducible first | exact HB.out | apply below_alloc | apply pw_below_drewN | apply below_drew1 | refine below_set ?_ GE144.out) | exact HB.out)⟩
                      · rw [if_neg c50] at H
                        have c50b0 : (t148 == 0) = false := beq_eq_false_iff_ne.mpr c50
                        have c50b1 : (t148 != 0) = true := bne_iff_ne.mpr c50
                        obtain rfl := Option.some.inj H
                        have hcz55_0 : wc.cell? ⟨gb144, 0, none⟩ = some (.complex .f64 t141.re t141.im) := (blk_cell BK144.out 0).trans rfl
                        have hcz55_1 : wc.cell? ⟨gb144, 1, none⟩ = some (.complex .f64 t142.re t142.im) := (blk_cell BK144.out 1).trans rfl
                        have hfz55_0 := blk_frozen BK144.out 0
                        have hfz55_1 := blk_frozen BK144.out 1
                        go_wp2_with (first | (go_at_call 39; (with_reducible refine (curve_Curve_At.calls x13_17 (⟨(fint a2), (fint a3)⟩ : C128) a4 t148 _ A49.out).mono ?_); rintro e w56 ⟨rfl, hb⟩; have n0_ := Aside0.mk (blk_below (g := gb144) (o := .cells #[.complex .f64 t141.re t141.im, .complex .f64 t142.re t142.im] 51 (0, 0)) (by (with_reducible repeat (first | refine blk_drewN ?_ _ | refine blk_drew ?_ | refine blk_alloc ?_ _)); exact BK144.out) hb); have n1_ := Aside0.mk (below_step (by repeat (first | (with_reducible first | exact HB.out | apply below_alloc | apply pw_below_drewN | apply below_drew1 | refine below_set ?_ GE144.out) | exact HB.out)) hb); clear BK144; clear HB; have BK144 := n0_; have HB := n1_; clear n0_ n1_; (try clear hb); (try clear hb2); (try clear hk); (try clear hi)))
                        go_ret
                        exact ⟨by first | rfl | (simp [errW_none, errW_some] <;> rfl) | (simp [*, errW_none, errW_some] <;> rfl), by repeat (first | (with_reducible first | exact HB.out | apply below_alloc | apply pw_below_drewN | apply below_drew1 | refine below_set ?_ GE144.out) | exact HB.out)⟩
                    · rw [if_neg c48] at H
                      have c48b0 : (ceq t141.re t141.im 0 0 && (ceq t142.re t142.im 0 0)) = false := by simpa using c48
                      clear c48
                      obtain rfl := Option.some.inj H
                      have hcz57_0 : wc.cell? ⟨gb144, 0, none⟩ = some (.complex .f64 t141.re t141.im) := (blk_cell BK144.out 0).trans rfl
                      have hcz57_1 : wc.cell? ⟨gb144, 1, none⟩ = some (.complex .f64 t142.re t142.im) := (blk_cell BK144.out 1).trans rfl
                      have hfz57_0 := blk_frozen BK144.out 0
                      have hfz57_1 := blk_frozen BK144.out 1
                      go_wp2
                      go_ret
                      exact ⟨by first | rfl | (simp [errW_none, errW_some] <;> rfl) | (simp [*, errW_none, errW_some] <;> rfl), by repeat (first | (with_reducible first | exact HB.out | apply below_alloc | apply pw_below_drewN | apply below_drew1 | refine below_set ?_ GE144.out) | exact HB.out)⟩
                  · rw [if_neg c47] at H
                    have c47b0 : (t143 == 1) = false := beq_eq_false_iff_ne.mpr c47
                    have c47b1 : (t143 != 1) = true := bne_iff_ne.mpr c47
                    obtain rfl := Option.some.inj H
                    go_wp2
                    go_ret
                    exact ⟨by first | rfl | (simp [errW_none, errW_some] <;> rfl) | (simp [*, errW_none, errW_some] <;> rfl), by repeat (first | (with_reducible first | exact HB.out | apply below_alloc | apply pw_below_drewN | apply below_drew1 | refine below_set ?_ GE144.out) | exact HB.out)⟩

/-- THE ONE PURE STATEMENT of coraclelaw16_CurveLines: yours. -/
def coraclelaw16_CurveLines.Pure : Prop := ∀ (a0 : Int) (a1 : Int) (a2 : Int) (a3 : Int) (a4 : Int) (a5 : Bool), (Lit.int .i64 a0).wf = true → (Lit.int .i64 a1).wf = true → (Lit.int .i64 a2).wf = true → (Lit.int .i64 a3).wf = true → (Lit.int .i64 a4).wf = true → ∃ k, coraclelaw16_CurveLines.f k a0 a1 a2 a3 a4 a5 = some true
theorem coraclelaw16_CurveLines.walk (P : coraclelaw16_CurveLines.Pure) (a0 : Int) (a1 : Int) (a2 : Int) (a3 : Int) (a4 : Int) (a5 : Bool) (w : World) (w0 : (Lit.int .i64 a0).wf = true) (w1 : (Lit.int .i64 a1).wf = true) (w2 : (Lit.int .i64 a2).wf = true) (w3 : (Lit.int .i64 a3).wf = true) (w4 : (Lit.int .i64 a4).wf = true) :
    Calls Try.prog 11 #[.int .i64 a0, .int .i64 a1, .int .i64 a2, .int .i64 a3, .int .i64 a4, .bool a5] w fun e w' => e = .returned (.bool true) ∧ Below w.heap.size w w' := by
  obtain ⟨k, h⟩ := P a0 a1 a2 a3 a4 a5 w0 w1 w2 w3 w4
  refine (coraclelaw16_CurveLines.calls k a0 a1 a2 a3 a4 a5 true w h).mono ?_
  rintro e w' ⟨rfl, hd⟩
  exact ⟨rfl, hd⟩

end Go.Proofs.Ytfoahgdaigfhoaa.QCur
