/- Functions of the program as plain Lean functions, and that its calls come to what these tell: written by a program of this session; Lean checks it. -/
import Derived.Test.YtfoahgdaigfhoaaQCurx0
import Derived.Test.YtfoahgdaigfhoaaQCurx2
import Derived.Test.YtfoahgdaigfhoaaQCurx3
namespace Go.Proofs.Ytfoahgdaigfhoaa.QCur
open Go.RowKit Go.Proofs.Ytfoahgdaigfhoaa.Hand Go.Proofs.YtfoahgdaigfhoaaW.PrintWords Go.Proofs.YtfoahgdaigfhoaaW.PrintLast Go.Proofs.YtfoahgdaigfhoaaW.PrintMore
attribute [local go_sem] max2_int min2_int max_two min_two max_three min_three max_four min_four run_equalIn_c run_store_float run_store_complex run_fop run_feq run_fne run_flt run_fle run_fgt run_fge run_fint run_toi run_real' run_imag' run_complex' run_ceq run_cne run_cadd run_csub run_cmul
set_option linter.unusedVariables false
set_option linter.unusedSimpArgs false

/-! ### coraclelaw16_CurveRises: function 12 -/
mutual
def coraclelaw16_CurveRises.j0 : Nat → Int → Int → Int → Int → Int → Int → Bool → Option (Bool)
  | 0, _, _, _, _, _, _, _ => none
  | k + 1, x0, x1, x2, x3, x4, x5, x48 => if x48 = true then ((coraclelaw16_awake.f k).bind fun t150 => (some t150)) else ((curve_Line.f (⟨(fint x0), (fint x2)⟩ : C128) (⟨(fint (wrap64 (x0 + x1))), (fint (wrap64 (x2 + x3)))⟩ : C128)).bind fun bt151 => (if bt151.2.2 = 0 then (coraclelaw16_CurveRises.l0 k x0 x1 x2 x3 x4 x5 0 (-1) 0 bt151.1 bt151.2.1) else (some false)))
def coraclelaw16_CurveRises.l0 : Nat → Int → Int → Int → Int → Int → Int → Int → Int → Int → C128 → C128 → Option (Bool)
  | 0, _, _, _, _, _, _, _, _, _, _, _ => none
  | k + 1, x0, x1, x2, x3, x4, x5, x15, x16, x17, x155000, x155001 => if x17 ≤ (wrap64 ((wrap64 (x0 + x1)) + 3)) then ((curve_Curve_At.f x155000 x155001 x17).bind fun t159 => (if t159 < x15 then (some false) else (if x16 < 0 then (if t159 ≥ x4 then (coraclelaw16_CurveRises.l0 k x0 x1 x2 x3 x4 x5 t159 x17 (wrap64 (x17 + 1)) x155000 x155001) else (coraclelaw16_CurveRises.l0 k x0 x1 x2 x3 x4 x5 t159 x16 (wrap64 (x17 + 1)) x155000 x155001)) else (coraclelaw16_CurveRises.l0 k x0 x1 x2 x3 x4 x5 t159 x16 (wrap64 (x17 + 1)) x155000 x155001)))) else (if x15 = (wrap64 (x2 + x3)) then ((curve_First.f k x155000 x155001 x4).bind fun t155 => (if t155 = x16 then (if x5 < (wrap64 (x0 + x1)) then ((coraclelaw16_awake.f k).bind fun t156 => (some t156)) else ((curve_Curve_At.f x155000 x155001 x5).bind fun t157 => (if t157 = x15 then ((coraclelaw16_awake.f k).bind fun t158 => (some t158)) else (some false)))) else (some false))) else (some false))
end
def coraclelaw16_CurveRises.f (k : Nat) (a0 : Int) (a1 : Int) (a2 : Int) (a3 : Int) (a4 : Int) (a5 : Int) : Option (Bool) := if a0 < 0 then (coraclelaw16_CurveRises.j0 k a0 a1 a2 a3 a4 a5 true) else (if a0 > 1000 then (coraclelaw16_CurveRises.j0 k a0 a1 a2 a3 a4 a5 true) else (if a1 < 0 then (coraclelaw16_CurveRises.j0 k a0 a1 a2 a3 a4 a5 true) else (if a1 > 200 then (coraclelaw16_CurveRises.j0 k a0 a1 a2 a3 a4 a5 true) else (if a2 < 253 then (coraclelaw16_CurveRises.j0 k a0 a1 a2 a3 a4 a5 true) else (if a2 > 1048576 then (coraclelaw16_CurveRises.j0 k a0 a1 a2 a3 a4 a5 true) else (if a3 < 0 then (coraclelaw16_CurveRises.j0 k a0 a1 a2 a3 a4 a5 true) else (coraclelaw16_CurveRises.j0 k a0 a1 a2 a3 a4 a5 (decide (a3 > 1048576)))))))))
theorem coraclelaw16_CurveRises.mono_l : ∀ k, (∀ y0 y1 y2 y3 y4 y5 y6, LeO (coraclelaw16_CurveRises.j0 k y0 y1 y2 y3 y4 y5 y6) (coraclelaw16_CurveRises.j0 (k + 1) y0 y1 y2 y3 y4 y5 y6)) ∧ (∀ y0 y1 y2 y3 y4 y5 y6 y7 y8 y9 y10, LeO (coraclelaw16_CurveRises.l0 k y0 y1 y2 y3 y4 y5 y6 y7 y8 y9 y10) (coraclelaw16_CurveRises.l0 (k + 1) y0 y1 y2 y3 y4 y5 y6 y7 y8 y9 y10))
  | 0 => ⟨fun _ _ _ _ _ _ _ r h => by simp [coraclelaw16_CurveRises.j0] at h, fun _ _ _ _ _ _ _ _ _ _ _ r h => by simp [coraclelaw16_CurveRises.l0] at h⟩
  | k + 1 => by
    obtain ⟨ih0, ih1⟩ := coraclelaw16_CurveRises.mono_l k
    refine ⟨?_, ?_⟩
    · intro y0 y1 y2 y3 y4 y5 y6
      unfold coraclelaw16_CurveRises.j0
      repeat' first
      | (with_reducible exact ih0 _ _ _ _ _ _ _)
      | (with_reducible exact ih1 _ _ _ _ _ _ _ _ _ _ _)
      | (with_reducible exact coraclelaw16_awake.mono _)
      | (with_reducible exact curve_First.mono _ _ _ _)
      | (with_reducible exact LeO.refl _)
      | (with_reducible exact LeO.none _)
      | (with_reducible refine LeO.ite ?_ ?_)
      | (with_reducible refine LeO.bind ?_ (fun _ => ?_))
      | exact ih0 _ _ _ _ _ _ _
      | exact ih1 _ _ _ _ _ _ _ _ _ _ _
      | exact coraclelaw16_awake.mono _
      | exact curve_First.mono _ _ _ _
      | exact LeO.none _
      | refine LeO.ite ?_ ?_
      | refine LeO.bind ?_ (fun _ => ?_)
    · intro y0 y1 y2 y3 y4 y5 y6 y7 y8 y9 y10
      unfold coraclelaw16_CurveRises.l0
      repeat' first
      | (with_reducible exact ih0 _ _ _ _ _ _ _)
      | (with_reducible exact ih1 _ _ _ _ _ _ _ _ _ _ _)
      | (with_reducible exact coraclelaw16_awake.mono _)
      | (with_reducible exact curve_First.mono _ _ _ _)
      | (with_reducible exact LeO.refl _)
      | (with_reducible exact LeO.none _)
      | (with_reducible refine LeO.ite ?_ ?_)
      | (with_reducible refine LeO.bind ?_ (fun _ => ?_))
      | exact ih0 _ _ _ _ _ _ _
      | exact ih1 _ _ _ _ _ _ _ _ _ _ _
      | exact coraclelaw16_awake.mono _
      | exact curve_First.mono _ _ _ _
      | exact LeO.none _
      | refine LeO.ite ?_ ?_
      | refine LeO.bind ?_ (fun _ => ?_)
theorem coraclelaw16_CurveRises.mono : ∀ a0 a1 a2 a3 a4 a5 k, LeO (coraclelaw16_CurveRises.f k a0 a1 a2 a3 a4 a5) (coraclelaw16_CurveRises.f (k + 1) a0 a1 a2 a3 a4 a5) := by
  intro a0 a1 a2 a3 a4 a5 k
  obtain ⟨ih0, ih1⟩ := coraclelaw16_CurveRises.mono_l k
  unfold coraclelaw16_CurveRises.f
  repeat' first
      | (with_reducible exact ih0 _ _ _ _ _ _ _)
      | (with_reducible exact ih1 _ _ _ _ _ _ _ _ _ _ _)
      | (with_reducible exact coraclelaw16_awake.mono _)
      | (with_reducible exact curve_First.mono _ _ _ _)
      | (with_reducible exact LeO.refl _)
      | (with_reducible exact LeO.none _)
      | (with_reducible refine LeO.ite ?_ ?_)
      | (with_reducible refine LeO.bind ?_ (fun _ => ?_))
      | exact ih0 _ _ _ _ _ _ _
      | exact ih1 _ _ _ _ _ _ _ _ _ _ _
      | exact coraclelaw16_awake.mono _
      | exact curve_First.mono _ _ _ _
      | exact LeO.none _
      | refine LeO.ite ?_ ?_
      | refine LeO.bind ?_ (fun _ => ?_)
set_option maxHeartbeats 8000000 in
set_option maxRecDepth 100000 in
theorem coraclelaw16_CurveRises.calls (k : Nat) (a0 : Int) (a1 : Int) (a2 : Int) (a3 : Int) (a4 : Int) (a5 : Int) (r : Bool) (w : World) (h : coraclelaw16_CurveRises.f k a0 a1 a2 a3 a4 a5 = some r) :
    Calls Try.prog 12 #[.int .i64 a0, .int .i64 a1, .int .i64 a2, .int .i64 a3, .int .i64 a4, .int .i64 a5] w fun e w' => e = .returned (.bool r) ∧ Below w.heap.size w w' := by
  have hu51 := Try.underlying51
  have HB := Aside0.mk (Below.refl w.heap.size w)
  have H : (if a0 < 0 then (coraclelaw16_CurveRises.j0 k a0 a1 a2 a3 a4 a5 true) else (if a0 > 1000 then (coraclelaw16_CurveRises.j0 k a0 a1 a2 a3 a4 a5 true) else (if a1 < 0 then (coraclelaw16_CurveRises.j0 k a0 a1 a2 a3 a4 a5 true) else (if a1 > 200 then (coraclelaw16_CurveRises.j0 k a0 a1 a2 a3 a4 a5 true) else (if a2 < 253 then (coraclelaw16_CurveRises.j0 k a0 a1 a2 a3 a4 a5 true) else (if a2 > 1048576 then (coraclelaw16_CurveRises.j0 k a0 a1 a2 a3 a4 a5 true) else (if a3 < 0 then (coraclelaw16_CurveRises.j0 k a0 a1 a2 a3 a4 a5 true) else (coraclelaw16_CurveRises.j0 k a0 a1 a2 a3 a4 a5 (decide (a3 > 1048576)))))))))) = some r := h
  clear h
  have HC7 := Aside0.mk H
  clear H
  go_enter Try.func12, Try.ntmps12
  go_upto_region 1 with (fail)
  go_cut [48] (fun v48 wc => ∃ (kq : Nat) (x48_6 : Bool), v48 = .bool x48_6 ∧ Aside0 (coraclelaw16_CurveRises.j0 kq a0 a1 a2 a3 a4 a5 x48_6 = some r) ∧ Aside0 (kq ≤ k) ∧ Aside0 (Below w.heap.size w wc))
  case first =>
    have H := HC7.out
    clear HC7
    by_cases c8 : a0 < 0
    · rw [if_pos c8] at H
      have c8b0 : decide (a0 < 0) = true := decide_eq_true c8
      clear c8
      (first | rw [c8b0] | (simp only [i64_w, i32_w]; rw [c8b0]) | skip)
      have H' := Aside0.mk H
      clear H
      go_wp2
      go_meet
      case rel => exact ⟨_, (true), (by first | rfl | (simp; done) | (simp [*]; done)), H', ⟨by first | omega | exact Nat.le_refl _⟩, ⟨by repeat (first | (with_reducible first | exact HB.out | apply below_alloc | apply pw_below_drewN | apply below_drew1) | exact HB.out)⟩⟩
    · rw [if_neg c8] at H
      have c8b0 : decide (a0 < 0) = false := decide_eq_false c8
      clear c8
      (first | rw [c8b0] | (simp only [i64_w, i32_w]; rw [c8b0]) | skip)
      by_cases c9 : a0 > 1000
      · rw [if_pos c9] at H
        have c9b0 : decide (1000 < a0) = true := decide_eq_true c9
        clear c9
        have H' := Aside0.mk H
        clear H
        go_wp2
        go_meet
        case rel => exact ⟨_, (true), (by first | rfl | (simp; done) | (simp [*]; done)), H', ⟨by first | omega | exact Nat.le_refl _⟩, ⟨by repeat (first | (with_reducible first | exact HB.out | apply below_alloc | apply pw_below_drewN | apply below_drew1) | exact HB.out)⟩⟩
      · rw [if_neg c9] at H
        have c9b0 : decide (1000 < a0) = false := decide_eq_false c9
        clear c9
        by_cases c10 : a1 < 0
        · rw [if_pos c10] at H
          have c10b0 : decide (a1 < 0) = true := decide_eq_true c10
          clear c10
          have H' := Aside0.mk H
          clear H
          go_wp2
          go_meet
          case rel => exact ⟨_, (true), (by first | rfl | (simp; done) | (simp [*]; done)), H', ⟨by first | omega | exact Nat.le_refl _⟩, ⟨by repeat (first | (with_reducible first | exact HB.out | apply below_alloc | apply pw_below_drewN | apply below_drew1) | exact HB.out)⟩⟩
        · rw [if_neg c10] at H
          have c10b0 : decide (a1 < 0) = false := decide_eq_false c10
          clear c10
          by_cases c11 : a1 > 200
          · rw [if_pos c11] at H
            have c11b0 : decide (200 < a1) = true := decide_eq_true c11
            clear c11
            have H' := Aside0.mk H
            clear H
            go_wp2
            go_meet
            case rel => exact ⟨_, (true), (by first | rfl | (simp; done) | (simp [*]; done)), H', ⟨by first | omega | exact Nat.le_refl _⟩, ⟨by repeat (first | (with_reducible first | exact HB.out | apply below_alloc | apply pw_below_drewN | apply below_drew1) | exact HB.out)⟩⟩
          · rw [if_neg c11] at H
            have c11b0 : decide (200 < a1) = false := decide_eq_false c11
            clear c11
            by_cases c12 : a2 < 253
            · rw [if_pos c12] at H
              have c12b0 : decide (a2 < 253) = true := decide_eq_true c12
              clear c12
              have H' := Aside0.mk H
              clear H
              go_wp2
              go_meet
              case rel => exact ⟨_, (true), (by first | rfl | (simp; done) | (simp [*]; done)), H', ⟨by first | omega | exact Nat.le_refl _⟩, ⟨by repeat (first | (with_reducible first | exact HB.out | apply below_alloc | apply pw_below_drewN | apply below_drew1) | exact HB.out)⟩⟩
            · rw [if_neg c12] at H
              have c12b0 : decide (a2 < 253) = false := decide_eq_false c12
              clear c12
              by_cases c13 : a2 > 1048576
              · rw [if_pos c13] at H
                have c13b0 : decide (1048576 < a2) = true := decide_eq_true c13
                clear c13
                have H' := Aside0.mk H
                clear H
                go_wp2
                go_meet
                case rel => exact ⟨_, (true), (by first | rfl | (simp; done) | (simp [*]; done)), H', ⟨by first | omega | exact Nat.le_refl _⟩, ⟨by repeat (first | (with_reducible first | exact HB.out | apply below_alloc | apply pw_below_drewN | apply below_drew1) | exact HB.out)⟩⟩
              · rw [if_neg c13] at H
                have c13b0 : decide (1048576 < a2) = false := decide_eq_false c13
                clear c13
                by_cases c14 : a3 < 0
                · rw [if_pos c14] at H
                  have c14b0 : decide (a3 < 0) = true := decide_eq_true c14
                  clear c14
                  have H' := Aside0.mk H
                  clear H
                  go_wp2
                  go_meet
                  case rel => exact ⟨_, (true), (by first | rfl | (simp; done) | (simp [*]; done)), H', ⟨by first | omega | exact Nat.le_refl _⟩, ⟨by repeat (first | (with_reducible first | exact HB.out | apply below_alloc | apply pw_below_drewN | apply below_drew1) | exact HB.out)⟩⟩
                · rw [if_neg c14] at H
                  have c14b0 : decide (a3 < 0) = false := decide_eq_false c14
                  clear c14
                  have H' := Aside0.mk H
                  clear H
                  go_wp2
                  go_meet
                  case rel => exact ⟨_, (decide (a3 > 1048576)), (by first | rfl | (simp; done) | (simp [*]; done)), H', ⟨by first | omega | exact Nat.le_refl _⟩, ⟨by repeat (first | (with_reducible first | exact HB.out | apply below_alloc | apply pw_below_drewN | apply below_drew1) | exact HB.out)⟩⟩
  case rest =>
    clear HC7
    try clear c1
    try clear p2
    try clear c8
    try clear c8b0
    try clear c9
    try clear c9b0
    try clear c10
    try clear c10b0
    try clear c11
    try clear c11b0
    try clear c12
    try clear c12b0
    try clear c13
    try clear c13b0
    try clear c14
    try clear c14b0
    obtain ⟨kq, x48_6, rfl, HA, HJ6, HB⟩ := hcut
    cases kq with
    | zero => exact absurd HA.out (by simp [coraclelaw16_CurveRises.j0])
    | succ kj6 =>
      have H := HA.out
      clear HA
      simp only [coraclelaw16_CurveRises.j0] at H
      by_cases c15 : x48_6 = true
      · subst c15
        have H1 : ((coraclelaw16_awake.f kj6).bind fun t150 => (some t150)) = some r := by rw [if_pos rfl] at H; exact H
        clear H
        have H := H1
        clear H1
        replace H := Option.bind_eq_some_iff.mp H
        obtain ⟨t150, A160, H⟩ := H
        replace H : (some t150) = some r := H
        have A16 := Aside0.mk A160
        clear A160
        obtain rfl := Option.some.inj H
        go_wp2_with (first | ((with_reducible refine gate_callee (f := 37) rfl ?_); refine goesL_ (some 49) rfl rfl Try.func37 (by kernel_rfl) rfl #[] rfl (by (try simp only [List.map_toArray, List.map_cons, List.map_nil]); first | done | rfl | (simp only [List.length_drop, List.length_take]; rfl)) ?_; (with_reducible refine (coraclelaw16_awake.calls kj6  t150 _ A16.out).mono ?_); rintro e w17 ⟨rfl, hb⟩; refine ⟨_, rfl, ?_⟩; have n0_ := Aside0.mk (below_step (by repeat (first | (with_reducible first | exact HB.out | apply below_alloc | apply pw_below_drewN | apply below_drew1) | exact HB.out)) hb); clear HB; have HB := n0_; clear n0_; (try clear hb); (try clear hb2); (try clear hk); (try clear hi)))
        go_ret
        exact ⟨by first | rfl | (simp [errW_none, errW_some] <;> rfl) | (simp [*, errW_none, errW_some] <;> rfl), by repeat (first | (with_reducible first | exact HB.out | apply below_alloc | apply pw_below_drewN | apply below_drew1) | exact HB.out)⟩
      · replace c15 := Bool.eq_false_iff.mpr c15
        subst c15
        have H1 : ((curve_Line.f (⟨(fint a0), (fint a2)⟩ : C128) (⟨(fint (wrap64 (a0 + a1))), (fint (wrap64 (a2 + a3)))⟩ : C128)).bind fun bt151 => (if bt151.2.2 = 0 then (coraclelaw16_CurveRises.l0 kj6 a0 a1 a2 a3 a4 a5 0 (-1) 0 bt151.1 bt151.2.1) else (some false))) = some r := by rw [if_neg (show ¬ (false = true) by decide)] at H; exact H
        clear H
        have H := H1
        clear H1
        replace H := Option.bind_eq_some_iff.mp H
        obtain ⟨⟨t151, t152, t153⟩, A180, H⟩ := H
        replace H : (if t153 = 0 then (coraclelaw16_CurveRises.l0 kj6 a0 a1 a2 a3 a4 a5 0 (-1) 0 t151 t152) else (some false)) = some r := H
        have A18 := Aside0.mk A180
        clear A180
        by_cases c19 : t153 = 0
        · rw [if_pos c19] at H
          have c19b0 : (t153 == 0) = true := beq_iff_eq.mpr c19
          have c19b1 : (t153 != 0) = false := bne_eq_false_iff_eq.mpr c19
          clear c19
          have H' := Aside0.mk H
          clear H
          go_wp2_with (first | ((with_reducible refine gate_callee (f := 38) rfl ?_); refine goesL_ (some 65) rfl rfl Try.func38 (by kernel_rfl) rfl #[.complex .f64 (fint a0) (fint a2), .complex .f64 (fint (wrap64 (a0 + a1))) (fint (wrap64 (a2 + a3)))] rfl (by (try simp only [List.map_toArray, List.map_cons, List.map_nil]); first | done | rfl | (simp only [List.length_drop, List.length_take]; rfl)) ?_; (with_reducible refine (curve_Line.calls (⟨(fint a0), (fint a2)⟩ : C128) (⟨(fint (wrap64 (a0 + a1))), (fint (wrap64 (a2 + a3)))⟩ : C128) t151 t152 t153 _ A18.out).mono ?_); rintro e w20 ⟨rfl, hb⟩; refine ⟨_, rfl, ?_⟩; have n0_ := Aside0.mk (below_step (by repeat (first | (with_reducible first | exact HB.out | apply below_alloc | apply pw_below_drewN | apply below_drew1) | exact HB.out)) hb); clear HB; have HB := n0_; clear n0_; (try clear hb); (try clear hb2); (try clear hk); (try clear hi)) | ((with_reducible refine gate_dst (N := 13) rfl ?_); refine box_event ?hg (N := 13) ?hd (cs := #[.complex .f64 0 0, .complex .f64 0 0]) (t := 51) ?hr ?_; (case hd => rfl); (case hg => rfl); (case hr => first | (go_simp; done) | (go_simp; rfl)); intro gb154 hg w21 hbox hb; have n0_ := Aside0.mk (below_step (by repeat (first | (with_reducible first | exact HB.out | apply below_alloc | apply pw_below_drewN | apply below_drew1) | exact HB.out)) hb); have n1_ := Aside0.mk (hbox); have n2_ := Aside0.mk ((by rw [hg]; exact (below_size (by repeat (first | (with_reducible first | exact HB.out | apply below_alloc | apply pw_below_drewN | apply below_drew1) | exact HB.out))) : w.heap.size ≤ gb154)); have n3_ := Aside0.mk ((by rw [hg]; exact (below_size (by repeat (first | (with_reducible first | exact HB.out | apply below_alloc | apply pw_below_drewN | apply below_drew1) | exact HB.out))) : w.heap.size ≤ gb154)); clear HB; have HB := n0_; have BK154 := n1_; have GW154 := n2_; have GE154 := n3_; clear n0_ n1_ n2_ n3_; clear hb hbox hg; have hcz22_0 : w21.cell? ⟨gb154, 0, none⟩ = some (.complex .f64 0 0) := (blk_cell BK154.out 0).trans rfl; have hcz22_1 : w21.cell? ⟨gb154, 1, none⟩ = some (.complex .f64 0 0) := (blk_cell BK154.out 1).trans rfl; have hfz22_0 := blk_frozen BK154.out 0; have hfz22_1 := blk_frozen BK154.out 1))
          go_loopg [15, 16, 17] kj6 (fun kq v15 v16 v17 w' => ∃ (x15_2 : Int) (x16_2 : Int) (x17_2 : Int), v15 = .int .i64 x15_2 ∧ v16 = .int .i64 x16_2 ∧ v17 = .int .i64 x17_2 ∧ Aside0 (coraclelaw16_CurveRises.l0 kq a0 a1 a2 a3 a4 a5 x15_2 x16_2 x17_2 t151 t152 = some r) ∧ Aside0 (kq ≤ kj6) ∧ Aside0 (w'.heap[gb154]? = some (.cells #[.complex .f64 t151.re t151.im, .complex .f64 t152.re t152.im] 51 (0, 0))) ∧ Aside0 (Below w.heap.size w w'))
          case atStart => exact ⟨(0), ((-1)), (0), (by first | rfl | (simp; done) | (simp [*]; done)), (by first | rfl | (simp; done) | (simp [*]; done)), (by first | rfl | (simp; done) | (simp [*]; done)), H', ⟨Nat.le_refl _⟩, ⟨by (with_reducible repeat (first | refine blk_drewN ?_ _ | refine blk_drew ?_ | refine blk_alloc ?_ _)); refine blk_put (cs := #[.complex .f64 t151.re t151.im, .complex .f64 0 0]) ?_ 1 _ rfl; (with_reducible repeat (first | refine blk_drewN ?_ _ | refine blk_drew ?_ | refine blk_alloc ?_ _)); refine blk_put (cs := #[.complex .f64 0 0, .complex .f64 0 0]) ?_ 0 _ rfl; (with_reducible repeat (first | refine blk_drewN ?_ _ | refine blk_drew ?_ | refine blk_alloc ?_ _)); exact BK154.out⟩, ⟨by repeat (first | (with_reducible first | exact HB.out | apply below_alloc | apply pw_below_drewN | apply below_drew1 | refine below_set ?_ GE154.out) | exact HB.out)⟩⟩
          case round =>
            clear H'
            try clear c1
            try clear p2
            try clear c3
            try clear p6
            try clear c8
            try clear c8b0
            try clear c9
            try clear c9b0
            try clear c10
            try clear c10b0
            try clear c11
            try clear c11b0
            try clear c12
            try clear c12b0
            try clear c13
            try clear c13b0
            try clear c14
            try clear c14b0
            try clear c15
            try clear c19
            try clear c19b0
            try clear c19b1
            try clear hcz22_0
            try clear hcz22_1
            try clear hfz22_0
            try clear hfz22_1
            try clear p2
            obtain ⟨x15_2, x16_2, x17_2, rfl, rfl, rfl, HA, HK2, BK154, HB⟩ := hrel
            cases gk with
            | zero => exact absurd HA.out (by simp [coraclelaw16_CurveRises.l0])
            | succ k2 =>
              have H := HA.out
              clear HA
              simp only [coraclelaw16_CurveRises.l0] at H
              by_cases c23 : x17_2 ≤ (wrap64 ((wrap64 (a0 + a1)) + 3))
              · rw [if_pos c23] at H
                have c23b0 : decide (x17_2 ≤ (wrap64 ((wrap64 (a0 + a1)) + 3))) = true := decide_eq_true c23
                clear c23
                replace H := Option.bind_eq_some_iff.mp H
                obtain ⟨t159, A240, H⟩ := H
                replace H : (if t159 < x15_2 then (some false) else (if x16_2 < 0 then (if t159 ≥ a4 then (coraclelaw16_CurveRises.l0 k2 a0 a1 a2 a3 a4 a5 t159 x17_2 (wrap64 (x17_2 + 1)) t151 t152) else (coraclelaw16_CurveRises.l0 k2 a0 a1 a2 a3 a4 a5 t159 x16_2 (wrap64 (x17_2 + 1)) t151 t152)) else (coraclelaw16_CurveRises.l0 k2 a0 a1 a2 a3 a4 a5 t159 x16_2 (wrap64 (x17_2 + 1)) t151 t152))) = some r := H
                have A24 := Aside0.mk A240
                clear A240
                by_cases c25 : t159 < x15_2
                · rw [if_pos c25] at H
                  have c25b0 : decide (t159 < x15_2) = true := decide_eq_true c25
                  clear c25
                  obtain rfl := Option.some.inj H
                  have hcz26_0 : wr.cell? ⟨gb154, 0, none⟩ = some (.complex .f64 t151.re t151.im) := (blk_cell BK154.out 0).trans rfl
                  have hcz26_1 : wr.cell? ⟨gb154, 1, none⟩ = some (.complex .f64 t152.re t152.im) := (blk_cell BK154.out 1).trans rfl
                  have hfz26_0 := blk_frozen BK154.out 0
                  have hfz26_1 := blk_frozen BK154.out 1
                  go_wp2_with (first | ((with_reducible refine gate_callee (f := 39) rfl ?_); refine goesL_ (some 80) rfl rfl Try.func39 (by kernel_rfl) rfl #[.agg #[.complex .f64 t151.re t151.im, .complex .f64 t152.re t152.im], .int .i64 x17_2] rfl (by (try simp only [List.map_toArray, List.map_cons, List.map_nil]); first | done | rfl | (simp only [List.length_drop, List.length_take]; rfl)) ?_; (with_reducible refine (curve_Curve_At.calls t151 t152 x17_2 t159 _ A24.out).mono ?_); rintro e w27 ⟨rfl, hb⟩; refine ⟨_, rfl, ?_⟩; have n0_ := Aside0.mk (blk_below (g := gb154) (o := .cells #[.complex .f64 t151.re t151.im, .complex .f64 t152.re t152.im] 51 (0, 0)) (by (with_reducible repeat (first | refine blk_drewN ?_ _ | refine blk_drew ?_ | refine blk_alloc ?_ _)); exact BK154.out) hb); have n1_ := Aside0.mk (below_step (by repeat (first | (with_reducible first | exact HB.out | apply below_alloc | apply pw_below_drewN | apply below_drew1 | refine below_set ?_ GE154.out) | exact HB.out)) hb); clear BK154; clear HB; have BK154 := n0_; have HB := n1_; clear n0_ n1_; (try clear hb); (try clear hb2); (try clear hk); (try clear hi)))
                  go_ret
                  exact ⟨by first | rfl | (simp [errW_none, errW_some] <;> rfl) | (simp [*, errW_none, errW_some] <;> rfl), by repeat (first | (with_reducible first | exact HB.out | apply below_alloc | apply pw_below_drewN | apply below_drew1 | refine below_set ?_ GE154.out) | exact HB.out)⟩
                · rw [if_neg c25] at H
                  have c25b0 : decide (t159 < x15_2) = false := decide_eq_false c25
                  clear c25
                  by_cases c28 : x16_2 < 0
                  · rw [if_pos c28] at H
                    have c28b0 : decide (x16_2 < 0) = true := decide_eq_true c28
                    clear c28
                    by_cases c29 : t159 ≥ a4
                    · rw [if_pos c29] at H
                      have c29b0 : decide (a4 ≤ t159) = true := decide_eq_true c29
                      clear c29
                      have H' := Aside0.mk H
                      clear H
                      have hcz30_0 : wr.cell? ⟨gb154, 0, none⟩ = some (.complex .f64 t151.re t151.im) := (blk_cell BK154.out 0).trans rfl
                      have hcz30_1 : wr.cell? ⟨gb154, 1, none⟩ = some (.complex .f64 t152.re t152.im) := (blk_cell BK154.out 1).trans rfl
                      have hfz30_0 := blk_frozen BK154.out 0
                      have hfz30_1 := blk_frozen BK154.out 1
                      go_wp2_with (first | ((with_reducible refine gate_callee (f := 39) rfl ?_); refine goesL_ (some 80) rfl rfl Try.func39 (by kernel_rfl) rfl #[.agg #[.complex .f64 t151.re t151.im, .complex .f64 t152.re t152.im], .int .i64 x17_2] rfl (by (try simp only [List.map_toArray, List.map_cons, List.map_nil]); first | done | rfl | (simp only [List.length_drop, List.length_take]; rfl)) ?_; (with_reducible refine (curve_Curve_At.calls t151 t152 x17_2 t159 _ A24.out).mono ?_); rintro e w31 ⟨rfl, hb⟩; refine ⟨_, rfl, ?_⟩; have n0_ := Aside0.mk (blk_below (g := gb154) (o := .cells #[.complex .f64 t151.re t151.im, .complex .f64 t152.re t152.im] 51 (0, 0)) (by (with_reducible repeat (first | refine blk_drewN ?_ _ | refine blk_drew ?_ | refine blk_alloc ?_ _)); exact BK154.out) hb); have n1_ := Aside0.mk (below_step (by repeat (first | (with_reducible first | exact HB.out | apply below_alloc | apply pw_below_drewN | apply below_drew1 | refine below_set ?_ GE154.out) | exact HB.out)) hb); clear BK154; clear HB; have BK154 := n0_; have HB := n1_; clear n0_ n1_; (try clear hb); (try clear hb2); (try clear hk); (try clear hi)))
                      go_roundg k2
                      case measure => have := HJ6.out; have := HK2.out; omega
                      case rel => exact ⟨(t159), (x17_2), (wrap64 (x17_2 + 1)), (by first | rfl | (simp; done) | (simp [*]; done)), (by first | rfl | (simp; done) | (simp [*]; done)), (by first | rfl | (simp; done) | (simp [*]; done)), H', ⟨by have := HJ6.out; have := HK2.out; omega⟩, ⟨by (with_reducible repeat (first | refine blk_drewN ?_ _ | refine blk_drew ?_ | refine blk_alloc ?_ _)); exact BK154.out⟩, ⟨by repeat (first | (with_reducible first | exact HB.out | apply below_alloc | apply pw_below_drewN | apply below_drew1 | refine below_set ?_ GE154.out) | exact HB.out)⟩⟩
                    · rw [if_neg c29] at H
                      have c29b0 : decide (a4 ≤ t159) = false := decide_eq_false c29
                      clear c29
                      have H' := Aside0.mk H
                      clear H
                      have hcz32_0 : wr.cell? ⟨gb154, 0, none⟩ = some (.complex .f64 t151.re t151.im) := (blk_cell BK154.out 0).trans rfl
                      have hcz32_1 : wr.cell? ⟨gb154, 1, none⟩ = some (.complex .f64 t152.re t152.im) := (blk_cell BK154.out 1).trans rfl
                      have hfz32_0 := blk_frozen BK154.out 0
                      have hfz32_1 := blk_frozen BK154.out 1
                      go_wp2_with (first | ((with_reducible refine gate_callee (f := 39) rfl ?_); refine goesL_ (some 80) rfl rfl Try.func39 (by kernel_rfl) rfl #[.agg #[.complex .f64 t151.re t151.im, .complex .f64 t152.re t152.im], .int .i64 x17_2] rfl (by (try simp only [List.map_toArray, List.map_cons, List.map_nil]); first | done | rfl | (simp only [List.length_drop, List.length_take]; rfl)) ?_; (with_reducible refine (curve_Curve_At.calls t151 t152 x17_2 t159 _ A24.out).mono ?_); rintro e w33 ⟨rfl, hb⟩; refine ⟨_, rfl, ?_⟩; have n0_ := Aside0.mk (blk_below (g := gb154) (o := .cells #[.complex .f64 t151.re t151.im, .complex .f64 t152.re t152.im] 51 (0, 0)) (by (with_reducible repeat (first | refine blk_drewN ?_ _ | refine blk_drew ?_ | refine blk_alloc ?_ _)); exact BK154.out) hb); have n1_ := Aside0.mk (below_step (by repeat (first | (with_reducible first | exact HB.out | apply below_alloc | apply pw_below_drewN | apply below_drew1 | refine below_set ?_ GE154.out) | exact HB.out)) hb); clear BK154; clear HB; have BK154 := n0_; have HB := n1_; clear n0_ n1_; (try clear hb); (try clear hb2); (try clear hk); (try clear hi)))
                      go_roundg k2
                      case measure => have := HJ6.out; have := HK2.out; omega
                      case rel => exact ⟨(t159), (x16_2), (wrap64 (x17_2 + 1)), (by first | rfl | (simp; done) | (simp [*]; done)), (by first | rfl | (simp; done) | (simp [*]; done)), (by first | rfl | (simp; done) | (simp [*]; done)), H', ⟨by have := HJ6.out; have := HK2.out; omega⟩, ⟨by (with_reducible repeat (first | refine blk_drewN ?_ _ | refine blk_drew ?_ | refine blk_alloc ?_ _)); exact BK154.out⟩, ⟨by repeat (first | (with_reducible first | exact HB.out | apply below_alloc | apply pw_below_drewN | apply below_drew1 | refine below_set ?_ GE154.out) | exact HB.out)⟩⟩
                  · rw [if_neg c28] at H
                    have c28b0 : decide (x16_2 < 0) = false := decide_eq_false c28
                    clear c28
                    have H' := Aside0.mk H
                    clear H
                    have hcz34_0 : wr.cell? ⟨gb154, 0, none⟩ = some (.complex .f64 t151.re t151.im) := (blk_cell BK154.out 0).trans rfl
                    have hcz34_1 : wr.cell? ⟨gb154, 1, none⟩ = some (.complex .f64 t152.re t152.im) := (blk_cell BK154.out 1).trans rfl
                    have hfz34_0 := blk_frozen BK154.out 0
                    have hfz34_1 := blk_frozen BK154.out 1
                    go_wp2_with (first | ((with_reducible refine gate_callee (f := 39) rfl ?_); refine goesL_ (some 80) rfl rfl Try.func39 (by kernel_rfl) rfl #[.agg #[.complex .f64 t151.re t151.im, .complex .f64 t152.re t152.im], .int .i64 x17_2] rfl (by (try simp only [List.map_toArray, List.map_cons, List.map_nil]); first | done | rfl | (simp only [List.length_drop, List.length_take]; rfl)) ?_; (with_reducible refine (curve_Curve_At.calls t151 t152 x17_2 t159 _ A24.out).mono ?_); rintro e w35 ⟨rfl, hb⟩; refine ⟨_, rfl, ?_⟩; have n0_ := Aside0.mk (blk_below (g := gb154) (o := .cells #[.complex .f64 t151.re t151.im, .complex .f64 t152.re t152.im] 51 (0, 0)) (by (with_reducible repeat (first | refine blk_drewN ?_ _ | refine blk_drew ?_ | refine blk_alloc ?_ _)); exact BK154.out) hb); have n1_ := Aside0.mk (below_step (by repeat (first | (with_reducible first | exact HB.out | apply below_alloc | apply pw_below_drewN | apply below_drew1 | refine below_set ?_ GE154.out) | exact HB.out)) hb); clear BK154; clear HB; have BK154 := n0_; have HB := n1_; clear n0_ n1_; (try clear hb); (try clear hb2); (try clear hk); (try clear hi)))
                    go_roundg k2
                    case measure => have := HJ6.out; have := HK2.out; omega
                    case rel => exact ⟨(t159), (x16_2), (wrap64 (x17_2 + 1)), (by first | rfl | (simp; done) | (simp [*]; done)), (by first | rfl | (simp; done) | (simp [*]; done)), (by first | rfl | (simp; done) | (simp [*]; done)), H', ⟨by have := HJ6.out; have := HK2.out; omega⟩, ⟨by (with_reducible repeat (first | refine blk_drewN ?_ _ | refine blk_drew ?_ | refine blk_alloc ?_ _)); exact BK154.out⟩, ⟨by repeat (first | (with_reducible first | exact HB.out | apply below_alloc | apply pw_below_drewN | apply below_drew1 | refine below_set ?_ GE154.out) | exact HB.out)⟩⟩
              · rw [if_neg c23] at H
                have c23b0 : decide (x17_2 ≤ (wrap64 ((wrap64 (a0 + a1)) + 3))) = false := decide_eq_false c23
                clear c23
                by_cases c36 : x15_2 = (wrap64 (a2 + a3))
                · rw [if_pos c36] at H
                  have c36b0 : (x15_2 == (wrap64 (a2 + a3))) = true := beq_iff_eq.mpr c36
                  have c36b1 : (x15_2 != (wrap64 (a2 + a3))) = false := bne_eq_false_iff_eq.mpr c36
                  clear c36
                  replace H := Option.bind_eq_some_iff.mp H
                  obtain ⟨t155, A370, H⟩ := H
                  replace H : (if t155 = x16_2 then (if a5 < (wrap64 (a0 + a1)) then ((coraclelaw16_awake.f k2).bind fun t156 => (some t156)) else ((curve_Curve_At.f t151 t152 a5).bind fun t157 => (if t157 = x15_2 then ((coraclelaw16_awake.f k2).bind fun t158 => (some t158)) else (some false)))) else (some false)) = some r := H
                  have A37 := Aside0.mk A370
                  clear A370
                  by_cases c38 : t155 = x16_2
                  · rw [if_pos c38] at H
                    have c38b0 : (t155 == x16_2) = true := beq_iff_eq.mpr c38
                    have c38b1 : (t155 != x16_2) = false := bne_eq_false_iff_eq.mpr c38
                    clear c38
                    by_cases c39 : a5 < (wrap64 (a0 + a1))
                    · rw [if_pos c39] at H
                      have c39b0 : decide (a5 < (wrap64 (a0 + a1))) = true := decide_eq_true c39
                      clear c39
                      replace H := Option.bind_eq_some_iff.mp H
                      obtain ⟨t156, A400, H⟩ := H
                      replace H : (some t156) = some r := H
                      have A40 := Aside0.mk A400
                      clear A400
                      obtain rfl := Option.some.inj H
                      have hcz41_0 : wr.cell? ⟨gb154, 0, none⟩ = some (.complex .f64 t151.re t151.im) := (blk_cell BK154.out 0).trans rfl
                      have hcz41_1 : wr.cell? ⟨gb154, 1, none⟩ = some (.complex .f64 t152.re t152.im) := (blk_cell BK154.out 1).trans rfl
                      have hfz41_0 := blk_frozen BK154.out 0
                      have hfz41_1 := blk_frozen BK154.out 1
                      go_wp2_with (first | (go_at_call 41; (with_reducible refine (curve_First.calls k2 t151 t152 a4 t155 _ A37.out).mono ?_); rintro e w42 ⟨rfl, hb⟩; have n0_ := Aside0.mk (blk_below (g := gb154) (o := .cells #[.complex .f64 t151.re t151.im, .complex .f64 t152.re t152.im] 51 (0, 0)) (by (with_reducible repeat (first | refine blk_drewN ?_ _ | refine blk_drew ?_ | refine blk_alloc ?_ _)); exact BK154.out) hb); have n1_ := Aside0.mk (below_step (by repeat (first | (with_reducible first | exact HB.out | apply below_alloc | apply pw_below_drewN | apply below_drew1 | refine below_set ?_ GE154.out) | exact HB.out)) hb); clear BK154; clear HB; have BK154 := n0_; have HB := n1_; clear n0_ n1_; (try clear hb); (try clear hb2); (try clear hk); (try clear hi)) | (go_at_call 37; (with_reducible refine (coraclelaw16_awake.calls k2  t156 _ A40.out).mono ?_); rintro e w43 ⟨rfl, hb⟩; have n0_ := Aside0.mk (blk_below (g := gb154) (o := .cells #[.complex .f64 t151.re t151.im, .complex .f64 t152.re t152.im] 51 (0, 0)) (by (with_reducible repeat (first | refine blk_drewN ?_ _ | refine blk_drew ?_ | refine blk_alloc ?_ _)); exact BK154.out) hb); have n1_ := Aside0.mk (below_step (by repeat (first | (with_reducible first | exact HB.out | apply below_alloc | apply pw_below_drewN | apply below_drew1 | refine below_set ?_ GE154.out) | exact HB.out)) hb); clear BK154; clear HB; have BK154 := n0_; have HB := n1_; clear n0_ n1_; (try clear hb); (try clear hb2); (try clear hk); (try clear hi)))
                      go_ret
                      exact ⟨by first | rfl | (simp [errW_none, errW_some] <;> rfl) | (simp [*, errW_none, errW_some] <;> rfl), by repeat (first | (with_reducible first | exact HB.out | apply below_alloc | apply pw_below_drewN | apply below_drew1 | refine below_set ?_ GE154.out) | exact HB.out)⟩
                    · rw [if_neg c39] at H
                      have c39b0 : decide (a5 < (wrap64 (a0 + a1))) = false := decide_eq_false c39
                      clear c39
                      replace H := Option.bind_eq_some_iff.mp H
                      obtain ⟨t157, A440, H⟩ := H
                      replace H : (if t157 = x15_2 then ((coraclelaw16_awake.f k2).bind fun t158 => (some t158)) else (some false)) = some r := H
                      have A44 := Aside0.mk A440
                      clear A440
                      by_cases c45 : t157 = x15_2
                      · rw [if_pos c45] at H
                        have c45b0 : (t157 == x15_2) = true := beq_iff_eq.mpr c45
                        have c45b1 : (t157 != x15_2) = false := bne_eq_false_iff_eq.mpr c45
                        clear c45
                        replace H := Option.bind_eq_some_iff.mp H
                        obtain ⟨t158, A460, H⟩ := H
                        replace H : (some t158) = some r := H
                        have A46 := Aside0.mk A460
                        clear A460
                        obtain rfl := Option.some.inj H
                        have hcz47_0 : wr.cell? ⟨gb154, 0, none⟩ = some (.complex .f64 t151.re t151.im) := (blk_cell BK154.out 0).trans rfl
                        have hcz47_1 : wr.cell? ⟨gb154, 1, none⟩ = some (.complex .f64 t152.re t152.im) := (blk_cell BK154.out 1).trans rfl
                        have hfz47_0 := blk_frozen BK154.out 0
                        have hfz47_1 := blk_frozen BK154.out 1
                        go_wp2_with (first | (go_at_call 41; (with_reducible refine (curve_First.calls k2 t151 t152 a4 t155 _ A37.out).mono ?_); rintro e w48 ⟨rfl, hb⟩; have n0_ := Aside0.mk (blk_below (g := gb154) (o := .cells #[.complex .f64 t151.re t151.im, .complex .f64 t152.re t152.im] 51 (0, 0)) (by (with_reducible repeat (first | refine blk_drewN ?_ _ | refine blk_drew ?_ | refine blk_alloc ?_ _)); exact BK154.out) hb); have n1_ := Aside0.mk (below_step (by repeat (first | (with_reducible first | exact HB.out | apply below_alloc | apply pw_below_drewN | apply below_drew1 | refine below_set ?_ GE154.out) | exact HB.out)) hb); clear BK154; clear HB; have BK154 := n0_; have HB := n1_; clear n0_ n1_; (try clear hb); (try clear hb2); (try clear hk); (try clear hi); have hcz49_0 : w48.cell? ⟨gb154, 0, none⟩ = some (.complex .f64 t151.re t151.im) := (blk_cell BK154.out 0).trans rfl; have hcz49_1 : w48.cell? ⟨gb154, 1, none⟩ = some (.complex .f64 t152.re t152.im) := (blk_cell BK154.out 1).trans rfl; have hfz49_0 := blk_frozen BK154.out 0; have hfz49_1 := blk_frozen BK154.out 1) | (go_at_call 39; (with_reducible refine (curve_Curve_At.calls t151 t152 a5 t157 _ A44.out).mono ?_); rintro e w50 ⟨rfl, hb⟩; have n0_ := Aside0.mk (blk_below (g := gb154) (o := .cells #[.complex .f64 t151.re t151.im, .complex .f64 t152.re t152.im] 51 (0, 0)) (by (with_reducible repeat (first | refine blk_drewN ?_ _ | refine blk_drew ?_ | refine blk_alloc ?_ _)); exact BK154.out) hb); have n1_ := Aside0.mk (below_step (by repeat (first | (with_reducible first | exact HB.out | apply below_alloc | apply pw_below_drewN | apply below_drew1 | refine below_set ?_ GE154.out) | exact HB.out)) hb); clear BK154; clear HB; have BK154 := n0_; have HB := n1_; clear n0_ n1_; (try clear hb); (try clear hb2); (try clear hk); (try clear hi)) | (go_at_call 37; (with_reducible refine (coraclelaw16_awake.calls k2  t158 _ A46.out).mono ?_); rintro e w51 ⟨rfl, hb⟩; have n0_ := Aside0.mk (blk_below (g := gb154) (o := .cells #[.complex .f64 t151.re t151.im, .complex .f64 t152.re t152.im] 51 (0, 0)) (by (with_reducible repeat (first | refine blk_drewN ?_ _ | refine blk_drew ?_ | refine blk_alloc ?_ _)); exact BK154.out) hb); have n1_ := Aside0.mk (below_step (by repeat (first | (with_reducible first | exact HB.out | apply below_alloc | apply pw_below_drewN | apply below_drew1 | refine below_set ?_ GE154.out) | exact HB.out)) hb); clear BK154; clear HB; have BK154 := n0_; have HB := n1_; clear n0_ n1_; (try clear hb); (try clear hb2); (try clear hk); (try clear hi)))
                        go_ret
                        exact ⟨by first | rfl | (simp [errW_none, errW_some] <;> rfl) | (simp [*, errW_none, errW_some] <;> rfl), by repeat (first | (with_reducible first | exact HB.out | apply below_alloc | apply pw_below_drewN | apply below_drew1 | refine below_set ?_ GE154.out) | exact HB.out)⟩
                      · rw [if_neg c45] at H
                        have c45b0 : (t157 == x15_2) = false := beq_eq_false_iff_ne.mpr c45
                        have c45b1 : (t157 != x15_2) = true := bne_iff_ne.mpr c45
                        obtain rfl := Option.some.inj H
                        have hcz52_0 : wr.cell? ⟨gb154, 0, none⟩ = some (.complex .f64 t151.re t151.im) := (blk_cell BK154.out 0).trans rfl
                        have hcz52_1 : wr.cell? ⟨gb154, 1, none⟩ = some (.complex .f64 t152.re t152.im) := (blk_cell BK154.out 1).trans rfl
                        have hfz52_0 := blk_frozen BK154.out 0
                        have hfz52_1 := blk_frozen BK154.out 1
                        go_wp2_with (first | (go_at_call 41; (with_reducible refine (curve_First.calls k2 t151 t152 a4 t155 _ A37.out).mono ?_); rintro e w53 ⟨rfl, hb⟩; have n0_ := Aside0.mk (blk_below (g := gb154) (o := .cells #[.complex .f64 t151.re t151.im, .complex .f64 t152.re t152.im] 51 (0, 0)) (by (with_reducible repeat (first | refine blk_drewN ?_ _ | refine blk_drew ?_ | refine blk_alloc ?_ _)); exact BK154.out) hb); have n1_ := Aside0.mk (below_step (by repeat (first | (with_reducible first | exact HB.out | apply below_alloc | apply pw_below_drewN | apply below_drew1 | refine below_set ?_ GE154.out) | exact HB.out)) hb); clear BK154; clear HB; have BK154 := n0_; have HB := n1_; clear n0_ n1_; (try clear hb); (try clear hb2); (try clear hk); (try clear hi); have hcz54_0 : w53.cell? ⟨gb154, 0, none⟩ = some (.complex .f64 t151.re t151.im) := (blk_cell BK154.out 0).trans rfl; have hcz54_1 : w53.cell? ⟨gb154, 1, none⟩ = some (.complex .f64 t152.re t152.im) := (blk_cell BK154.out 1).trans rfl; have hfz54_0 := blk_frozen BK154.out 0; have hfz54_1 := blk_frozen BK154.out 1) | (go_at_call 39; (with_reducible refine (curve_Curve_At.calls t151 t152 a5 t157 _ A44.out).mono ?_); rintro e w55 ⟨rfl, hb⟩; have n0_ := Aside0.mk (blk_below (g := gb154) (o := .cells #[.complex .f64 t151.re t151.im, .complex .f64 t152.re t152.im] 51 (0, 0)) (by (with_reducible repeat (first | refine blk_drewN ?_ _ | refine blk_drew ?_ | refine blk_alloc ?_ _)); exact BK154.out) hb); have n1_ := Aside0.mk (below_step (by repeat (first | (with_reducible first | exact HB.out | apply below_alloc | apply pw_below_drewN | apply below_drew1 | refine below_set ?_ GE154.out) | exact HB.out)) hb); clear BK154; clear HB; have BK154 := n0_; have HB := n1_; clear n0_ n1_; (try clear hb); (try clear hb2); (try clear hk); (try clear hi)))
                        go_ret
                        exact ⟨by first | rfl | (simp [errW_none, errW_some] <;> rfl) | (simp [*, errW_none, errW_some] <;> rfl), by repeat (first | (with_reducible first | exact HB.out | apply below_alloc | apply pw_below_drewN | apply below_drew1 | refine below_set ?_ GE154.out) | exact HB.out)⟩
                  · rw [if_neg c38] at H
                    have c38b0 : (t155 == x16_2) = false := beq_eq_false_iff_ne.mpr c38
                    have c38b1 : (t155 != x16_2) = true := bne_iff_ne.mpr c38
                    obtain rfl := Option.some.inj H
                    have hcz56_0 : wr.cell? ⟨gb154, 0, none⟩ = some (.complex .f64 t151.re t151.im) := (blk_cell BK154.out 0).trans rfl
                    have hcz56_1 : wr.cell? ⟨gb154, 1, none⟩ = some (.complex .f64 t152.re t152.im) := (blk_cell BK154.out 1).trans rfl
                    have hfz56_0 := blk_frozen BK154.out 0
                    have hfz56_1 := blk_frozen BK154.out 1
                    go_wp2_with (first | (go_at_call 41; (with_reducible refine (curve_First.calls k2 t151 t152 a4 t155 _ A37.out).mono ?_); rintro e w57 ⟨rfl, hb⟩; have n0_ := Aside0.mk (blk_below (g := gb154) (o := .cells #[.complex .f64 t151.re t151.im, .complex .f64 t152.re t152.im] 51 (0, 0)) (by (with_reducible repeat (first | refine blk_drewN ?_ _ | refine blk_drew ?_ | refine blk_alloc ?_ _)); exact BK154.out) hb); have n1_ := Aside0.mk (below_step (by repeat (first | (with_reducible first | exact HB.out | apply below_alloc | apply pw_below_drewN | apply below_drew1 | refine below_set ?_ GE154.out) | exact HB.out)) hb); clear BK154; clear HB; have BK154 := n0_; have HB := n1_; clear n0_ n1_; (try clear hb); (try clear hb2); (try clear hk); (try clear hi)))
                    go_ret
                    exact ⟨by first | rfl | (simp [errW_none, errW_some] <;> rfl) | (simp [*, errW_none, errW_some] <;> rfl), by repeat (first | (with_reducible first | exact HB.out | apply below_alloc | apply pw_below_drewN | apply below_drew1 | refine below_set ?_ GE154.out) | exact HB.out)⟩
                · rw [if_neg c36] at H
                  have c36b0 : (x15_2 == (wrap64 (a2 + a3))) = false := beq_eq_false_iff_ne.mpr c36
                  have c36b1 : (x15_2 != (wrap64 (a2 + a3))) = true := bne_iff_ne.mpr c36
                  obtain rfl := Option.some.inj H
                  go_wp2
                  go_ret
                  exact ⟨by first | rfl | (simp [errW_none, errW_some] <;> rfl) | (simp [*, errW_none, errW_some] <;> rfl), by repeat (first | (with_reducible first | exact HB.out | apply below_alloc | apply pw_below_drewN | apply below_drew1 | refine below_set ?_ GE154.out) | exact HB.out)⟩
        · rw [if_neg c19] at H
          have c19b0 : (t153 == 0) = false := beq_eq_false_iff_ne.mpr c19
          have c19b1 : (t153 != 0) = true := bne_iff_ne.mpr c19
          obtain rfl := Option.some.inj H
          go_wp2_with (first | ((with_reducible refine gate_callee (f := 38) rfl ?_); refine goesL_ (some 65) rfl rfl Try.func38 (by kernel_rfl) rfl #[.complex .f64 (fint a0) (fint a2), .complex .f64 (fint (wrap64 (a0 + a1))) (fint (wrap64 (a2 + a3)))] rfl (by (try simp only [List.map_toArray, List.map_cons, List.map_nil]); first | done | rfl | (simp only [List.length_drop, List.length_take]; rfl)) ?_; (with_reducible refine (curve_Line.calls (⟨(fint a0), (fint a2)⟩ : C128) (⟨(fint (wrap64 (a0 + a1))), (fint (wrap64 (a2 + a3)))⟩ : C128) t151 t152 t153 _ A18.out).mono ?_); rintro e w58 ⟨rfl, hb⟩; refine ⟨_, rfl, ?_⟩; have n0_ := Aside0.mk (below_step (by repeat (first | (with_reducible first | exact HB.out | apply below_alloc | apply pw_below_drewN | apply below_drew1) | exact HB.out)) hb); clear HB; have HB := n0_; clear n0_; (try clear hb); (try clear hb2); (try clear hk); (try clear hi)) | ((with_reducible refine gate_dst (N := 13) rfl ?_); refine box_event ?hg (N := 13) ?hd (cs := #[.complex .f64 0 0, .complex .f64 0 0]) (t := 51) ?hr ?_; (case hd => rfl); (case hg => rfl); (case hr => first | (go_simp; done) | (go_simp; rfl)); intro gb154 hg w59 hbox hb; have n0_ := Aside0.mk (below_step (by repeat (first | (with_reducible first | exact HB.out | apply below_alloc | apply pw_below_drewN | apply below_drew1) | exact HB.out)) hb); have n1_ := Aside0.mk (hbox); have n2_ := Aside0.mk ((by rw [hg]; exact (below_size (by repeat (first | (with_reducible first | exact HB.out | apply below_alloc | apply pw_below_drewN | apply below_drew1) | exact HB.out))) : w.heap.size ≤ gb154)); have n3_ := Aside0.mk ((by rw [hg]; exact (below_size (by repeat (first | (with_reducible first | exact HB.out | apply below_alloc | apply pw_below_drewN | apply below_drew1) | exact HB.out))) : w.heap.size ≤ gb154)); clear HB; have HB := n0_; have BK154 := n1_; have GW154 := n2_; have GE154 := n3_; clear n0_ n1_ n2_ n3_; clear hb hbox hg; have hcz60_0 : w59.cell? ⟨gb154, 0, none⟩ = some (.complex .f64 0 0) := (blk_cell BK154.out 0).trans rfl; have hcz60_1 : w59.cell? ⟨gb154, 1, none⟩ = some (.complex .f64 0 0) := (blk_cell BK154.out 1).trans rfl; have hfz60_0 := blk_frozen BK154.out 0; have hfz60_1 := blk_frozen BK154.out 1))
          go_ret
          exact ⟨by first | rfl | (simp [errW_none, errW_some] <;> rfl) | (simp [*, errW_none, errW_some] <;> rfl), by repeat (first | (with_reducible first | exact HB.out | apply below_alloc | apply pw_below_drewN | apply below_drew1 | refine below_set ?_ GE154.out) | exact HB.out)⟩

/-- THE ONE PURE STATEMENT of coraclelaw16_CurveRises: yours. -/
def coraclelaw16_CurveRises.Pure : Prop := ∀ (a0 : Int) (a1 : Int) (a2 : Int) (a3 : Int) (a4 : Int) (a5 : Int), (Lit.int .i64 a0).wf = true → (Lit.int .i64 a1).wf = true → (Lit.int .i64 a2).wf = true → (Lit.int .i64 a3).wf = true → (Lit.int .i64 a4).wf = true → (Lit.int .i64 a5).wf = true → ∃ k, coraclelaw16_CurveRises.f k a0 a1 a2 a3 a4 a5 = some true
theorem coraclelaw16_CurveRises.walk (P : coraclelaw16_CurveRises.Pure) (a0 : Int) (a1 : Int) (a2 : Int) (a3 : Int) (a4 : Int) (a5 : Int) (w : World) (w0 : (Lit.int .i64 a0).wf = true) (w1 : (Lit.int .i64 a1).wf = true) (w2 : (Lit.int .i64 a2).wf = true) (w3 : (Lit.int .i64 a3).wf = true) (w4 : (Lit.int .i64 a4).wf = true) (w5 : (Lit.int .i64 a5).wf = true) :
    Calls Try.prog 12 #[.int .i64 a0, .int .i64 a1, .int .i64 a2, .int .i64 a3, .int .i64 a4, .int .i64 a5] w fun e w' => e = .returned (.bool true) ∧ Below w.heap.size w w' := by
  obtain ⟨k, h⟩ := P a0 a1 a2 a3 a4 a5 w0 w1 w2 w3 w4 w5
  refine (coraclelaw16_CurveRises.calls k a0 a1 a2 a3 a4 a5 true w h).mono ?_
  rintro e w' ⟨rfl, hd⟩
  exact ⟨rfl, hd⟩

end Go.Proofs.Ytfoahgdaigfhoaa.QCur
