/- Functions of the program as plain Lean functions, and that its calls come to what these tell: written by a program of this session; Lean checks it. -/
import Derived.Test.YtfoahgdaigfhoaaQVecx0
import Derived.Test.YtfoahgdaigfhoaaQVecx1
import Derived.Test.YtfoahgdaigfhoaaQVecx2
namespace Go.Proofs.Ytfoahgdaigfhoaa.QVec
open Go.RowKit Go.Proofs.Ytfoahgdaigfhoaa.Hand Go.Proofs.YtfoahgdaigfhoaaW.PrintWords Go.Proofs.YtfoahgdaigfhoaaW.PrintLast Go.Proofs.YtfoahgdaigfhoaaW.PrintMore
attribute [local go_sem] max2_int min2_int max_two min_two max_three min_three max_four min_four run_fop run_feq run_fne run_flt run_fle run_fgt run_fge run_fint run_toi run_real' run_imag' run_complex' run_ceq run_cne run_cadd run_csub run_cmul
set_option linter.unusedVariables false
set_option linter.unusedSimpArgs false

/-! ### coraclelaw15_VecOdd: function 9 -/
mutual
def coraclelaw15_VecOdd.j0 : Nat → Int → Int → Bool → Option (Bool)
  | 0, _, _, _ => none
  | k + 1, x0, x1, x26 => if x26 = true then ((coraclelaw15_awake.f k).bind fun t212 => (some t212)) else (if fok .quo (fint x0) 4611686018427387904 = true then (if fok .quo (fint x1) 4611686018427387904 = true then ((vec_Parts.f (⟨(fop .quo (fint x0) 4611686018427387904), (fop .quo (fint x1) 4611686018427387904)⟩ : C128)).bind fun bt213 => (if x0 ≥ 0 then (if (Int.tmod x0 2) = 0 then (if x1 ≥ 0 then (coraclelaw15_VecOdd.j1 k x0 x1 (⟨(fop .quo (fint x0) 4611686018427387904), (fop .quo (fint x1) 4611686018427387904)⟩ : C128) bt213.1 bt213.2.1 bt213.2.2 ((Int.tmod x1 2) == 0)) else (coraclelaw15_VecOdd.j1 k x0 x1 (⟨(fop .quo (fint x0) 4611686018427387904), (fop .quo (fint x1) 4611686018427387904)⟩ : C128) bt213.1 bt213.2.1 bt213.2.2 false)) else (coraclelaw15_VecOdd.j1 k x0 x1 (⟨(fop .quo (fint x0) 4611686018427387904), (fop .quo (fint x1) 4611686018427387904)⟩ : C128) bt213.1 bt213.2.1 bt213.2.2 false)) else (coraclelaw15_VecOdd.j1 k x0 x1 (⟨(fop .quo (fint x0) 4611686018427387904), (fop .quo (fint x1) 4611686018427387904)⟩ : C128) bt213.1 bt213.2.1 bt213.2.2 false))) else (none)) else (none))
def coraclelaw15_VecOdd.j1 : Nat → Int → Int → C128 → Int → Int → Bool → Bool → Option (Bool)
  | 0, _, _, _, _, _, _, _ => none
  | k + 1, x0, x1, x5, x6, x7, x8, x56 => if x56 = true then (if x8 = true then (if x6 = (wrap64 (Int.tdiv x0 2)) then (if x7 = (wrap64 (Int.tdiv x1 2)) then ((coraclelaw15_awake.f k).bind fun t216 => (some t216)) else (some false)) else (some false)) else (some false)) else ((vec_Sum.f k (([(⟨4607182418800017408, 0⟩ : C128), x5] : List C128))).bind fun bt220 => ((vec_Scale.f x5 1).bind fun bt222 => (if x8 = true then (some false) else (if x6 = 0 then (if x7 = 0 then (if bt220.2 = 11 then (if (ceq bt220.1.re bt220.1.im 0 0) = true then (if bt222.2 = 11 then (if (ceq bt222.1.re bt222.1.im 0 0) = true then ((vec_Cross.f k x5 (⟨4607182418800017408, 0⟩ : C128)).bind fun t224 => (if t224 = 0 then ((coraclelaw15_pair.f 1 1).bind fun t225 => ((vec_Cross.f k t225 x5).bind fun t226 => (if t226 = 0 then ((vec_Steeper.f k x5 (⟨4607182418800017408, 0⟩ : C128)).bind fun t227 => (if t227 = true then (some false) else ((coraclelaw15_awake.f k).bind fun t228 => (some t228)))) else (some false)))) else (some false))) else (some false)) else (some false)) else (some false)) else (some false)) else (some false)) else (some false)))))
end
def coraclelaw15_VecOdd.f (k : Nat) (a0 : Int) (a1 : Int) : Option (Bool) := if a0 < (-1000) then (coraclelaw15_VecOdd.j0 k a0 a1 true) else (if a0 > 1000 then (coraclelaw15_VecOdd.j0 k a0 a1 true) else (if a1 < (-1000) then (coraclelaw15_VecOdd.j0 k a0 a1 true) else (coraclelaw15_VecOdd.j0 k a0 a1 (decide (a1 > 1000)))))
theorem coraclelaw15_VecOdd.mono_l : ∀ k, (∀ y0 y1 y2, LeO (coraclelaw15_VecOdd.j0 k y0 y1 y2) (coraclelaw15_VecOdd.j0 (k + 1) y0 y1 y2)) ∧ (∀ y0 y1 y2 y3 y4 y5 y6, LeO (coraclelaw15_VecOdd.j1 k y0 y1 y2 y3 y4 y5 y6) (coraclelaw15_VecOdd.j1 (k + 1) y0 y1 y2 y3 y4 y5 y6))
  | 0 => ⟨fun _ _ _ r h => by simp [coraclelaw15_VecOdd.j0] at h, fun _ _ _ _ _ _ _ r h => by simp [coraclelaw15_VecOdd.j1] at h⟩
  | k + 1 => by
    obtain ⟨ih0, ih1⟩ := coraclelaw15_VecOdd.mono_l k
    refine ⟨?_, ?_⟩
    · intro y0 y1 y2
      unfold coraclelaw15_VecOdd.j0
      repeat' first
      | (with_reducible exact ih0 _ _ _)
      | (with_reducible exact ih1 _ _ _ _ _ _ _)
      | (with_reducible exact coraclelaw15_awake.mono _)
      | (with_reducible exact vec_Cross.mono _ _ _)
      | (with_reducible exact vec_Steeper.mono _ _ _)
      | (with_reducible exact vec_Sum.mono _ _)
      | (with_reducible exact LeO.refl _)
      | (with_reducible exact LeO.none _)
      | (with_reducible refine LeO.ite ?_ ?_)
      | (with_reducible refine LeO.bind ?_ (fun _ => ?_))
      | exact ih0 _ _ _
      | exact ih1 _ _ _ _ _ _ _
      | exact coraclelaw15_awake.mono _
      | exact vec_Cross.mono _ _ _
      | exact vec_Steeper.mono _ _ _
      | exact vec_Sum.mono _ _
      | exact LeO.none _
      | refine LeO.ite ?_ ?_
      | refine LeO.bind ?_ (fun _ => ?_)
    · intro y0 y1 y2 y3 y4 y5 y6
      unfold coraclelaw15_VecOdd.j1
      repeat' first
      | (with_reducible exact ih0 _ _ _)
      | (with_reducible exact ih1 _ _ _ _ _ _ _)
      | (with_reducible exact coraclelaw15_awake.mono _)
      | (with_reducible exact vec_Cross.mono _ _ _)
      | (with_reducible exact vec_Steeper.mono _ _ _)
      | (with_reducible exact vec_Sum.mono _ _)
      | (with_reducible exact LeO.refl _)
      | (with_reducible exact LeO.none _)
      | (with_reducible refine LeO.ite ?_ ?_)
      | (with_reducible refine LeO.bind ?_ (fun _ => ?_))
      | exact ih0 _ _ _
      | exact ih1 _ _ _ _ _ _ _
      | exact coraclelaw15_awake.mono _
      | exact vec_Cross.mono _ _ _
      | exact vec_Steeper.mono _ _ _
      | exact vec_Sum.mono _ _
      | exact LeO.none _
      | refine LeO.ite ?_ ?_
      | refine LeO.bind ?_ (fun _ => ?_)
theorem coraclelaw15_VecOdd.mono : ∀ a0 a1 k, LeO (coraclelaw15_VecOdd.f k a0 a1) (coraclelaw15_VecOdd.f (k + 1) a0 a1) := by
  intro a0 a1 k
  obtain ⟨ih0, ih1⟩ := coraclelaw15_VecOdd.mono_l k
  unfold coraclelaw15_VecOdd.f
  repeat' first
      | (with_reducible exact ih0 _ _ _)
      | (with_reducible exact ih1 _ _ _ _ _ _ _)
      | (with_reducible exact coraclelaw15_awake.mono _)
      | (with_reducible exact vec_Cross.mono _ _ _)
      | (with_reducible exact vec_Steeper.mono _ _ _)
      | (with_reducible exact vec_Sum.mono _ _)
      | (with_reducible exact LeO.refl _)
      | (with_reducible exact LeO.none _)
      | (with_reducible refine LeO.ite ?_ ?_)
      | (with_reducible refine LeO.bind ?_ (fun _ => ?_))
      | exact ih0 _ _ _
      | exact ih1 _ _ _ _ _ _ _
      | exact coraclelaw15_awake.mono _
      | exact vec_Cross.mono _ _ _
      | exact vec_Steeper.mono _ _ _
      | exact vec_Sum.mono _ _
      | exact LeO.none _
      | refine LeO.ite ?_ ?_
      | refine LeO.bind ?_ (fun _ => ?_)
set_option maxHeartbeats 8000000 in
set_option maxRecDepth 100000 in
theorem coraclelaw15_VecOdd.calls (k : Nat) (a0 : Int) (a1 : Int) (r : Bool) (w : World) (h : coraclelaw15_VecOdd.f k a0 a1 = some r) :
    Calls Try.prog 9 #[.int .i64 a0, .int .i64 a1] w fun e w' => e = .returned (.bool r) ∧ Below w.heap.size w w' := by
  have HB := Aside0.mk (Below.refl w.heap.size w)
  have H : (if a0 < (-1000) then (coraclelaw15_VecOdd.j0 k a0 a1 true) else (if a0 > 1000 then (coraclelaw15_VecOdd.j0 k a0 a1 true) else (if a1 < (-1000) then (coraclelaw15_VecOdd.j0 k a0 a1 true) else (coraclelaw15_VecOdd.j0 k a0 a1 (decide (a1 > 1000)))))) = some r := h
  clear h
  have HC3 := Aside0.mk H
  clear H
  go_enter Try.func9, Try.ntmps9
  go_upto_region 1 with (fail)
  go_cut [26] (fun v26 wc => ∃ (kq : Nat) (x26_2 : Bool), v26 = .bool x26_2 ∧ Aside0 (coraclelaw15_VecOdd.j0 kq a0 a1 x26_2 = some r) ∧ Aside0 (kq ≤ k) ∧ Aside0 (Below w.heap.size w wc))
  case first =>
    have H := HC3.out
    clear HC3
    by_cases c4 : a0 < (-1000)
    · rw [if_pos c4] at H
      have c4b0 : decide (a0 < (-1000)) = true := decide_eq_true c4
      clear c4
      (first | rw [c4b0] | (simp only [i64_w, i32_w]; rw [c4b0]) | skip)
      have H' := Aside0.mk H
      clear H
      go_wp2
      go_meet
      case rel => exact ⟨_, (true), (by first | rfl | (simp; done) | (simp [*]; done)), H', ⟨by first | omega | exact Nat.le_refl _⟩, ⟨by repeat (first | (with_reducible first | exact HB.out | apply below_alloc | apply pw_below_drewN | apply below_drew1) | exact HB.out)⟩⟩
    · rw [if_neg c4] at H
      have c4b0 : decide (a0 < (-1000)) = false := decide_eq_false c4
      clear c4
      (first | rw [c4b0] | (simp only [i64_w, i32_w]; rw [c4b0]) | skip)
      by_cases c5 : a0 > 1000
      · rw [if_pos c5] at H
        have c5b0 : decide (1000 < a0) = true := decide_eq_true c5
        clear c5
        have H' := Aside0.mk H
        clear H
        go_wp2
        go_meet
        case rel => exact ⟨_, (true), (by first | rfl | (simp; done) | (simp [*]; done)), H', ⟨by first | omega | exact Nat.le_refl _⟩, ⟨by repeat (first | (with_reducible first | exact HB.out | apply below_alloc | apply pw_below_drewN | apply below_drew1) | exact HB.out)⟩⟩
      · rw [if_neg c5] at H
        have c5b0 : decide (1000 < a0) = false := decide_eq_false c5
        clear c5
        by_cases c6 : a1 < (-1000)
        · rw [if_pos c6] at H
          have c6b0 : decide (a1 < (-1000)) = true := decide_eq_true c6
          clear c6
          have H' := Aside0.mk H
          clear H
          go_wp2
          go_meet
          case rel => exact ⟨_, (true), (by first | rfl | (simp; done) | (simp [*]; done)), H', ⟨by first | omega | exact Nat.le_refl _⟩, ⟨by repeat (first | (with_reducible first | exact HB.out | apply below_alloc | apply pw_below_drewN | apply below_drew1) | exact HB.out)⟩⟩
        · rw [if_neg c6] at H
          have c6b0 : decide (a1 < (-1000)) = false := decide_eq_false c6
          clear c6
          have H' := Aside0.mk H
          clear H
          go_wp2
          go_meet
          case rel => exact ⟨_, (decide (a1 > 1000)), (by first | rfl | (simp; done) | (simp [*]; done)), H', ⟨by first | omega | exact Nat.le_refl _⟩, ⟨by repeat (first | (with_reducible first | exact HB.out | apply below_alloc | apply pw_below_drewN | apply below_drew1) | exact HB.out)⟩⟩
  case rest =>
    clear HC3
    try clear p2
    try clear c4
    try clear c4b0
    try clear c5
    try clear c5b0
    try clear c6
    try clear c6b0
    obtain ⟨kq, x26_2, rfl, HA, HJ2, HB⟩ := hcut
    cases kq with
    | zero => exact absurd HA.out (by simp [coraclelaw15_VecOdd.j0])
    | succ kj2 =>
      have H := HA.out
      clear HA
      simp only [coraclelaw15_VecOdd.j0] at H
      by_cases c7 : x26_2 = true
      · subst c7
        have H1 : ((coraclelaw15_awake.f kj2).bind fun t212 => (some t212)) = some r := by rw [if_pos rfl] at H; exact H
        clear H
        have H := H1
        clear H1
        replace H := Option.bind_eq_some_iff.mp H
        obtain ⟨t212, A80, H⟩ := H
        replace H : (some t212) = some r := H
        have A8 := Aside0.mk A80
        clear A80
        obtain rfl := Option.some.inj H
        go_wp2_with (first | ((with_reducible refine gate_callee (f := 28) rfl ?_); refine goesL_ (some 27) rfl rfl Try.func28 (by kernel_rfl) rfl #[] rfl (by (try simp only [List.map_toArray, List.map_cons, List.map_nil]); first | done | rfl | (simp only [List.length_drop, List.length_take]; rfl)) ?_; (with_reducible refine (coraclelaw15_awake.calls kj2  t212 _ A8.out).mono ?_); rintro e w9 ⟨rfl, hb⟩; refine ⟨_, rfl, ?_⟩; have n0_ := Aside0.mk (below_step (by repeat (first | (with_reducible first | exact HB.out | apply below_alloc | apply pw_below_drewN | apply below_drew1) | exact HB.out)) hb); clear HB; have HB := n0_; clear n0_; (try clear hb); (try clear hb2); (try clear hk); (try clear hi)))
        go_ret
        exact ⟨by first | rfl | (simp [errW_none, errW_some] <;> rfl) | (simp [*, errW_none, errW_some] <;> rfl), by repeat (first | (with_reducible first | exact HB.out | apply below_alloc | apply pw_below_drewN | apply below_drew1) | exact HB.out)⟩
      · replace c7 := Bool.eq_false_iff.mpr c7
        subst c7
        have H1 : (if fok .quo (fint a0) 4611686018427387904 = true then (if fok .quo (fint a1) 4611686018427387904 = true then ((vec_Parts.f (⟨(fop .quo (fint a0) 4611686018427387904), (fop .quo (fint a1) 4611686018427387904)⟩ : C128)).bind fun bt213 => (if a0 ≥ 0 then (if (Int.tmod a0 2) = 0 then (if a1 ≥ 0 then (coraclelaw15_VecOdd.j1 kj2 a0 a1 (⟨(fop .quo (fint a0) 4611686018427387904), (fop .quo (fint a1) 4611686018427387904)⟩ : C128) bt213.1 bt213.2.1 bt213.2.2 ((Int.tmod a1 2) == 0)) else (coraclelaw15_VecOdd.j1 kj2 a0 a1 (⟨(fop .quo (fint a0) 4611686018427387904), (fop .quo (fint a1) 4611686018427387904)⟩ : C128) bt213.1 bt213.2.1 bt213.2.2 false)) else (coraclelaw15_VecOdd.j1 kj2 a0 a1 (⟨(fop .quo (fint a0) 4611686018427387904), (fop .quo (fint a1) 4611686018427387904)⟩ : C128) bt213.1 bt213.2.1 bt213.2.2 false)) else (coraclelaw15_VecOdd.j1 kj2 a0 a1 (⟨(fop .quo (fint a0) 4611686018427387904), (fop .quo (fint a1) 4611686018427387904)⟩ : C128) bt213.1 bt213.2.1 bt213.2.2 false))) else (none)) else (none)) = some r := by rw [if_neg (show ¬ (false = true) by decide)] at H; exact H
        clear H
        have H := H1
        clear H1
        by_cases c10 : fok .quo (fint a0) 4611686018427387904 = true
        · rw [if_pos c10] at H
          have c10b0 : fok .quo (fint a0) 4611686018427387904 = true := c10
          clear c10
          by_cases c11 : fok .quo (fint a1) 4611686018427387904 = true
          · rw [if_pos c11] at H
            have c11b0 : fok .quo (fint a1) 4611686018427387904 = true := c11
            clear c11
            replace H := Option.bind_eq_some_iff.mp H
            obtain ⟨⟨t213, t214, t215⟩, A120, H⟩ := H
            replace H : (if a0 ≥ 0 then (if (Int.tmod a0 2) = 0 then (if a1 ≥ 0 then (coraclelaw15_VecOdd.j1 kj2 a0 a1 (⟨(fop .quo (fint a0) 4611686018427387904), (fop .quo (fint a1) 4611686018427387904)⟩ : C128) t213 t214 t215 ((Int.tmod a1 2) == 0)) else (coraclelaw15_VecOdd.j1 kj2 a0 a1 (⟨(fop .quo (fint a0) 4611686018427387904), (fop .quo (fint a1) 4611686018427387904)⟩ : C128) t213 t214 t215 false)) else (coraclelaw15_VecOdd.j1 kj2 a0 a1 (⟨(fop .quo (fint a0) 4611686018427387904), (fop .quo (fint a1) 4611686018427387904)⟩ : C128) t213 t214 t215 false)) else (coraclelaw15_VecOdd.j1 kj2 a0 a1 (⟨(fop .quo (fint a0) 4611686018427387904), (fop .quo (fint a1) 4611686018427387904)⟩ : C128) t213 t214 t215 false)) = some r := H
            have A12 := Aside0.mk A120
            clear A120
            have HC13 := Aside0.mk H
            clear H
            go_upto_region 5 with (first | ((with_reducible refine gate_callee (f := 32) rfl ?_); refine goesL_ (some 37) rfl rfl Try.func32 (by kernel_rfl) rfl #[.complex .f64 (fop .quo (fint a0) 4611686018427387904) (fop .quo (fint a1) 4611686018427387904)] rfl (by (try simp only [List.map_toArray, List.map_cons, List.map_nil]); first | done | rfl | (simp only [List.length_drop, List.length_take]; rfl)) ?_; (with_reducible refine (vec_Parts.calls (⟨(fop .quo (fint a0) 4611686018427387904), (fop .quo (fint a1) 4611686018427387904)⟩ : C128) t213 t214 t215 _ A12.out).mono ?_); rintro e w14 ⟨rfl, hb⟩; refine ⟨_, rfl, ?_⟩; have n0_ := Aside0.mk (below_step (by repeat (first | (with_reducible first | exact HB.out | apply below_alloc | apply pw_below_drewN | apply below_drew1) | exact HB.out)) hb); clear HB; have HB := n0_; clear n0_; (try clear hb); (try clear hb2); (try clear hk); (try clear hi)))
            (try simp only [Act.put, List.setIfInBounds_toArray, List.set_cons_zero, List.set_cons_succ])
            go_cut [56] (fun v56 wc => ∃ (kq : Nat) (x56_12 : Bool), v56 = .bool x56_12 ∧ Aside0 (coraclelaw15_VecOdd.j1 kq a0 a1 (⟨(fop .quo (fint a0) 4611686018427387904), (fop .quo (fint a1) 4611686018427387904)⟩ : C128) t213 t214 t215 x56_12 = some r) ∧ Aside0 (kq ≤ kj2) ∧ Aside0 (Below w.heap.size w wc))
            case first =>
              have H := HC13.out
              clear HC13
              by_cases c15 : a0 ≥ 0
              · rw [if_pos c15] at H
                have c15b0 : decide (0 ≤ a0) = true := decide_eq_true c15
                clear c15
                (first | rw [c15b0] | (simp only [i64_w, i32_w]; rw [c15b0]) | skip)
                by_cases c16 : (Int.tmod a0 2) = 0
                · rw [if_pos c16] at H
                  have c16b0 : ((Int.tmod a0 2) == 0) = true := beq_iff_eq.mpr c16
                  have c16b1 : ((Int.tmod a0 2) != 0) = false := bne_eq_false_iff_eq.mpr c16
                  clear c16
                  by_cases c17 : a1 ≥ 0
                  · rw [if_pos c17] at H
                    have c17b0 : decide (0 ≤ a1) = true := decide_eq_true c17
                    clear c17
                    have H' := Aside0.mk H
                    clear H
                    go_wp2
                    go_meet
                    case rel => exact ⟨_, (((Int.tmod a1 2) == 0)), (by first | rfl | (simp; done) | (simp [*]; done)), H', ⟨by have := HJ2.out; first | omega | exact Nat.le_refl _⟩, ⟨by repeat (first | (with_reducible first | exact HB.out | apply below_alloc | apply pw_below_drewN | apply below_drew1) | exact HB.out)⟩⟩
                  · rw [if_neg c17] at H
                    have c17b0 : decide (0 ≤ a1) = false := decide_eq_false c17
                    clear c17
                    have H' := Aside0.mk H
                    clear H
                    go_wp2
                    go_meet
                    case rel => exact ⟨_, (false), (by first | rfl | (simp; done) | (simp [*]; done)), H', ⟨by have := HJ2.out; first | omega | exact Nat.le_refl _⟩, ⟨by repeat (first | (with_reducible first | exact HB.out | apply below_alloc | apply pw_below_drewN | apply below_drew1) | exact HB.out)⟩⟩
                · rw [if_neg c16] at H
                  have c16b0 : ((Int.tmod a0 2) == 0) = false := beq_eq_false_iff_ne.mpr c16
                  have c16b1 : ((Int.tmod a0 2) != 0) = true := bne_iff_ne.mpr c16
                  have H' := Aside0.mk H
                  clear H
                  go_wp2
                  go_meet
                  case rel => exact ⟨_, (false), (by first | rfl | (simp; done) | (simp [*]; done)), H', ⟨by have := HJ2.out; first | omega | exact Nat.le_refl _⟩, ⟨by repeat (first | (with_reducible first | exact HB.out | apply below_alloc | apply pw_below_drewN | apply below_drew1) | exact HB.out)⟩⟩
              · rw [if_neg c15] at H
                have c15b0 : decide (0 ≤ a0) = false := decide_eq_false c15
                clear c15
                (first | rw [c15b0] | (simp only [i64_w, i32_w]; rw [c15b0]) | skip)
                have H' := Aside0.mk H
                clear H
                go_wp2
                go_meet
                case rel => exact ⟨_, (false), (by first | rfl | (simp; done) | (simp [*]; done)), H', ⟨by have := HJ2.out; first | omega | exact Nat.le_refl _⟩, ⟨by repeat (first | (with_reducible first | exact HB.out | apply below_alloc | apply pw_below_drewN | apply below_drew1) | exact HB.out)⟩⟩
            case rest =>
              clear HC13
              try clear c1
              try clear c2
              try clear p2
              try clear c3
              try clear c4
              try clear c4b0
              try clear c5
              try clear c5b0
              try clear c6
              try clear c6b0
              try clear c7
              try clear c9
              try clear c10
              try clear c10b0
              try clear c11
              try clear c11b0
              try clear c15
              try clear c15b0
              try clear c16
              try clear c16b0
              try clear c16b1
              try clear c17
              try clear c17b0
              try clear p2
              obtain ⟨kq, x56_12, rfl, HA, HJ12, HB⟩ := hcut
              cases kq with
              | zero => exact absurd HA.out (by simp [coraclelaw15_VecOdd.j1])
              | succ kj12 =>
                have H := HA.out
                clear HA
                simp only [coraclelaw15_VecOdd.j1] at H
                by_cases c18 : x56_12 = true
                · subst c18
                  have H1 : (if t215 = true then (if t213 = (wrap64 (Int.tdiv a0 2)) then (if t214 = (wrap64 (Int.tdiv a1 2)) then ((coraclelaw15_awake.f kj12).bind fun t216 => (some t216)) else (some false)) else (some false)) else (some false)) = some r := by rw [if_pos rfl] at H; exact H
                  clear H
                  have H := H1
                  clear H1
                  by_cases c19 : t215 = true
                  · subst c19
                    have H1 : (if t213 = (wrap64 (Int.tdiv a0 2)) then (if t214 = (wrap64 (Int.tdiv a1 2)) then ((coraclelaw15_awake.f kj12).bind fun t216 => (some t216)) else (some false)) else (some false)) = some r := by rw [if_pos rfl] at H; exact H
                    clear H
                    have H := H1
                    clear H1
                    by_cases c20 : t213 = (wrap64 (Int.tdiv a0 2))
                    · rw [if_pos c20] at H
                      have c20b0 : (t213 == (wrap64 (Int.tdiv a0 2))) = true := beq_iff_eq.mpr c20
                      have c20b1 : (t213 != (wrap64 (Int.tdiv a0 2))) = false := bne_eq_false_iff_eq.mpr c20
                      clear c20
                      by_cases c21 : t214 = (wrap64 (Int.tdiv a1 2))
                      · rw [if_pos c21] at H
                        have c21b0 : (t214 == (wrap64 (Int.tdiv a1 2))) = true := beq_iff_eq.mpr c21
                        have c21b1 : (t214 != (wrap64 (Int.tdiv a1 2))) = false := bne_eq_false_iff_eq.mpr c21
                        clear c21
                        replace H := Option.bind_eq_some_iff.mp H
                        obtain ⟨t216, A220, H⟩ := H
                        replace H : (some t216) = some r := H
                        have A22 := Aside0.mk A220
                        clear A220
                        obtain rfl := Option.some.inj H
                        go_wp2_with (first | (go_at_call 28; (with_reducible refine (coraclelaw15_awake.calls kj12  t216 _ A22.out).mono ?_); rintro e w23 ⟨rfl, hb⟩; have n0_ := Aside0.mk (below_step (by repeat (first | (with_reducible first | exact HB.out | apply below_alloc | apply pw_below_drewN | apply below_drew1) | exact HB.out)) hb); clear HB; have HB := n0_; clear n0_; (try clear hb); (try clear hb2); (try clear hk); (try clear hi)))
                        go_ret
                        exact ⟨by first | rfl | (simp [errW_none, errW_some] <;> rfl) | (simp [*, errW_none, errW_some] <;> rfl), by repeat (first | (with_reducible first | exact HB.out | apply below_alloc | apply pw_below_drewN | apply below_drew1) | exact HB.out)⟩
                      · rw [if_neg c21] at H
                        have c21b0 : (t214 == (wrap64 (Int.tdiv a1 2))) = false := beq_eq_false_iff_ne.mpr c21
                        have c21b1 : (t214 != (wrap64 (Int.tdiv a1 2))) = true := bne_iff_ne.mpr c21
                        obtain rfl := Option.some.inj H
                        go_wp2
                        go_ret
                        exact ⟨by first | rfl | (simp [errW_none, errW_some] <;> rfl) | (simp [*, errW_none, errW_some] <;> rfl), by repeat (first | (with_reducible first | exact HB.out | apply below_alloc | apply pw_below_drewN | apply below_drew1) | exact HB.out)⟩
                    · rw [if_neg c20] at H
                      have c20b0 : (t213 == (wrap64 (Int.tdiv a0 2))) = false := beq_eq_false_iff_ne.mpr c20
                      have c20b1 : (t213 != (wrap64 (Int.tdiv a0 2))) = true := bne_iff_ne.mpr c20
                      obtain rfl := Option.some.inj H
                      go_wp2
                      go_ret
                      exact ⟨by first | rfl | (simp [errW_none, errW_some] <;> rfl) | (simp [*, errW_none, errW_some] <;> rfl), by repeat (first | (with_reducible first | exact HB.out | apply below_alloc | apply pw_below_drewN | apply below_drew1) | exact HB.out)⟩
                  · replace c19 := Bool.eq_false_iff.mpr c19
                    subst c19
                    have H1 : (some false) = some r := by rw [if_neg (show ¬ (false = true) by decide)] at H; exact H
                    clear H
                    have H := H1
                    clear H1
                    obtain rfl := Option.some.inj H
                    go_wp2
                    go_ret
                    exact ⟨by first | rfl | (simp [errW_none, errW_some] <;> rfl) | (simp [*, errW_none, errW_some] <;> rfl), by repeat (first | (with_reducible first | exact HB.out | apply below_alloc | apply pw_below_drewN | apply below_drew1) | exact HB.out)⟩
                · replace c18 := Bool.eq_false_iff.mpr c18
                  subst c18
                  have H1 : ((vec_Sum.f kj12 (([(⟨4607182418800017408, 0⟩ : C128), (⟨(fop .quo (fint a0) 4611686018427387904), (fop .quo (fint a1) 4611686018427387904)⟩ : C128)] : List C128))).bind fun bt220 => ((vec_Scale.f (⟨(fop .quo (fint a0) 4611686018427387904), (fop .quo (fint a1) 4611686018427387904)⟩ : C128) 1).bind fun bt222 => (if t215 = true then (some false) else (if t213 = 0 then (if t214 = 0 then (if bt220.2 = 11 then (if (ceq bt220.1.re bt220.1.im 0 0) = true then (if bt222.2 = 11 then (if (ceq bt222.1.re bt222.1.im 0 0) = true then ((vec_Cross.f kj12 (⟨(fop .quo (fint a0) 4611686018427387904), (fop .quo (fint a1) 4611686018427387904)⟩ : C128) (⟨4607182418800017408, 0⟩ : C128)).bind fun t224 => (if t224 = 0 then ((coraclelaw15_pair.f 1 1).bind fun t225 => ((vec_Cross.f kj12 t225 (⟨(fop .quo (fint a0) 4611686018427387904), (fop .quo (fint a1) 4611686018427387904)⟩ : C128)).bind fun t226 => (if t226 = 0 then ((vec_Steeper.f kj12 (⟨(fop .quo (fint a0) 4611686018427387904), (fop .quo (fint a1) 4611686018427387904)⟩ : C128) (⟨4607182418800017408, 0⟩ : C128)).bind fun t227 => (if t227 = true then (some false) else ((coraclelaw15_awake.f kj12).bind fun t228 => (some t228)))) else (some false)))) else (some false))) else (some false)) else (some false)) else (some false)) else (some false)) else (some false)) else (some false))))) = some r := by rw [if_neg (show ¬ (false = true) by decide)] at H; exact H
                  clear H
                  have H := H1
                  clear H1
                  obtain ⟨y217, hy217⟩ : ∃ y_ : List C128, y_ = (([(⟨4607182418800017408, 0⟩ : C128), (⟨(fop .quo (fint a0) 4611686018427387904), (fop .quo (fint a1) 4611686018427387904)⟩ : C128)] : List C128)) := ⟨_, rfl⟩
                  replace H : ((vec_Sum.f kj12 y217).bind fun bt220 => ((vec_Scale.f (⟨(fop .quo (fint a0) 4611686018427387904), (fop .quo (fint a1) 4611686018427387904)⟩ : C128) 1).bind fun bt222 => (if t215 = true then (some false) else (if t213 = 0 then (if t214 = 0 then (if bt220.2 = 11 then (if (ceq bt220.1.re bt220.1.im 0 0) = true then (if bt222.2 = 11 then (if (ceq bt222.1.re bt222.1.im 0 0) = true then ((vec_Cross.f kj12 (⟨(fop .quo (fint a0) 4611686018427387904), (fop .quo (fint a1) 4611686018427387904)⟩ : C128) (⟨4607182418800017408, 0⟩ : C128)).bind fun t224 => (if t224 = 0 then ((coraclelaw15_pair.f 1 1).bind fun t225 => ((vec_Cross.f kj12 t225 (⟨(fop .quo (fint a0) 4611686018427387904), (fop .quo (fint a1) 4611686018427387904)⟩ : C128)).bind fun t226 => (if t226 = 0 then ((vec_Steeper.f kj12 (⟨(fop .quo (fint a0) 4611686018427387904), (fop .quo (fint a1) 4611686018427387904)⟩ : C128) (⟨4607182418800017408, 0⟩ : C128)).bind fun t227 => (if t227 = true then (some false) else ((coraclelaw15_awake.f kj12).bind fun t228 => (some t228)))) else (some false)))) else (some false))) else (some false)) else (some false)) else (some false)) else (some false)) else (some false)) else (some false))))) = some r := by first | (rw [hy217]; with_reducible exact H) | (have H2_ := (Option.bind_some _ _).symm.trans H; rw [hy217]; with_reducible exact H2_) | (have H2_ := (Option.bind_some _ _).symm.trans H; with_reducible exact H2_) | with_reducible exact H | (rw [hy217]; exact H) | exact H
                  have Ny217 := Aside0.mk hy217
                  clear hy217
                  replace H := Option.bind_eq_some_iff.mp H
                  obtain ⟨⟨t220, t221⟩, A240, H⟩ := H
                  replace H : ((vec_Scale.f (⟨(fop .quo (fint a0) 4611686018427387904), (fop .quo (fint a1) 4611686018427387904)⟩ : C128) 1).bind fun bt222 => (if t215 = true then (some false) else (if t213 = 0 then (if t214 = 0 then (if t221 = 11 then (if (ceq t220.re t220.im 0 0) = true then (if bt222.2 = 11 then (if (ceq bt222.1.re bt222.1.im 0 0) = true then ((vec_Cross.f kj12 (⟨(fop .quo (fint a0) 4611686018427387904), (fop .quo (fint a1) 4611686018427387904)⟩ : C128) (⟨4607182418800017408, 0⟩ : C128)).bind fun t224 => (if t224 = 0 then ((coraclelaw15_pair.f 1 1).bind fun t225 => ((vec_Cross.f kj12 t225 (⟨(fop .quo (fint a0) 4611686018427387904), (fop .quo (fint a1) 4611686018427387904)⟩ : C128)).bind fun t226 => (if t226 = 0 then ((vec_Steeper.f kj12 (⟨(fop .quo (fint a0) 4611686018427387904), (fop .quo (fint a1) 4611686018427387904)⟩ : C128) (⟨4607182418800017408, 0⟩ : C128)).bind fun t227 => (if t227 = true then (some false) else ((coraclelaw15_awake.f kj12).bind fun t228 => (some t228)))) else (some false)))) else (some false))) else (some false)) else (some false)) else (some false)) else (some false)) else (some false)) else (some false)))) = some r := H
                  have A24 := Aside0.mk A240
                  clear A240
                  replace H := Option.bind_eq_some_iff.mp H
                  obtain ⟨⟨t222, t223⟩, A250, H⟩ := H
                  replace H : (if t215 = true then (some false) else (if t213 = 0 then (if t214 = 0 then (if t221 = 11 then (if (ceq t220.re t220.im 0 0) = true then (if t223 = 11 then (if (ceq t222.re t222.im 0 0) = true then ((vec_Cross.f kj12 (⟨(fop .quo (fint a0) 4611686018427387904), (fop .quo (fint a1) 4611686018427387904)⟩ : C128) (⟨4607182418800017408, 0⟩ : C128)).bind fun t224 => (if t224 = 0 then ((coraclelaw15_pair.f 1 1).bind fun t225 => ((vec_Cross.f kj12 t225 (⟨(fop .quo (fint a0) 4611686018427387904), (fop .quo (fint a1) 4611686018427387904)⟩ : C128)).bind fun t226 => (if t226 = 0 then ((vec_Steeper.f kj12 (⟨(fop .quo (fint a0) 4611686018427387904), (fop .quo (fint a1) 4611686018427387904)⟩ : C128) (⟨4607182418800017408, 0⟩ : C128)).bind fun t227 => (if t227 = true then (some false) else ((coraclelaw15_awake.f kj12).bind fun t228 => (some t228)))) else (some false)))) else (some false))) else (some false)) else (some false)) else (some false)) else (some false)) else (some false)) else (some false))) = some r := H
                  have A25 := Aside0.mk A250
                  clear A250
                  by_cases c26 : t215 = true
                  · subst c26
                    have H1 : (some false) = some r := by rw [if_pos rfl] at H; exact H
                    clear H
                    have H := H1
                    clear H1
                    obtain rfl := Option.some.inj H
                    go_wp2_with (first | ((with_reducible refine gate_dst (N := 75) rfl ?_); refine Kd.R_lit Kd.c128 _ 37 ?hg (N := 75) ?hd (xs := ([(⟨4607182418800017408, 0⟩ : C128), (⟨(fop .quo (fint a0) 4611686018427387904), (fop .quo (fint a1) 4611686018427387904)⟩ : C128)] : List C128)) (inner := [.complex .f64 4607182418800017408 0, .complex .f64 (fop .quo (fint a0) 4611686018427387904) (fop .quo (fint a1) 4611686018427387904)]) (ok := fun _ => True) (okp := fun _ => True) ?hr ?hp (fun _ hk => hk) trivial (Below.refl _ _) (Nat.le_refl _) (by simp) ?_; (case hd => rfl); (case hg => rfl); (case hr => first | (go_simp; done) | (go_simp; rfl)); (case hp => exact (Reps.one (show Kd.M Kd.c128 _ _ _ (⟨4607182418800017408, 0⟩ : C128) [.complex .f64 4607182418800017408 0] from rfl) (Reps.one (show Kd.M Kd.c128 _ _ _ (⟨(fop .quo (fint a0) 4611686018427387904), (fop .quo (fint a1) 4611686018427387904)⟩ : C128) [.complex .f64 (fop .quo (fint a0) 4611686018427387904) (fop .quo (fint a1) 4611686018427387904)] from rfl) (Reps.none _ _)))); intro v218 w27 ho28 hb hg_ hnew_; clear hg_ hnew_; (first | rw [← Ny217.out] at ho28 | (simp only [Int.reduceToNat] at ho28; rw [← Ny217.out] at ho28)); have n0_ := Aside0.mk (Kd.R_lower ho28 (below_size (by repeat (first | (with_reducible first | exact HB.out | apply below_alloc | apply pw_below_drewN | apply below_drew1) | exact HB.out)))); have n1_ := Aside0.mk (below_step (by repeat (first | (with_reducible first | exact HB.out | apply below_alloc | apply pw_below_drewN | apply below_drew1) | exact HB.out)) hb); clear HB; have HO219 := n0_; have HB := n1_; clear n0_ n1_; clear hb ho28; obtain ⟨Ao29, co29, eo29⟩ := Kd.R_slice HO219.out; subst eo29) | ((with_reducible refine gate_callee (f := 31) rfl ?_); refine goesL_ (some 76) rfl rfl Try.func31 (by kernel_rfl) rfl #[.slice Ao29 y217.length co29] rfl (by (try simp only [List.map_toArray, List.map_cons, List.map_nil]); first | done | rfl | (simp only [List.length_drop, List.length_take]; rfl)) ?_; (with_reducible refine (vec_Sum.calls kj12 _ _ y217 t220 t221 _ ?side1 ?side2 A24.out).mono ?_); (case side1 => repeat (first | exact (Kd.R_reads' HO219.out).2.2 | (with_reducible refine Kd.C_alloc ?_ _) | (with_reducible refine Kd.C_drewN ?_ _) | (with_reducible refine Kd.C_drew ?_))); (case side2 => exact (Kd.R_reads' HO219.out).2.1); rintro e w30 ⟨rfl, hb⟩; refine ⟨_, rfl, ?_⟩; have n0_ := Aside0.mk (Kd.R_below (by (with_reducible repeat (first | apply Kd.R_alloc | apply Kd.R_drewN | apply Kd.R_drew)); exact HO219.out) hb); have n1_ := Aside0.mk (below_step (by repeat (first | (with_reducible first | exact HB.out | apply below_alloc | apply pw_below_drewN | apply below_drew1) | exact HB.out)) hb); clear HO219; clear HB; have HO219 := n0_; have HB := n1_; clear n0_ n1_; (try clear hb); (try clear hb2); (try clear hk); (try clear hi)) | ((with_reducible refine gate_callee (f := 34) rfl ?_); refine goesL_ (some 81) rfl rfl Try.func34 (by kernel_rfl) rfl #[.complex .f64 (fop .quo (fint a0) 4611686018427387904) (fop .quo (fint a1) 4611686018427387904), .int .i64 1] rfl (by (try simp only [List.map_toArray, List.map_cons, List.map_nil]); first | done | rfl | (simp only [List.length_drop, List.length_take]; rfl)) ?_; (with_reducible refine (vec_Scale.calls (⟨(fop .quo (fint a0) 4611686018427387904), (fop .quo (fint a1) 4611686018427387904)⟩ : C128) 1 t222 t223 _ A25.out).mono ?_); rintro e w31 ⟨rfl, hb⟩; refine ⟨_, rfl, ?_⟩; have n0_ := Aside0.mk (Kd.R_below (by (with_reducible repeat (first | apply Kd.R_alloc | apply Kd.R_drewN | apply Kd.R_drew)); exact HO219.out) hb); have n1_ := Aside0.mk (below_step (by repeat (first | (with_reducible first | exact HB.out | apply below_alloc | apply pw_below_drewN | apply below_drew1) | exact HB.out)) hb); clear HO219; clear HB; have HO219 := n0_; have HB := n1_; clear n0_ n1_; (try clear hb); (try clear hb2); (try clear hk); (try clear hi)))
                    go_ret
                    exact ⟨by first | rfl | (simp [errW_none, errW_some] <;> rfl) | (simp [*, errW_none, errW_some] <;> rfl), by repeat (first | (with_reducible first | exact HB.out | apply below_alloc | apply pw_below_drewN | apply below_drew1) | exact HB.out)⟩
                  · replace c26 := Bool.eq_false_iff.mpr c26
                    subst c26
                    have H1 : (if t213 = 0 then (if t214 = 0 then (if t221 = 11 then (if (ceq t220.re t220.im 0 0) = true then (if t223 = 11 then (if (ceq t222.re t222.im 0 0) = true then ((vec_Cross.f kj12 (⟨(fop .quo (fint a0) 4611686018427387904), (fop .quo (fint a1) 4611686018427387904)⟩ : C128) (⟨4607182418800017408, 0⟩ : C128)).bind fun t224 => (if t224 = 0 then ((coraclelaw15_pair.f 1 1).bind fun t225 => ((vec_Cross.f kj12 t225 (⟨(fop .quo (fint a0) 4611686018427387904), (fop .quo (fint a1) 4611686018427387904)⟩ : C128)).bind fun t226 => (if t226 = 0 then ((vec_Steeper.f kj12 (⟨(fop .quo (fint a0) 4611686018427387904), (fop .quo (fint a1) 4611686018427387904)⟩ : C128) (⟨4607182418800017408, 0⟩ : C128)).bind fun t227 => (if t227 = true then (some false) else ((coraclelaw15_awake.f kj12).bind fun t228 => (some t228)))) else (some false)))) else (some false))) else (some false)) else (some false)) else (some false)) else (some false)) else (some false)) else (some false)) = some r := by rw [if_neg (show ¬ (false = true) by decide)] at H; exact H
                    clear H
                    have H := H1
                    clear H1
                    by_cases c32 : t213 = 0
                    · rw [if_pos c32] at H
                      have c32b0 : (t213 == 0) = true := beq_iff_eq.mpr c32
                      have c32b1 : (t213 != 0) = false := bne_eq_false_iff_eq.mpr c32
                      clear c32
                      by_cases c33 : t214 = 0
                      · rw [if_pos c33] at H
                        have c33b0 : (t214 == 0) = true := beq_iff_eq.mpr c33
                        have c33b1 : (t214 != 0) = false := bne_eq_false_iff_eq.mpr c33
                        clear c33
                        by_cases c34 : t221 = 11
                        · rw [if_pos c34] at H
                          have c34b0 : (t221 == 11) = true := beq_iff_eq.mpr c34
                          have c34b1 : (t221 != 11) = false := bne_eq_false_iff_eq.mpr c34
                          clear c34
                          by_cases c35 : (ceq t220.re t220.im 0 0) = true
                          · rw [if_pos c35] at H
                            have c35b0 : (ceq t220.re t220.im 0 0) = true := c35
                            clear c35
                            by_cases c36 : t223 = 11
                            · rw [if_pos c36] at H
                              have c36b0 : (t223 == 11) = true := beq_iff_eq.mpr c36
                              have c36b1 : (t223 != 11) = false := bne_eq_false_iff_eq.mpr c36
                              clear c36
                              by_cases c37 : (ceq t222.re t222.im 0 0) = true
                              · rw [if_pos c37] at H
                                have c37b0 : (ceq t222.re t222.im 0 0) = true := c37
                                clear c37
                                replace H := Option.bind_eq_some_iff.mp H
                                obtain ⟨t224, A380, H⟩ := H
                                replace H : (if t224 = 0 then ((coraclelaw15_pair.f 1 1).bind fun t225 => ((vec_Cross.f kj12 t225 (⟨(fop .quo (fint a0) 4611686018427387904), (fop .quo (fint a1) 4611686018427387904)⟩ : C128)).bind fun t226 => (if t226 = 0 then ((vec_Steeper.f kj12 (⟨(fop .quo (fint a0) 4611686018427387904), (fop .quo (fint a1) 4611686018427387904)⟩ : C128) (⟨4607182418800017408, 0⟩ : C128)).bind fun t227 => (if t227 = true then (some false) else ((coraclelaw15_awake.f kj12).bind fun t228 => (some t228)))) else (some false)))) else (some false)) = some r := H
                                have A38 := Aside0.mk A380
                                clear A380
                                by_cases c39 : t224 = 0
                                · rw [if_pos c39] at H
                                  have c39b0 : (t224 == 0) = true := beq_iff_eq.mpr c39
                                  have c39b1 : (t224 != 0) = false := bne_eq_false_iff_eq.mpr c39
                                  clear c39
                                  replace H := Option.bind_eq_some_iff.mp H
                                  obtain ⟨t225, A400, H⟩ := H
                                  replace H : ((vec_Cross.f kj12 t225 (⟨(fop .quo (fint a0) 4611686018427387904), (fop .quo (fint a1) 4611686018427387904)⟩ : C128)).bind fun t226 => (if t226 = 0 then ((vec_Steeper.f kj12 (⟨(fop .quo (fint a0) 4611686018427387904), (fop .quo (fint a1) 4611686018427387904)⟩ : C128) (⟨4607182418800017408, 0⟩ : C128)).bind fun t227 => (if t227 = true then (some false) else ((coraclelaw15_awake.f kj12).bind fun t228 => (some t228)))) else (some false))) = some r := H
                                  have A40 := Aside0.mk A400
                                  clear A400
                                  replace H := Option.bind_eq_some_iff.mp H
                                  obtain ⟨t226, A410, H⟩ := H
                                  replace H : (if t226 = 0 then ((vec_Steeper.f kj12 (⟨(fop .quo (fint a0) 4611686018427387904), (fop .quo (fint a1) 4611686018427387904)⟩ : C128) (⟨4607182418800017408, 0⟩ : C128)).bind fun t227 => (if t227 = true then (some false) else ((coraclelaw15_awake.f kj12).bind fun t228 => (some t228)))) else (some false)) = some r := H
                                  have A41 := Aside0.mk A410
                                  clear A410
                                  by_cases c42 : t226 = 0
                                  · rw [if_pos c42] at H
                                    have c42b0 : (t226 == 0) = true := beq_iff_eq.mpr c42
                                    have c42b1 : (t226 != 0) = false := bne_eq_false_iff_eq.mpr c42
                                    clear c42
                                    replace H := Option.bind_eq_some_iff.mp H
                                    obtain ⟨t227, A430, H⟩ := H
                                    replace H : (if t227 = true then (some false) else ((coraclelaw15_awake.f kj12).bind fun t228 => (some t228))) = some r := H
                                    have A43 := Aside0.mk A430
                                    clear A430
                                    by_cases c44 : t227 = true
                                    · subst c44
                                      have H1 : (some false) = some r := by rw [if_pos rfl] at H; exact H
                                      clear H
                                      have H := H1
                                      clear H1
                                      obtain rfl := Option.some.inj H
                                      go_wp2_with (first | ((with_reducible refine gate_dst (N := 75) rfl ?_); refine Kd.R_lit Kd.c128 _ 37 ?hg (N := 75) ?hd (xs := ([(⟨4607182418800017408, 0⟩ : C128), (⟨(fop .quo (fint a0) 4611686018427387904), (fop .quo (fint a1) 4611686018427387904)⟩ : C128)] : List C128)) (inner := [.complex .f64 4607182418800017408 0, .complex .f64 (fop .quo (fint a0) 4611686018427387904) (fop .quo (fint a1) 4611686018427387904)]) (ok := fun _ => True) (okp := fun _ => True) ?hr ?hp (fun _ hk => hk) trivial (Below.refl _ _) (Nat.le_refl _) (by simp) ?_; (case hd => rfl); (case hg => rfl); (case hr => first | (go_simp; done) | (go_simp; rfl)); (case hp => exact (Reps.one (show Kd.M Kd.c128 _ _ _ (⟨4607182418800017408, 0⟩ : C128) [.complex .f64 4607182418800017408 0] from rfl) (Reps.one (show Kd.M Kd.c128 _ _ _ (⟨(fop .quo (fint a0) 4611686018427387904), (fop .quo (fint a1) 4611686018427387904)⟩ : C128) [.complex .f64 (fop .quo (fint a0) 4611686018427387904) (fop .quo (fint a1) 4611686018427387904)] from rfl) (Reps.none _ _)))); intro v218 w45 ho46 hb hg_ hnew_; clear hg_ hnew_; (first | rw [← Ny217.out] at ho46 | (simp only [Int.reduceToNat] at ho46; rw [← Ny217.out] at ho46)); have n0_ := Aside0.mk (Kd.R_lower ho46 (below_size (by repeat (first | (with_reducible first | exact HB.out | apply below_alloc | apply pw_below_drewN | apply below_drew1) | exact HB.out)))); have n1_ := Aside0.mk (below_step (by repeat (first | (with_reducible first | exact HB.out | apply below_alloc | apply pw_below_drewN | apply below_drew1) | exact HB.out)) hb); clear HB; have HO219 := n0_; have HB := n1_; clear n0_ n1_; clear hb ho46; obtain ⟨Ao47, co47, eo47⟩ := Kd.R_slice HO219.out; subst eo47) | ((with_reducible refine gate_callee (f := 31) rfl ?_); refine goesL_ (some 76) rfl rfl Try.func31 (by kernel_rfl) rfl #[.slice Ao47 y217.length co47] rfl (by (try simp only [List.map_toArray, List.map_cons, List.map_nil]); first | done | rfl | (simp only [List.length_drop, List.length_take]; rfl)) ?_; (with_reducible refine (vec_Sum.calls kj12 _ _ y217 t220 t221 _ ?side1 ?side2 A24.out).mono ?_); (case side1 => repeat (first | exact (Kd.R_reads' HO219.out).2.2 | (with_reducible refine Kd.C_alloc ?_ _) | (with_reducible refine Kd.C_drewN ?_ _) | (with_reducible refine Kd.C_drew ?_))); (case side2 => exact (Kd.R_reads' HO219.out).2.1); rintro e w48 ⟨rfl, hb⟩; refine ⟨_, rfl, ?_⟩; have n0_ := Aside0.mk (Kd.R_below (by (with_reducible repeat (first | apply Kd.R_alloc | apply Kd.R_drewN | apply Kd.R_drew)); exact HO219.out) hb); have n1_ := Aside0.mk (below_step (by repeat (first | (with_reducible first | exact HB.out | apply below_alloc | apply pw_below_drewN | apply below_drew1) | exact HB.out)) hb); clear HO219; clear HB; have HO219 := n0_; have HB := n1_; clear n0_ n1_; (try clear hb); (try clear hb2); (try clear hk); (try clear hi)) | ((with_reducible refine gate_callee (f := 34) rfl ?_); refine goesL_ (some 81) rfl rfl Try.func34 (by kernel_rfl) rfl #[.complex .f64 (fop .quo (fint a0) 4611686018427387904) (fop .quo (fint a1) 4611686018427387904), .int .i64 1] rfl (by (try simp only [List.map_toArray, List.map_cons, List.map_nil]); first | done | rfl | (simp only [List.length_drop, List.length_take]; rfl)) ?_; (with_reducible refine (vec_Scale.calls (⟨(fop .quo (fint a0) 4611686018427387904), (fop .quo (fint a1) 4611686018427387904)⟩ : C128) 1 t222 t223 _ A25.out).mono ?_); rintro e w49 ⟨rfl, hb⟩; refine ⟨_, rfl, ?_⟩; have n0_ := Aside0.mk (Kd.R_below (by (with_reducible repeat (first | apply Kd.R_alloc | apply Kd.R_drewN | apply Kd.R_drew)); exact HO219.out) hb); have n1_ := Aside0.mk (below_step (by repeat (first | (with_reducible first | exact HB.out | apply below_alloc | apply pw_below_drewN | apply below_drew1) | exact HB.out)) hb); clear HO219; clear HB; have HO219 := n0_; have HB := n1_; clear n0_ n1_; (try clear hb); (try clear hb2); (try clear hk); (try clear hi)) | (go_at_call 35; (with_reducible refine (vec_Cross.calls kj12 (⟨(fop .quo (fint a0) 4611686018427387904), (fop .quo (fint a1) 4611686018427387904)⟩ : C128) (⟨4607182418800017408, 0⟩ : C128) t224 _ A38.out).mono ?_); rintro e w50 ⟨rfl, hb⟩; have n0_ := Aside0.mk (Kd.R_below (by (with_reducible repeat (first | apply Kd.R_alloc | apply Kd.R_drewN | apply Kd.R_drew)); exact HO219.out) hb); have n1_ := Aside0.mk (below_step (by repeat (first | (with_reducible first | exact HB.out | apply below_alloc | apply pw_below_drewN | apply below_drew1) | exact HB.out)) hb); clear HO219; clear HB; have HO219 := n0_; have HB := n1_; clear n0_ n1_; (try clear hb); (try clear hb2); (try clear hk); (try clear hi)) | (go_at_call 30; (with_reducible refine (coraclelaw15_pair.calls 1 1 t225 _ A40.out).mono ?_); rintro e w51 ⟨rfl, hb⟩; have n0_ := Aside0.mk (Kd.R_below (by (with_reducible repeat (first | apply Kd.R_alloc | apply Kd.R_drewN | apply Kd.R_drew)); exact HO219.out) hb); have n1_ := Aside0.mk (below_step (by repeat (first | (with_reducible first | exact HB.out | apply below_alloc | apply pw_below_drewN | apply below_drew1) | exact HB.out)) hb); clear HO219; clear HB; have HO219 := n0_; have HB := n1_; clear n0_ n1_; (try clear hb); (try clear hb2); (try clear hk); (try clear hi)) | (go_at_call 35; (with_reducible refine (vec_Cross.calls kj12 t225 (⟨(fop .quo (fint a0) 4611686018427387904), (fop .quo (fint a1) 4611686018427387904)⟩ : C128) t226 _ A41.out).mono ?_); rintro e w52 ⟨rfl, hb⟩; have n0_ := Aside0.mk (Kd.R_below (by (with_reducible repeat (first | apply Kd.R_alloc | apply Kd.R_drewN | apply Kd.R_drew)); exact HO219.out) hb); have n1_ := Aside0.mk (below_step (by repeat (first | (with_reducible first | exact HB.out | apply below_alloc | apply pw_below_drewN | apply below_drew1) | exact HB.out)) hb); clear HO219; clear HB; have HO219 := n0_; have HB := n1_; clear n0_ n1_; (try clear hb); (try clear hb2); (try clear hk); (try clear hi)) | (go_at_call 36; (with_reducible refine (vec_Steeper.calls kj12 (⟨(fop .quo (fint a0) 4611686018427387904), (fop .quo (fint a1) 4611686018427387904)⟩ : C128) (⟨4607182418800017408, 0⟩ : C128) true _ A43.out).mono ?_); rintro e w53 ⟨rfl, hb⟩; have n0_ := Aside0.mk (Kd.R_below (by (with_reducible repeat (first | apply Kd.R_alloc | apply Kd.R_drewN | apply Kd.R_drew)); exact HO219.out) hb); have n1_ := Aside0.mk (below_step (by repeat (first | (with_reducible first | exact HB.out | apply below_alloc | apply pw_below_drewN | apply below_drew1) | exact HB.out)) hb); clear HO219; clear HB; have HO219 := n0_; have HB := n1_; clear n0_ n1_; (try clear hb); (try clear hb2); (try clear hk); (try clear hi)))
                                      go_ret
                                      exact ⟨by first | rfl | (simp [errW_none, errW_some] <;> rfl) | (simp [*, errW_none, errW_some] <;> rfl), by repeat (first | (with_reducible first | exact HB.out | apply below_alloc | apply pw_below_drewN | apply below_drew1) | exact HB.out)⟩
                                    · replace c44 := Bool.eq_false_iff.mpr c44
                                      subst c44
                                      have H1 : ((coraclelaw15_awake.f kj12).bind fun t228 => (some t228)) = some r := by rw [if_neg (show ¬ (false = true) by decide)] at H; exact H
                                      clear H
                                      have H := H1
                                      clear H1
                                      replace H := Option.bind_eq_some_iff.mp H
                                      obtain ⟨t228, A540, H⟩ := H
                                      replace H : (some t228) = some r := H
                                      have A54 := Aside0.mk A540
                                      clear A540
                                      obtain rfl := Option.some.inj H
                                      go_wp2_with (first | ((with_reducible refine gate_dst (N := 75) rfl ?_); refine Kd.R_lit Kd.c128 _ 37 ?hg (N := 75) ?hd (xs := ([(⟨4607182418800017408, 0⟩ : C128), (⟨(fop .quo (fint a0) 4611686018427387904), (fop .quo (fint a1) 4611686018427387904)⟩ : C128)] : List C128)) (inner := [.complex .f64 4607182418800017408 0, .complex .f64 (fop .quo (fint a0) 4611686018427387904) (fop .quo (fint a1) 4611686018427387904)]) (ok := fun _ => True) (okp := fun _ => True) ?hr ?hp (fun _ hk => hk) trivial (Below.refl _ _) (Nat.le_refl _) (by simp) ?_; (case hd => rfl); (case hg => rfl); (case hr => first | (go_simp; done) | (go_simp; rfl)); (case hp => exact (Reps.one (show Kd.M Kd.c128 _ _ _ (⟨4607182418800017408, 0⟩ : C128) [.complex .f64 4607182418800017408 0] from rfl) (Reps.one (show Kd.M Kd.c128 _ _ _ (⟨(fop .quo (fint a0) 4611686018427387904), (fop .quo (fint a1) 4611686018427387904)⟩ : C128) [.complex .f64 (fop .quo (fint a0) 4611686018427387904) (fop .quo (fint a1) 4611686018427387904)] from rfl) (Reps.none _ _)))); intro v218 w55 ho56 hb hg_ hnew_; clear hg_ hnew_; (first | rw [← Ny217.out] at ho56 | (simp only [Int.reduceToNat] at ho56; rw [← Ny217.out] at ho56)); have n0_ := Aside0.mk (Kd.R_lower ho56 (below_size (by repeat (first | (with_reducible first | exact HB.out | apply below_alloc | apply pw_below_drewN | apply below_drew1) | exact HB.out)))); have n1_ := Aside0.mk (below_step (by repeat (first | (with_reducible first | exact HB.out | apply below_alloc | apply pw_below_drewN | apply below_drew1) | exact HB.out)) hb); clear HB; have HO219 := n0_; have HB := n1_; clear n0_ n1_; clear hb ho56; obtain ⟨Ao57, co57, eo57⟩ := Kd.R_slice HO219.out; subst eo57) | ((with_reducible refine gate_callee (f := 31) rfl ?_); refine goesL_ (some 76) rfl rfl Try.func31 (by kernel_rfl) rfl #[.slice Ao57 y217.length co57] rfl (by (try simp only [List.map_toArray, List.map_cons, List.map_nil]); first | done | rfl | (simp only [List.length_drop, List.length_take]; rfl)) ?_; (with_reducible refine (vec_Sum.calls kj12 _ _ y217 t220 t221 _ ?side1 ?side2 A24.out).mono ?_); (case side1 => repeat (first | exact (Kd.R_reads' HO219.out).2.2 | (with_reducible refine Kd.C_alloc ?_ _) | (with_reducible refine Kd.C_drewN ?_ _) | (with_reducible refine Kd.C_drew ?_))); (case side2 => exact (Kd.R_reads' HO219.out).2.1); rintro e w58 ⟨rfl, hb⟩; refine ⟨_, rfl, ?_⟩; have n0_ := Aside0.mk (Kd.R_below (by (with_reducible repeat (first | apply Kd.R_alloc | apply Kd.R_drewN | apply Kd.R_drew)); exact HO219.out) hb); have n1_ := Aside0.mk (below_step (by repeat (first | (with_reducible first | exact HB.out | apply below_alloc | apply pw_below_drewN | apply below_drew1) | exact HB.out)) hb); clear HO219; clear HB; have HO219 := n0_; have HB := n1_; clear n0_ n1_; (try clear hb); (try clear hb2); (try clear hk); (try clear hi)) | ((with_reducible refine gate_callee (f := 34) rfl ?_); refine goesL_ (some 81) rfl rfl Try.func34 (by kernel_rfl) rfl #[.complex .f64 (fop .quo (fint a0) 4611686018427387904) (fop .quo (fint a1) 4611686018427387904), .int .i64 1] rfl (by (try simp only [List.map_toArray, List.map_cons, List.map_nil]); first | done | rfl | (simp only [List.length_drop, List.length_take]; rfl)) ?_; (with_reducible refine (vec_Scale.calls (⟨(fop .quo (fint a0) 4611686018427387904), (fop .quo (fint a1) 4611686018427387904)⟩ : C128) 1 t222 t223 _ A25.out).mono ?_); rintro e w59 ⟨rfl, hb⟩; refine ⟨_, rfl, ?_⟩; have n0_ := Aside0.mk (Kd.R_below (by (with_reducible repeat (first | apply Kd.R_alloc | apply Kd.R_drewN | apply Kd.R_drew)); exact HO219.out) hb); have n1_ := Aside0.mk (below_step (by repeat (first | (with_reducible first | exact HB.out | apply below_alloc | apply pw_below_drewN | apply below_drew1) | exact HB.out)) hb); clear HO219; clear HB; have HO219 := n0_; have HB := n1_; clear n0_ n1_; (try clear hb); (try clear hb2); (try clear hk); (try clear hi)) | (go_at_call 35; (with_reducible refine (vec_Cross.calls kj12 (⟨(fop .quo (fint a0) 4611686018427387904), (fop .quo (fint a1) 4611686018427387904)⟩ : C128) (⟨4607182418800017408, 0⟩ : C128) t224 _ A38.out).mono ?_); rintro e w60 ⟨rfl, hb⟩; have n0_ := Aside0.mk (Kd.R_below (by (with_reducible repeat (first | apply Kd.R_alloc | apply Kd.R_drewN | apply Kd.R_drew)); exact HO219.out) hb); have n1_ := Aside0.mk (below_step (by repeat (first | (with_reducible first | exact HB.out | apply below_alloc | apply pw_below_drewN | apply below_drew1) | exact HB.out)) hb); clear HO219; clear HB; have HO219 := n0_; have HB := n1_; clear n0_ n1_; (try clear hb); (try clear hb2); (try clear hk); (try clear hi)) | (go_at_call 30; (with_reducible refine (coraclelaw15_pair.calls 1 1 t225 _ A40.out).mono ?_); rintro e w61 ⟨rfl, hb⟩; have n0_ := Aside0.mk (Kd.R_below (by (with_reducible repeat (first | apply Kd.R_alloc | apply Kd.R_drewN | apply Kd.R_drew)); exact HO219.out) hb); have n1_ := Aside0.mk (below_step (by repeat (first | (with_reducible first | exact HB.out | apply below_alloc | apply pw_below_drewN | apply below_drew1) | exact HB.out)) hb); clear HO219; clear HB; have HO219 := n0_; have HB := n1_; clear n0_ n1_; (try clear hb); (try clear hb2); (try clear hk); (try clear hi)) | (go_at_call 35; (with_reducible refine (vec_Cross.calls kj12 t225 (⟨(fop .quo (fint a0) 4611686018427387904), (fop .quo (fint a1) 4611686018427387904)⟩ : C128) t226 _ A41.out).mono ?_); rintro e w62 ⟨rfl, hb⟩; have n0_ := Aside0.mk (Kd.R_below (by (with_reducible repeat (first | apply Kd.R_alloc | apply Kd.R_drewN | apply Kd.R_drew)); exact HO219.out) hb); have n1_ := Aside0.mk (below_step (by repeat (first | (with_reducible first | exact HB.out | apply below_alloc | apply pw_below_drewN | apply below_drew1) | exact HB.out)) hb); clear HO219; clear HB; have HO219 := n0_; have HB := n1_; clear n0_ n1_; (try clear hb); (try clear hb2); (try clear hk); (try clear hi)) | (go_at_call 36; (with_reducible refine (vec_Steeper.calls kj12 (⟨(fop .quo (fint a0) 4611686018427387904), (fop .quo (fint a1) 4611686018427387904)⟩ : C128) (⟨4607182418800017408, 0⟩ : C128) false _ A43.out).mono ?_); rintro e w63 ⟨rfl, hb⟩; have n0_ := Aside0.mk (Kd.R_below (by (with_reducible repeat (first | apply Kd.R_alloc | apply Kd.R_drewN | apply Kd.R_drew)); exact HO219.out) hb); have n1_ := Aside0.mk (below_step (by repeat (first | (with_reducible first | exact HB.out | apply below_alloc | apply pw_below_drewN | apply below_drew1) | exact HB.out)) hb); clear HO219; clear HB; have HO219 := n0_; have HB := n1_; clear n0_ n1_; (try clear hb); (try clear hb2); (try clear hk); (try clear hi)) | (go_at_call 28; (with_reducible refine (coraclelaw15_awake.calls kj12  t228 _ A54.out).mono ?_); rintro e w64 ⟨rfl, hb⟩; have n0_ := Aside0.mk (Kd.R_below (by (with_reducible repeat (first | apply Kd.R_alloc | apply Kd.R_drewN | apply Kd.R_drew)); exact HO219.out) hb); have n1_ := Aside0.mk (below_step (by repeat (first | (with_reducible first | exact HB.out | apply below_alloc | apply pw_below_drewN | apply below_drew1) | exact HB.out)) hb); clear HO219; clear HB; have HO219 := n0_; have HB := n1_; clear n0_ n1_; (try clear hb); (try clear hb2); (try clear hk); (try clear hi)))
                                      go_ret
                                      exact ⟨by first | rfl | (simp [errW_none, errW_some] <;> rfl) | (simp [*, errW_none, errW_some] <;> rfl), by repeat (first | (with_reducible first | exact HB.out | apply below_alloc | apply pw_below_drewN | apply below_drew1) | exact HB.out)⟩
                                  · rw [if_neg c42] at H
                                    have c42b0 : (t226 == 0) = false := beq_eq_false_iff_ne.mpr c42
                                    have c42b1 : (t226 != 0) = true := bne_iff_ne.mpr c42
                                    obtain rfl := Option.some.inj H
                                    go_wp2_with (first | ((with_reducible refine gate_dst (N := 75) rfl ?_); refine Kd.R_lit Kd.c128 _ 37 ?hg (N := 75) ?hd (xs := ([(⟨4607182418800017408, 0⟩ : C128), (⟨(fop .quo (fint a0) 4611686018427387904), (fop .quo (fint a1) 4611686018427387904)⟩ : C128)] : List C128)) (inner := [.complex .f64 4607182418800017408 0, .complex .f64 (fop .quo (fint a0) 4611686018427387904) (fop .quo (fint a1) 4611686018427387904)]) (ok := fun _ => True) (okp := fun _ => True) ?hr ?hp (fun _ hk => hk) trivial (Below.refl _ _) (Nat.le_refl _) (by simp) ?_; (case hd => rfl); (case hg => rfl); (case hr => first | (go_simp; done) | (go_simp; rfl)); (case hp => exact (Reps.one (show Kd.M Kd.c128 _ _ _ (⟨4607182418800017408, 0⟩ : C128) [.complex .f64 4607182418800017408 0] from rfl) (Reps.one (show Kd.M Kd.c128 _ _ _ (⟨(fop .quo (fint a0) 4611686018427387904), (fop .quo (fint a1) 4611686018427387904)⟩ : C128) [.complex .f64 (fop .quo (fint a0) 4611686018427387904) (fop .quo (fint a1) 4611686018427387904)] from rfl) (Reps.none _ _)))); intro v218 w65 ho66 hb hg_ hnew_; clear hg_ hnew_; (first | rw [← Ny217.out] at ho66 | (simp only [Int.reduceToNat] at ho66; rw [← Ny217.out] at ho66)); have n0_ := Aside0.mk (Kd.R_lower ho66 (below_size (by repeat (first | (with_reducible first | exact HB.out | apply below_alloc | apply pw_below_drewN | apply below_drew1) | exact HB.out)))); have n1_ := Aside0.mk (below_step (by repeat (first | (with_reducible first | exact HB.out | apply below_alloc | apply pw_below_drewN | apply below_drew1) | exact HB.out)) hb); clear HB; have HO219 := n0_; have HB := n1_; clear n0_ n1_; clear hb ho66; obtain ⟨Ao67, co67, eo67⟩ := Kd.R_slice HO219.out; subst eo67) | ((with_reducible refine gate_callee (f := 31) rfl ?_); refine goesL_ (some 76) rfl rfl Try.func31 (by kernel_rfl) rfl #[.slice Ao67 y217.length co67] rfl (by (try simp only [List.map_toArray, List.map_cons, List.map_nil]); first | done | rfl | (simp only [List.length_drop, List.length_take]; rfl)) ?_; (with_reducible refine (vec_Sum.calls kj12 _ _ y217 t220 t221 _ ?side1 ?side2 A24.out).mono ?_); (case side1 => repeat (first | exact (Kd.R_reads' HO219.out).2.2 | (with_reducible refine Kd.C_alloc ?_ _) | (with_reducible refine Kd.C_drewN ?_ _) | (with_reducible refine Kd.C_drew ?_))); (case side2 => exact (Kd.R_reads' HO219.out).2.1); rintro e w68 ⟨rfl, hb⟩; refine ⟨_, rfl, ?_⟩; have n0_ := Aside0.mk (Kd.R_below (by (with_reducible repeat (first | apply Kd.R_alloc | apply Kd.R_drewN | apply Kd.R_drew)); exact HO219.out) hb); have n1_ := Aside0.mk (below_step (by repeat (first | (with_reducible first | exact HB.out | apply below_alloc | apply pw_below_drewN | apply below_drew1) | exact HB.out)) hb); clear HO219; clear HB; have HO219 := n0_; have HB := n1_; clear n0_ n1_; (try clear hb); (try clear hb2); (try clear hk); (try clear hi)) | ((with_reducible refine gate_callee (f := 34) rfl ?_); refine goesL_ (some 81) rfl rfl Try.func34 (by kernel_rfl) rfl #[.complex .f64 (fop .quo (fint a0) 4611686018427387904) (fop .quo (fint a1) 4611686018427387904), .int .i64 1] rfl (by (try simp only [List.map_toArray, List.map_cons, List.map_nil]); first | done | rfl | (simp only [List.length_drop, List.length_take]; rfl)) ?_; (with_reducible refine (vec_Scale.calls (⟨(fop .quo (fint a0) 4611686018427387904), (fop .quo (fint a1) 4611686018427387904)⟩ : C128) 1 t222 t223 _ A25.out).mono ?_); rintro e w69 ⟨rfl, hb⟩; refine ⟨_, rfl, ?_⟩; have n0_ := Aside0.mk (Kd.R_below (by (with_reducible repeat (first | apply Kd.R_alloc | apply Kd.R_drewN | apply Kd.R_drew)); exact HO219.out) hb); have n1_ := Aside0.mk (below_step (by repeat (first | (with_reducible first | exact HB.out | apply below_alloc | apply pw_below_drewN | apply below_drew1) | exact HB.out)) hb); clear HO219; clear HB; have HO219 := n0_; have HB := n1_; clear n0_ n1_; (try clear hb); (try clear hb2); (try clear hk); (try clear hi)) | (go_at_call 35; (with_reducible refine (vec_Cross.calls kj12 (⟨(fop .quo (fint a0) 4611686018427387904), (fop .quo (fint a1) 4611686018427387904)⟩ : C128) (⟨4607182418800017408, 0⟩ : C128) t224 _ A38.out).mono ?_); rintro e w70 ⟨rfl, hb⟩; have n0_ := Aside0.mk (Kd.R_below (by (with_reducible repeat (first | apply Kd.R_alloc | apply Kd.R_drewN | apply Kd.R_drew)); exact HO219.out) hb); have n1_ := Aside0.mk (below_step (by repeat (first | (with_reducible first | exact HB.out | apply below_alloc | apply pw_below_drewN | apply below_drew1) | exact HB.out)) hb); clear HO219; clear HB; have HO219 := n0_; have HB := n1_; clear n0_ n1_; (try clear hb); (try clear hb2); (try clear hk); (try clear hi)) | (go_at_call 30; (with_reducible refine (coraclelaw15_pair.calls 1 1 t225 _ A40.out).mono ?_); rintro e w71 ⟨rfl, hb⟩; have n0_ := Aside0.mk (Kd.R_below (by (with_reducible repeat (first | apply Kd.R_alloc | apply Kd.R_drewN | apply Kd.R_drew)); exact HO219.out) hb); have n1_ := Aside0.mk (below_step (by repeat (first | (with_reducible first | exact HB.out | apply below_alloc | apply pw_below_drewN | apply below_drew1) | exact HB.out)) hb); clear HO219; clear HB; have HO219 := n0_; have HB := n1_; clear n0_ n1_; (try clear hb); (try clear hb2); (try clear hk); (try clear hi)) | (go_at_call 35; (with_reducible refine (vec_Cross.calls kj12 t225 (⟨(fop .quo (fint a0) 4611686018427387904), (fop .quo (fint a1) 4611686018427387904)⟩ : C128) t226 _ A41.out).mono ?_); rintro e w72 ⟨rfl, hb⟩; have n0_ := Aside0.mk (Kd.R_below (by (with_reducible repeat (first | apply Kd.R_alloc | apply Kd.R_drewN | apply Kd.R_drew)); exact HO219.out) hb); have n1_ := Aside0.mk (below_step (by repeat (first | (with_reducible first | exact HB.out | apply below_alloc | apply pw_below_drewN | apply below_drew1) | exact HB.out)) hb); clear HO219; clear HB; have HO219 := n0_; have HB := n1_; clear n0_ n1_; (try clear hb); (try clear hb2); (try clear hk); (try clear hi)))
                                    go_ret
                                    exact ⟨by first | rfl | (simp [errW_none, errW_some] <;> rfl) | (simp [*, errW_none, errW_some] <;> rfl), by repeat (first | (with_reducible first | exact HB.out | apply below_alloc | apply pw_below_drewN | apply below_drew1) | exact HB.out)⟩
                                · rw [if_neg c39] at H
                                  have c39b0 : (t224 == 0) = false := beq_eq_false_iff_ne.mpr c39
                                  have c39b1 : (t224 != 0) = true := bne_iff_ne.mpr c39
                                  obtain rfl := Option.some.inj H
                                  go_wp2_with (first | ((with_reducible refine gate_dst (N := 75) rfl ?_); refine Kd.R_lit Kd.c128 _ 37 ?hg (N := 75) ?hd (xs := ([(⟨4607182418800017408, 0⟩ : C128), (⟨(fop .quo (fint a0) 4611686018427387904), (fop .quo (fint a1) 4611686018427387904)⟩ : C128)] : List C128)) (inner := [.complex .f64 4607182418800017408 0, .complex .f64 (fop .quo (fint a0) 4611686018427387904) (fop .quo (fint a1) 4611686018427387904)]) (ok := fun _ => True) (okp := fun _ => True) ?hr ?hp (fun _ hk => hk) trivial (Below.refl _ _) (Nat.le_refl _) (by simp) ?_; (case hd => rfl); (case hg => rfl); (case hr => first | (go_simp; done) | (go_simp; rfl)); (case hp => exact (Reps.one (show Kd.M Kd.c128 _ _ _ (⟨4607182418800017408, 0⟩ : C128) [.complex .f64 4607182418800017408 0] from rfl) (Reps.one (show Kd.M Kd.c128 _ _ _ (⟨(fop .quo (fint a0) 4611686018427387904), (fop .quo (fint a1) 4611686018427387904)⟩ : C128) [.complex .f64 (fop .quo (fint a0) 4611686018427387904) (fop .quo (fint a1) 4611686018427387904)] from rfl) (Reps.none _ _)))); intro v218 w73 ho74 hb hg_ hnew_; clear hg_ hnew_; (first | rw [← Ny217.out] at ho74 | (simp only [Int.reduceToNat] at ho74; rw [← Ny217.out] at ho74)); have n0_ := Aside0.mk (Kd.R_lower ho74 (below_size (by repeat (first | (with_reducible first | exact HB.out | apply below_alloc | apply pw_below_drewN | apply below_drew1) | exact HB.out)))); have n1_ := Aside0.mk (below_step (by repeat (first | (with_reducible first | exact HB.out | apply below_alloc | apply pw_below_drewN | apply below_drew1) | exact HB.out)) hb); clear HB; have HO219 := n0_; have HB := n1_; clear n0_ n1_; clear hb ho74; obtain ⟨Ao75, co75, eo75⟩ := Kd.R_slice HO219.out; subst eo75) | ((with_reducible refine gate_callee (f := 31) rfl ?_); refine goesL_ (some 76) rfl rfl Try.func31 (by kernel_rfl) rfl #[.slice Ao75 y217.length co75] rfl (by (try simp only [List.map_toArray, List.map_cons, List.map_nil]); first | done | rfl | (simp only [List.length_drop, List.length_take]; rfl)) ?_; (with_reducible refine (vec_Sum.calls kj12 _ _ y217 t220 t221 _ ?side1 ?side2 A24.out).mono ?_); (case side1 => repeat (first | exact (Kd.R_reads' HO219.out).2.2 | (with_reducible refine Kd.C_alloc ?_ _) | (with_reducible refine Kd.C_drewN ?_ _) | (with_reducible refine Kd.C_drew ?_))); (case side2 => exact (Kd.R_reads' HO219.out).2.1); rintro e w76 ⟨rfl, hb⟩; refine ⟨_, rfl, ?_⟩; have n0_ := Aside0.mk (Kd.R_below (by (with_reducible repeat (first | apply Kd.R_alloc | apply Kd.R_drewN | apply Kd.R_drew)); exact HO219.out) hb); have n1_ := Aside0.mk (below_step (by repeat (first | (with_reducible first | exact HB.out | apply below_alloc | apply pw_below_drewN | apply below_drew1) | exact HB.out)) hb); clear HO219; clear HB; have HO219 := n0_; have HB := n1_; clear n0_ n1_; (try clear hb); (try clear hb2); (try clear hk); (try clear hi)) | ((with_reducible refine gate_callee (f := 34) rfl ?_); refine goesL_ (some 81) rfl rfl Try.func34 (by kernel_rfl) rfl #[.complex .f64 (fop .quo (fint a0) 4611686018427387904) (fop .quo (fint a1) 4611686018427387904), .int .i64 1] rfl (by (try simp only [List.map_toArray, List.map_cons, List.map_nil]); first | done | rfl | (simp only [List.length_drop, List.length_take]; rfl)) ?_; (with_reducible refine (vec_Scale.calls (⟨(fop .quo (fint a0) 4611686018427387904), (fop .quo (fint a1) 4611686018427387904)⟩ : C128) 1 t222 t223 _ A25.out).mono ?_); rintro e w77 ⟨rfl, hb⟩; refine ⟨_, rfl, ?_⟩; have n0_ := Aside0.mk (Kd.R_below (by (with_reducible repeat (first | apply Kd.R_alloc | apply Kd.R_drewN | apply Kd.R_drew)); exact HO219.out) hb); have n1_ := Aside0.mk (below_step (by repeat (first | (with_reducible first | exact HB.out | apply below_alloc | apply pw_below_drewN | apply below_drew1) | exact HB.out)) hb); clear HO219; clear HB; have HO219 := n0_; have HB := n1_; clear n0_ n1_; (try clear hb); (try clear hb2); (try clear hk); (try clear hi)) | (go_at_call 35; (with_reducible refine (vec_Cross.calls kj12 (⟨(fop .quo (fint a0) 4611686018427387904), (fop .quo (fint a1) 4611686018427387904)⟩ : C128) (⟨4607182418800017408, 0⟩ : C128) t224 _ A38.out).mono ?_); rintro e w78 ⟨rfl, hb⟩; have n0_ := Aside0.mk (Kd.R_below (by (with_reducible repeat (first | apply Kd.R_alloc | apply Kd.R_drewN | apply Kd.R_drew)); exact HO219.out) hb); have n1_ := Aside0.mk (below_step (by repeat (first | (with_reducible first | exact HB.out | apply below_alloc | apply pw_below_drewN | apply below_drew1) | exact HB.out)) hb); clear HO219; clear HB; have HO219 := n0_; have HB := n1_; clear n0_ n1_; (try clear hb); (try clear hb2); (try clear hk); (try clear hi)))
                                  go_ret
                                  exact ⟨by first | rfl | (simp [errW_none, errW_some] <;> rfl) | (simp [*, errW_none, errW_some] <;> rfl), by repeat (first | (with_reducible first | exact HB.out | apply below_alloc | apply pw_below_drewN | apply below_drew1) | exact HB.out)⟩
                              · rw [if_neg c37] at H
                                have c37b0 : (ceq t222.re t222.im 0 0) = false := by simpa using c37
                                clear c37
                                obtain rfl := Option.some.inj H
                                go_wp2_with (first | ((with_reducible refine gate_dst (N := 75) rfl ?_); refine Kd.R_lit Kd.c128 _ 37 ?hg (N := 75) ?hd (xs := ([(⟨4607182418800017408, 0⟩ : C128), (⟨(fop .quo (fint a0) 4611686018427387904), (fop .quo (fint a1) 4611686018427387904)⟩ : C128)] : List C128)) (inner := [.complex .f64 4607182418800017408 0, .complex .f64 (fop .quo (fint a0) 4611686018427387904) (fop .quo (fint a1) 4611686018427387904)]) (ok := fun _ => True) (okp := fun _ => True) ?hr ?hp (fun _ hk => hk) trivial (Below.refl _ _) (Nat.le_refl _) (by simp) ?_; (case hd => rfl); (case hg => rfl); (case hr => first | (go_simp; done) | (go_simp; rfl)); (case hp => exact (Reps.one (show Kd.M Kd.c128 _ _ _ (⟨4607182418800017408, 0⟩ : C128) [.complex .f64 4607182418800017408 0] from rfl) (Reps.one (show Kd.M Kd.c128 _ _ _ (⟨(fop .quo (fint a0) 4611686018427387904), (fop .quo (fint a1) 4611686018427387904)⟩ : C128) [.complex .f64 (fop .quo (fint a0) 4611686018427387904) (fop .quo (fint a1) 4611686018427387904)] from rfl) (Reps.none _ _)))); intro v218 w79 ho80 hb hg_ hnew_; clear hg_ hnew_; (first | rw [← Ny217.out] at ho80 | (simp only [Int.reduceToNat] at ho80; rw [← Ny217.out] at ho80)); have n0_ := Aside0.mk (Kd.R_lower ho80 (below_size (by repeat (first | (with_reducible first | exact HB.out | apply below_alloc | apply pw_below_drewN | apply below_drew1) | exact HB.out)))); have n1_ := Aside0.mk (below_step (by repeat (first | (with_reducible first | exact HB.out | apply below_alloc | apply pw_below_drewN | apply below_drew1) | exact HB.out)) hb); clear HB; have HO219 := n0_; have HB := n1_; clear n0_ n1_; clear hb ho80; obtain ⟨Ao81, co81, eo81⟩ := Kd.R_slice HO219.out; subst eo81) | ((with_reducible refine gate_callee (f := 31) rfl ?_); refine goesL_ (some 76) rfl rfl Try.func31 (by kernel_rfl) rfl #[.slice Ao81 y217.length co81] rfl (by (try simp only [List.map_toArray, List.map_cons, List.map_nil]); first | done | rfl | (simp only [List.length_drop, List.length_take]; rfl)) ?_; (with_reducible refine (vec_Sum.calls kj12 _ _ y217 t220 t221 _ ?side1 ?side2 A24.out).mono ?_); (case side1 => repeat (first | exact (Kd.R_reads' HO219.out).2.2 | (with_reducible refine Kd.C_alloc ?_ _) | (with_reducible refine Kd.C_drewN ?_ _) | (with_reducible refine Kd.C_drew ?_))); (case side2 => exact (Kd.R_reads' HO219.out).2.1); rintro e w82 ⟨rfl, hb⟩; refine ⟨_, rfl, ?_⟩; have n0_ := Aside0.mk (Kd.R_below (by (with_reducible repeat (first | apply Kd.R_alloc | apply Kd.R_drewN | apply Kd.R_drew)); exact HO219.out) hb); have n1_ := Aside0.mk (below_step (by repeat (first | (with_reducible first | exact HB.out | apply below_alloc | apply pw_below_drewN | apply below_drew1) | exact HB.out)) hb); clear HO219; clear HB; have HO219 := n0_; have HB := n1_; clear n0_ n1_; (try clear hb); (try clear hb2); (try clear hk); (try clear hi)) | ((with_reducible refine gate_callee (f := 34) rfl ?_); refine goesL_ (some 81) rfl rfl Try.func34 (by kernel_rfl) rfl #[.complex .f64 (fop .quo (fint a0) 4611686018427387904) (fop .quo (fint a1) 4611686018427387904), .int .i64 1] rfl (by (try simp only [List.map_toArray, List.map_cons, List.map_nil]); first | done | rfl | (simp only [List.length_drop, List.length_take]; rfl)) ?_; (with_reducible refine (vec_Scale.calls (⟨(fop .quo (fint a0) 4611686018427387904), (fop .quo (fint a1) 4611686018427387904)⟩ : C128) 1 t222 t223 _ A25.out).mono ?_); rintro e w83 ⟨rfl, hb⟩; refine ⟨_, rfl, ?_⟩; have n0_ := Aside0.mk (Kd.R_below (by (with_reducible repeat (first | apply Kd.R_alloc | apply Kd.R_drewN | apply Kd.R_drew)); exact HO219.out) hb); have n1_ := Aside0.mk (below_step (by repeat (first | (with_reducible first | exact HB.out | apply below_alloc | apply pw_below_drewN | apply below_drew1) | exact HB.out)) hb); clear HO219; clear HB; have HO219 := n0_; have HB := n1_; clear n0_ n1_; (try clear hb); (try clear hb2); (try clear hk); (try clear hi)))
                                go_ret
                                exact ⟨by first | rfl | (simp [errW_none, errW_some] <;> rfl) | (simp [*, errW_none, errW_some] <;> rfl), by repeat (first | (with_reducible first | exact HB.out | apply below_alloc | apply pw_below_drewN | apply below_drew1) | exact HB.out)⟩
                            · rw [if_neg c36] at H
                              have c36b0 : (t223 == 11) = false := beq_eq_false_iff_ne.mpr c36
                              have c36b1 : (t223 != 11) = true := bne_iff_ne.mpr c36
                              obtain rfl := Option.some.inj H
                              go_wp2_with (first | ((with_reducible refine gate_dst (N := 75) rfl ?_); refine Kd.R_lit Kd.c128 _ 37 ?hg (N := 75) ?hd (xs := ([(⟨4607182418800017408, 0⟩ : C128), (⟨(fop .quo (fint a0) 4611686018427387904), (fop .quo (fint a1) 4611686018427387904)⟩ : C128)] : List C128)) (inner := [.complex .f64 4607182418800017408 0, .complex .f64 (fop .quo (fint a0) 4611686018427387904) (fop .quo (fint a1) 4611686018427387904)]) (ok := fun _ => True) (okp := fun _ => True) ?hr ?hp (fun _ hk => hk) trivial (Below.refl _ _) (Nat.le_refl _) (by simp) ?_; (case hd => rfl); (case hg => rfl); (case hr => first | (go_simp; done) | (go_simp; rfl)); (case hp => exact (Reps.one (show Kd.M Kd.c128 _ _ _ (⟨4607182418800017408, 0⟩ : C128) [.complex .f64 4607182418800017408 0] from rfl) (Reps.one (show Kd.M Kd.c128 _ _ _ (⟨(fop .quo (fint a0) 4611686018427387904), (fop .quo (fint a1) 4611686018427387904)⟩ : C128) [.complex .f64 (fop .quo (fint a0) 4611686018427387904) (fop .quo (fint a1) 4611686018427387904)] from rfl) (Reps.none _ _)))); intro v218 w84 ho85 hb hg_ hnew_; clear hg_ hnew_; (first | rw [← Ny217.out] at ho85 | (simp only [Int.reduceToNat] at ho85; rw [← Ny217.out] at ho85)); have n0_ := Aside0.mk (Kd.R_lower ho85 (below_size (by repeat (first | (with_reducible first | exact HB.out | apply below_alloc | apply pw_below_drewN | apply below_drew1) | exact HB.out)))); have n1_ := Aside0.mk (below_step (by repeat (first | (with_reducible first | exact HB.out | apply below_alloc | apply pw_below_drewN | apply below_drew1) | exact HB.out)) hb); clear HB; have HO219 := n0_; have HB := n1_; clear n0_ n1_; clear hb ho85; obtain ⟨Ao86, co86, eo86⟩ := Kd.R_slice HO219.out; subst eo86) | ((with_reducible refine gate_callee (f := 31) rfl ?_); refine goesL_ (some 76) rfl rfl Try.func31 (by kernel_rfl) rfl #[.slice Ao86 y217.length co86] rfl (by (try simp only [List.map_toArray, List.map_cons, List.map_nil]); first | done | rfl | (simp only [List.length_drop, List.length_take]; rfl)) ?_; (with_reducible refine (vec_Sum.calls kj12 _ _ y217 t220 t221 _ ?side1 ?side2 A24.out).mono ?_); (case side1 => repeat (first | exact (Kd.R_reads' HO219.out).2.2 | (with_reducible refine Kd.C_alloc ?_ _) | (with_reducible refine Kd.C_drewN ?_ _) | (with_reducible refine Kd.C_drew ?_))); (case side2 => exact (Kd.R_reads' HO219.out).2.1); rintro e w87 ⟨rfl, hb⟩; refine ⟨_, rfl, ?_⟩; have n0_ := Aside0.mk (Kd.R_below (by (with_reducible repeat (first | apply Kd.R_alloc | apply Kd.R_drewN | apply Kd.R_drew)); exact HO219.out) hb); have n1_ := Aside0.mk (below_step (by repeat (first | (with_reducible first | exact HB.out | apply below_alloc | apply pw_below_drewN | apply below_drew1) | exact HB.out)) hb); clear HO219; clear HB; have HO219 := n0_; have HB := n1_; clear n0_ n1_; (try clear hb); (try clear hb2); (try clear hk); (try clear hi)) | ((with_reducible refine gate_callee (f := 34) rfl ?_); refine goesL_ (some 81) rfl rfl Try.func34 (by kernel_rfl) rfl #[.complex .f64 (fop .quo (fint a0) 4611686018427387904) (fop .quo (fint a1) 4611686018427387904), .int .i64 1] rfl (by (try simp only [List.map_toArray, List.map_cons, List.map_nil]); first | done | rfl | (simp only [List.length_drop, List.length_take]; rfl)) ?_; (with_reducible refine (vec_Scale.calls (⟨(fop .quo (fint a0) 4611686018427387904), (fop .quo (fint a1) 4611686018427387904)⟩ : C128) 1 t222 t223 _ A25.out).mono ?_); rintro e w88 ⟨rfl, hb⟩; refine ⟨_, rfl, ?_⟩; have n0_ := Aside0.mk (Kd.R_below (by (with_reducible repeat (first | apply Kd.R_alloc | apply Kd.R_drewN | apply Kd.R_drew)); exact HO219.out) hb); have n1_ := Aside0.mk (below_step (by repeat (first | (with_reducible first | exact HB.out | apply below_alloc | apply pw_below_drewN | apply below_drew1) | exact HB.out)) hb); clear HO219; clear HB; have HO219 := n0_; have HB := n1_; clear n0_ n1_; (try clear hb); (try clear hb2); (try clear hk); (try clear hi)))
                              go_ret
                              exact ⟨by first | rfl | (simp [errW_none, errW_some] <;> rfl) | (simp [*, errW_none, errW_some] <;> rfl), by repeat (first | (with_reducible first | exact HB.out | apply below_alloc | apply pw_below_drewN | apply below_drew1) | exact HB.out)⟩
                          · rw [if_neg c35] at H
                            have c35b0 : (ceq t220.re t220.im 0 0) = false := by simpa using c35
                            clear c35
                            obtain rfl := Option.some.inj H
                            go_wp2_with (first | ((with_reducible refine gate_dst (N := 75) rfl ?_); refine Kd.R_lit Kd.c128 _ 37 ?hg (N := 75) ?hd (xs := ([(⟨4607182418800017408, 0⟩ : C128), (⟨(fop .quo (fint a0) 4611686018427387904), (fop .quo (fint a1) 4611686018427387904)⟩ : C128)] : List C128)) (inner := [.complex .f64 4607182418800017408 0, .complex .f64 (fop .quo (fint a0) 4611686018427387904) (fop .quo (fint a1) 4611686018427387904)]) (ok := fun _ => True) (okp := fun _ => True) ?hr ?hp (fun _ hk => hk) trivial (Below.refl _ _) (Nat.le_refl _) (by simp) ?_; (case hd => rfl); (case hg => rfl); (case hr => first | (go_simp; done) | (go_simp; rfl)); (case hp => exact (Reps.one (show Kd.M Kd.c128 _ _ _ (⟨4607182418800017408, 0⟩ : C128) [.complex .f64 4607182418800017408 0] from rfl) (Reps.one (show Kd.M Kd.c128 _ _ _ (⟨(fop .quo (fint a0) 4611686018427387904), (fop .quo (fint a1) 4611686018427387904)⟩ : C128) [.complex .f64 (fop .quo (fint a0) 4611686018427387904) (fop .quo (fint a1) 4611686018427387904)] from rfl) (Reps.none _ _)))); intro v218 w89 ho90 hb hg_ hnew_; clear hg_ hnew_; (first | rw [← Ny217.out] at ho90 | (simp only [Int.reduceToNat] at ho90; rw [← Ny217.out] at ho90)); have n0_ := Aside0.mk (Kd.R_lower ho90 (below_size (by repeat (first | (with_reducible first | exact HB.out | apply below_alloc | apply pw_below_drewN | apply below_drew1) | exact HB.out)))); have n1_ := Aside0.mk (below_step (by repeat (first | (with_reducible first | exact HB.out | apply below_alloc | apply pw_below_drewN | apply below_drew1) | exact HB.out)) hb); clear HB; have HO219 := n0_; have HB := n1_; clear n0_ n1_; clear hb ho90; obtain ⟨Ao91, co91, eo91⟩ := Kd.R_slice HO219.out; subst eo91) | ((with_reducible refine gate_callee (f := 31) rfl ?_); refine goesL_ (some 76) rfl rfl Try.func31 (by kernel_rfl) rfl #[.slice Ao91 y217.length co91] rfl (by (try simp only [List.map_toArray, List.map_cons, List.map_nil]); first | done | rfl | (simp only [List.length_drop, List.length_take]; rfl)) ?_; (with_reducible refine (vec_Sum.calls kj12 _ _ y217 t220 t221 _ ?side1 ?side2 A24.out).mono ?_); (case side1 => repeat (first | exact (Kd.R_reads' HO219.out).2.2 | (with_reducible refine Kd.C_alloc ?_ _) | (with_reducible refine Kd.C_drewN ?_ _) | (with_reducible refine Kd.C_drew ?_))); (case side2 => exact (Kd.R_reads' HO219.out).2.1); rintro e w92 ⟨rfl, hb⟩; refine ⟨_, rfl, ?_⟩; have n0_ := Aside0.mk (Kd.R_below (by (with_reducible repeat (first | apply Kd.R_alloc | apply Kd.R_drewN | apply Kd.R_drew)); exact HO219.out) hb); have n1_ := Aside0.mk (below_step (by repeat (first | (with_reducible first | exact HB.out | apply below_alloc | apply pw_below_drewN | apply below_drew1) | exact HB.out)) hb); clear HO219; clear HB; have HO219 := n0_; have HB := n1_; clear n0_ n1_; (try clear hb); (try clear hb2); (try clear hk); (try clear hi)) | ((with_reducible refine gate_callee (f := 34) rfl ?_); refine goesL_ (some 81) rfl rfl Try.func34 (by kernel_rfl) rfl #[.complex .f64 (fop .quo (fint a0) 4611686018427387904) (fop .quo (fint a1) 4611686018427387904), .int .i64 1] rfl (by (try simp only [List.map_toArray, List.map_cons, List.map_nil]); first | done | rfl | (simp only [List.length_drop, List.length_take]; rfl)) ?_; (with_reducible refine (vec_Scale.calls (⟨(fop .quo (fint a0) 4611686018427387904), (fop .quo (fint a1) 4611686018427387904)⟩ : C128) 1 t222 t223 _ A25.out).mono ?_); rintro e w93 ⟨rfl, hb⟩; refine ⟨_, rfl, ?_⟩; have n0_ := Aside0.mk (Kd.R_below (by (with_reducible repeat (first | apply Kd.R_alloc | apply Kd.R_drewN | apply Kd.R_drew)); exact HO219.out) hb); have n1_ := Aside0.mk (below_step (by repeat (first | (with_reducible first | exact HB.out | apply below_alloc | apply pw_below_drewN | apply below_drew1) | exact HB.out)) hb); clear HO219; clear HB; have HO219 := n0_; have HB := n1_; clear n0_ n1_; (try clear hb); (try clear hb2); (try clear hk); (try clear hi)))
                            go_ret
                            exact ⟨by first | rfl | (simp [errW_none, errW_some] <;> rfl) | (simp [*, errW_none, errW_some] <;> rfl), by repeat (first | (with_reducible first | exact HB.out | apply below_alloc | apply pw_below_drewN | apply below_drew1) | exact HB.out)⟩
                        · rw [if_neg c34] at H
                          have c34b0 : (t221 == 11) = false := beq_eq_false_iff_ne.mpr c34
                          have c34b1 : (t221 != 11) = true := bne_iff_ne.mpr c34
                          obtain rfl := Option.some.inj H
                          go_wp2_with (first | ((with_reducible refine gate_dst (N := 75) rfl ?_); refine Kd.R_lit Kd.c128 _ 37 ?hg (N := 75) ?hd (xs := ([(⟨4607182418800017408, 0⟩ : C128), (⟨(fop .quo (fint a0) 4611686018427387904), (fop .quo (fint a1) 4611686018427387904)⟩ : C128)] : List C128)) (inner := [.complex .f64 4607182418800017408 0, .complex .f64 (fop .quo (fint a0) 4611686018427387904) (fop .quo (fint a1) 4611686018427387904)]) (ok := fun _ => True) (okp := fun _ => True) ?hr ?hp (fun _ hk => hk) trivial (Below.refl _ _) (Nat.le_refl _) (by simp) ?_; (case hd => rfl); (case hg => rfl); (case hr => first | (go_simp; done) | (go_simp; rfl)); (case hp => exact (Reps.one (show Kd.M Kd.c128 _ _ _ (⟨4607182418800017408, 0⟩ : C128) [.complex .f64 4607182418800017408 0] from rfl) (Reps.one (show Kd.M Kd.c128 _ _ _ (⟨(fop .quo (fint a0) 4611686018427387904), (fop .quo (fint a1) 4611686018427387904)⟩ : C128) [.complex .f64 (fop .quo (fint a0) 4611686018427387904) (fop .quo (fint a1) 4611686018427387904)] from rfl) (Reps.none _ _)))); intro v218 w94 ho95 hb hg_ hnew_; clear hg_ hnew_; (first | rw [← Ny217.out] at ho95 | (simp only [Int.reduceToNat] at ho95; rw [← Ny217.out] at ho95)); have n0_ := Aside0.mk (Kd.R_lower ho95 (below_size (by repeat (first | (with_reducible first | exact HB.out | apply below_alloc | apply pw_below_drewN | apply below_drew1) | exact HB.out)))); have n1_ := Aside0.mk (below_step (by repeat (first | (with_reducible first | exact HB.out | apply below_alloc | apply pw_below_drewN | apply below_drew1) | exact HB.out)) hb); clear HB; have HO219 := n0_; have HB := n1_; clear n0_ n1_; clear hb ho95; obtain ⟨Ao96, co96, eo96⟩ := Kd.R_slice HO219.out; subst eo96) | ((with_reducible refine gate_callee (f := 31) rfl ?_); refine goesL_ (some 76) rfl rfl Try.func31 (by kernel_rfl) rfl #[.slice Ao96 y217.length co96] rfl (by (try simp only [List.map_toArray, List.map_cons, List.map_nil]); first | done | rfl | (simp only [List.length_drop, List.length_take]; rfl)) ?_; (with_reducible refine (vec_Sum.calls kj12 _ _ y217 t220 t221 _ ?side1 ?side2 A24.out).mono ?_); (case side1 => repeat (first | exact (Kd.R_reads' HO219.out).2.2 | (with_reducible refine Kd.C_alloc ?_ _) | (with_reducible refine Kd.C_drewN ?_ _) | (with_reducible refine Kd.C_drew ?_))); (case side2 => exact (Kd.R_reads' HO219.out).2.1); rintro e w97 ⟨rfl, hb⟩; refine ⟨_, rfl, ?_⟩; have n0_ := Aside0.mk (Kd.R_below (by (with_reducible repeat (first | apply Kd.R_alloc | apply Kd.R_drewN | apply Kd.R_drew)); exact HO219.out) hb); have n1_ := Aside0.mk (below_step (by repeat (first | (with_reducible first | exact HB.out | apply below_alloc | apply pw_below_drewN | apply below_drew1) | exact HB.out)) hb); clear HO219; clear HB; have HO219 := n0_; have HB := n1_; clear n0_ n1_; (try clear hb); (try clear hb2); (try clear hk); (try clear hi)) | ((with_reducible refine gate_callee (f := 34) rfl ?_); refine goesL_ (some 81) rfl rfl Try.func34 (by kernel_rfl) rfl #[.complex .f64 (fop .quo (fint a0) 4611686018427387904) (fop .quo (fint a1) 4611686018427387904), .int .i64 1] rfl (by (try simp only [List.map_toArray, List.map_cons, List.map_nil]); first | done | rfl | (simp only [List.length_drop, List.length_take]; rfl)) ?_; (with_reducible refine (vec_Scale.calls (⟨(fop .quo (fint a0) 4611686018427387904), (fop .quo (fint a1) 4611686018427387904)⟩ : C128) 1 t222 t223 _ A25.out).mono ?_); rintro e w98 ⟨rfl, hb⟩; refine ⟨_, rfl, ?_⟩; have n0_ := Aside0.mk (Kd.R_below (by (with_reducible repeat (first | apply Kd.R_alloc | apply Kd.R_drewN | apply Kd.R_drew)); exact HO219.out) hb); have n1_ := Aside0.mk (below_step (by repeat (first | (with_reducible first | exact HB.out | apply below_alloc | apply pw_below_drewN | apply below_drew1) | exact HB.out)) hb); clear HO219; clear HB; have HO219 := n0_; have HB := n1_; clear n0_ n1_; (try clear hb); (try clear hb2); (try clear hk); (try clear hi)))
                          go_ret
                          exact ⟨by first | rfl | (simp [errW_none, errW_some] <;> rfl) | (simp [*, errW_none, errW_some] <;> rfl), by repeat (first | (with_reducible first | exact HB.out | apply below_alloc | apply pw_below_drewN | apply below_drew1) | exact HB.out)⟩
                      · rw [if_neg c33] at H
                        have c33b0 : (t214 == 0) = false := beq_eq_false_iff_ne.mpr c33
                        have c33b1 : (t214 != 0) = true := bne_iff_ne.mpr c33
                        obtain rfl := Option.some.inj H
                        go_wp2_with (first | ((with_reducible refine gate_dst (N := 75) rfl ?_); refine Kd.R_lit Kd.c128 _ 37 ?hg (N := 75) ?hd (xs := ([(⟨4607182418800017408, 0⟩ : C128), (⟨(fop .quo (fint a0) 4611686018427387904), (fop .quo (fint a1) 4611686018427387904)⟩ : C128)] : List C128)) (inner := [.complex .f64 4607182418800017408 0, .complex .f64 (fop .quo (fint a0) 4611686018427387904) (fop .quo (fint a1) 4611686018427387904)]) (ok := fun _ => True) (okp := fun _ => True) ?hr ?hp (fun _ hk => hk) trivial (Below.refl _ _) (Nat.le_refl _) (by simp) ?_; (case hd => rfl); (case hg => rfl); (case hr => first | (go_simp; done) | (go_simp; rfl)); (case hp => exact (Reps.one (show Kd.M Kd.c128 _ _ _ (⟨4607182418800017408, 0⟩ : C128) [.complex .f64 4607182418800017408 0] from rfl) (Reps.one (show Kd.M Kd.c128 _ _ _ (⟨(fop .quo (fint a0) 4611686018427387904), (fop .quo (fint a1) 4611686018427387904)⟩ : C128) [.complex .f64 (fop .quo (fint a0) 4611686018427387904) (fop .quo (fint a1) 4611686018427387904)] from rfl) (Reps.none _ _)))); intro v218 w99 ho100 hb hg_ hnew_; clear hg_ hnew_; (first | rw [← Ny217.out] at ho100 | (simp only [Int.reduceToNat] at ho100; rw [← Ny217.out] at ho100)); have n0_ := Aside0.mk (Kd.R_lower ho100 (below_size (by repeat (first | (with_reducible first | exact HB.out | apply below_alloc | apply pw_below_drewN | apply below_drew1) | exact HB.out)))); have n1_ := Aside0.mk (below_step (by repeat (first | (with_reducible first | exact HB.out | apply below_alloc | apply pw_below_drewN | apply below_drew1) | exact HB.out)) hb); clear HB; have HO219 := n0_; have HB := n1_; clear n0_ n1_; clear hb ho100; obtain ⟨Ao101, co101, eo101⟩ := Kd.R_slice HO219.out; subst eo101) | ((with_reducible refine gate_callee (f := 31) rfl ?_); refine goesL_ (some 76) rfl rfl Try.func31 (by kernel_rfl) rfl #[.slice Ao101 y217.length co101] rfl (by (try simp only [List.map_toArray, List.map_cons, List.map_nil]); first | done | rfl | (simp only [List.length_drop, List.length_take]; rfl)) ?_; (with_reducible refine (vec_Sum.calls kj12 _ _ y217 t220 t221 _ ?side1 ?side2 A24.out).mono ?_); (case side1 => repeat (first | exact (Kd.R_reads' HO219.out).2.2 | (with_reducible refine Kd.C_alloc ?_ _) | (with_reducible refine Kd.C_drewN ?_ _) | (with_reducible refine Kd.C_drew ?_))); (case side2 => exact (Kd.R_reads' HO219.out).2.1); rintro e w102 ⟨rfl, hb⟩; refine ⟨_, rfl, ?_⟩; have n0_ := Aside0.mk (Kd.R_below (by (with_reducible repeat (first | apply Kd.R_alloc | apply Kd.R_drewN | apply Kd.R_drew)); exact HO219.out) hb); have n1_ := Aside0.mk (below_step (by repeat (first | (with_reducible first | exact HB.out | apply below_alloc | apply pw_below_drewN | apply below_drew1) | exact HB.out)) hb); clear HO219; clear HB; have HO219 := n0_; have HB := n1_; clear n0_ n1_; (try clear hb); (try clear hb2); (try clear hk); (try clear hi)) | ((with_reducible refine gate_callee (f := 34) rfl ?_); refine goesL_ (some 81) rfl rfl Try.func34 (by kernel_rfl) rfl #[.complex .f64 (fop .quo (fint a0) 4611686018427387904) (fop .quo (fint a1) 4611686018427387904), .int .i64 1] rfl (by (try simp only [List.map_toArray, List.map_cons, List.map_nil]); first | done | rfl | (simp only [List.length_drop, List.length_take]; rfl)) ?_; (with_reducible refine (vec_Scale.calls (⟨(fop .quo (fint a0) 4611686018427387904), (fop .quo (fint a1) 4611686018427387904)⟩ : C128) 1 t222 t223 _ A25.out).mono ?_); rintro e w103 ⟨rfl, hb⟩; refine ⟨_, rfl, ?_⟩; have n0_ := Aside0.mk (Kd.R_below (by (with_reducible repeat (first | apply Kd.R_alloc | apply Kd.R_drewN | apply Kd.R_drew)); exact HO219.out) hb); have n1_ := Aside0.mk (below_step (by repeat (first | (with_reducible first | exact HB.out | apply below_alloc | apply pw_below_drewN | apply below_drew1) | exact HB.out)) hb); clear HO219; clear HB; have HO219 := n0_; have HB := n1_; clear n0_ n1_; (try clear hb); (try clear hb2); (try clear hk); (try clear hi)))
                        go_ret
                        exact ⟨by first | rfl | (simp [errW_none, errW_some] <;> rfl) | (simp [*, errW_none, errW_some] <;> rfl), by repeat (first | (with_reducible first | exact HB.out | apply below_alloc | apply pw_below_drewN | apply below_drew1) | exact HB.out)⟩
                    · rw [if_neg c32] at H
                      have c32b0 : (t213 == 0) = false := beq_eq_false_iff_ne.mpr c32
                      have c32b1 : (t213 != 0) = true := bne_iff_ne.mpr c32
                      obtain rfl := Option.some.inj H
                      go_wp2_with (first | ((with_reducible refine gate_dst (N := 75) rfl ?_); refine Kd.R_lit Kd.c128 _ 37 ?hg (N := 75) ?hd (xs := ([(⟨4607182418800017408, 0⟩ : C128), (⟨(fop .quo (fint a0) 4611686018427387904), (fop .quo (fint a1) 4611686018427387904)⟩ : C128)] : List C128)) (inner := [.complex .f64 4607182418800017408 0, .complex .f64 (fop .quo (fint a0) 4611686018427387904) (fop .quo (fint a1) 4611686018427387904)]) (ok := fun _ => True) (okp := fun _ => True) ?hr ?hp (fun _ hk => hk) trivial (Below.refl _ _) (Nat.le_refl _) (by simp) ?_; (case hd => rfl); (case hg => rfl); (case hr => first | (go_simp; done) | (go_simp; rfl)); (case hp => exact (Reps.one (show Kd.M Kd.c128 _ _ _ (⟨4607182418800017408, 0⟩ : C128) [.complex .f64 4607182418800017408 0] from rfl) (Reps.one (show Kd.M Kd.c128 _ _ _ (⟨(fop .quo (fint a0) 4611686018427387904), (fop .quo (fint a1) 4611686018427387904)⟩ : C128) [.complex .f64 (fop .quo (fint a0) 4611686018427387904) (fop .quo (fint a1) 4611686018427387904)] from rfl) (Reps.none _ _)))); intro v218 w104 ho105 hb hg_ hnew_; clear hg_ hnew_; (first | rw [← Ny217.out] at ho105 | (simp only [Int.reduceToNat] at ho105; rw [← Ny217.out] at ho105)); have n0_ := Aside0.mk (Kd.R_lower ho105 (below_size (by repeat (first | (with_reducible first | exact HB.out | apply below_alloc | apply pw_below_drewN | apply below_drew1) | exact HB.out)))); have n1_ := Aside0.mk (below_step (by repeat (first | (with_reducible first | exact HB.out | apply below_alloc | apply pw_below_drewN | apply below_drew1) | exact HB.out)) hb); clear HB; have HO219 := n0_; have HB := n1_; clear n0_ n1_; clear hb ho105; obtain ⟨Ao106, co106, eo106⟩ := Kd.R_slice HO219.out; subst eo106) | ((with_reducible refine gate_callee (f := 31) rfl ?_); refine goesL_ (some 76) rfl rfl Try.func31 (by kernel_rfl) rfl #[.slice Ao106 y217.length co106] rfl (by (try simp only [List.map_toArray, List.map_cons, List.map_nil]); first | done | rfl | (simp only [List.length_drop, List.length_take]; rfl)) ?_; (with_reducible refine (vec_Sum.calls kj12 _ _ y217 t220 t221 _ ?side1 ?side2 A24.out).mono ?_); (case side1 => repeat (first | exact (Kd.R_reads' HO219.out).2.2 | (with_reducible refine Kd.C_alloc ?_ _) | (with_reducible refine Kd.C_drewN ?_ _) | (with_reducible refine Kd.C_drew ?_))); (case side2 => exact (Kd.R_reads' HO219.out).2.1); rintro e w107 ⟨rfl, hb⟩; refine ⟨_, rfl, ?_⟩; have n0_ := Aside0.mk (Kd.R_below (by (with_reducible repeat (first | apply Kd.R_alloc | apply Kd.R_drewN | apply Kd.R_drew)); exact HO219.out) hb); have n1_ := Aside0.mk (below_step (by repeat (first | (with_reducible first | exact HB.out | apply below_alloc | apply pw_below_drewN | apply below_drew1) | exact HB.out)) hb); clear HO219; clear HB; have HO219 := n0_; have HB := n1_; clear n0_ n1_; (try clear hb); (try clear hb2); (try clear hk); (try clear hi)) | ((with_reducible refine gate_callee (f := 34) rfl ?_); refine goesL_ (some 81) rfl rfl Try.func34 (by kernel_rfl) rfl #[.complex .f64 (fop .quo (fint a0) 4611686018427387904) (fop .quo (fint a1) 4611686018427387904), .int .i64 1] rfl (by (try simp only [List.map_toArray, List.map_cons, List.map_nil]); first | done | rfl | (simp only [List.length_drop, List.length_take]; rfl)) ?_; (with_reducible refine (vec_Scale.calls (⟨(fop .quo (fint a0) 4611686018427387904), (fop .quo (fint a1) 4611686018427387904)⟩ : C128) 1 t222 t223 _ A25.out).mono ?_); rintro e w108 ⟨rfl, hb⟩; refine ⟨_, rfl, ?_⟩; have n0_ := Aside0.mk (Kd.R_below (by (with_reducible repeat (first | apply Kd.R_alloc | apply Kd.R_drewN | apply Kd.R_drew)); exact HO219.out) hb); have n1_ := Aside0.mk (below_step (by repeat (first | (with_reducible first | exact HB.out | apply below_alloc | apply pw_below_drewN | apply below_drew1) | exact HB.out)) hb); clear HO219; clear HB; have HO219 := n0_; have HB := n1_; clear n0_ n1_; (try clear hb); (try clear hb2); (try clear hk); (try clear hi)))
                      go_ret
                      exact ⟨by first | rfl | (simp [errW_none, errW_some] <;> rfl) | (simp [*, errW_none, errW_some] <;> rfl), by repeat (first | (with_reducible first | exact HB.out | apply below_alloc | apply pw_below_drewN | apply below_drew1) | exact HB.out)⟩
          · rw [if_neg c11] at H
            exact absurd H (by simp)
        · rw [if_neg c10] at H
          exact absurd H (by simp)

/-- THE ONE PURE STATEMENT of coraclelaw15_VecOdd: yours. -/
def coraclelaw15_VecOdd.Pure : Prop := ∀ (a0 : Int) (a1 : Int), (Lit.int .i64 a0).wf = true → (Lit.int .i64 a1).wf = true → ∃ k, coraclelaw15_VecOdd.f k a0 a1 = some true
theorem coraclelaw15_VecOdd.walk (P : coraclelaw15_VecOdd.Pure) (a0 : Int) (a1 : Int) (w : World) (w0 : (Lit.int .i64 a0).wf = true) (w1 : (Lit.int .i64 a1).wf = true) :
    Calls Try.prog 9 #[.int .i64 a0, .int .i64 a1] w fun e w' => e = .returned (.bool true) ∧ Below w.heap.size w w' := by
  obtain ⟨k, h⟩ := P a0 a1 w0 w1
  refine (coraclelaw15_VecOdd.calls k a0 a1 true w h).mono ?_
  rintro e w' ⟨rfl, hd⟩
  exact ⟨rfl, hd⟩

end Go.Proofs.Ytfoahgdaigfhoaa.QVec
