/- Functions of the program as plain Lean functions, and that its calls come to what these tell: written by a program of this session; Lean checks it. -/
import Derived.Test.YtfoahgdaigfhoaaQVecx0
import Derived.Test.YtfoahgdaigfhoaaQVecx1
namespace Go.Proofs.Ytfoahgdaigfhoaa.QVec
open Go.RowKit Go.Proofs.Ytfoahgdaigfhoaa.Hand Go.Proofs.YtfoahgdaigfhoaaW.PrintWords Go.Proofs.YtfoahgdaigfhoaaW.PrintLast Go.Proofs.YtfoahgdaigfhoaaW.PrintMore
attribute [local go_sem] max2_int min2_int max_two min_two max_three min_three max_four min_four run_fop run_feq run_fne run_flt run_fle run_fgt run_fge run_fint run_toi run_real' run_imag' run_complex' run_ceq run_cne run_cadd run_csub run_cmul
set_option linter.unusedVariables false
set_option linter.unusedSimpArgs false

/-! ### coracleref1_Money: function 22 -/
def coracleref1_Money.f (a0 : Int) : Option (Bool) := if a0 ≥ 0 then (some (decide (a0 ≤ 2100000000000000))) else (some false)
set_option maxHeartbeats 8000000 in
set_option maxRecDepth 100000 in
theorem coracleref1_Money.calls (a0 : Int) (r : Bool) (w : World) (h : coracleref1_Money.f a0 = some r) :
    Calls Try.prog 22 #[.int .i64 a0] w fun e w' => e = .returned (.bool r) ∧ Drawn0 w w' := by
  have H : (if a0 ≥ 0 then (some (decide (a0 ≤ 2100000000000000))) else (some false)) = some r := h
  clear h
  by_cases c2 : a0 ≥ 0
  · rw [if_pos c2] at H
    have c2b0 : decide (0 ≤ a0) = true := decide_eq_true c2
    clear c2
    obtain rfl := Option.some.inj H
    go_enter Try.func22, Try.ntmps22
    go_wp2
    go_ret
    exact ⟨by first | rfl | (simp; done) | (simp [*]; done), by repeat (first | exact Drawn0.refl _ | apply Drawn0.step)⟩
  · rw [if_neg c2] at H
    have c2b0 : decide (0 ≤ a0) = false := decide_eq_false c2
    clear c2
    obtain rfl := Option.some.inj H
    go_enter Try.func22, Try.ntmps22
    go_wp2
    go_ret
    exact ⟨by first | rfl | (simp; done) | (simp [*]; done), by repeat (first | exact Drawn0.refl _ | apply Drawn0.step)⟩

/-! ### coraclelaw15_in: function 29 -/
def coraclelaw15_in.f (a0 : Int) (a1 : Int) : Option (Bool) := (coracleref1_Money.f a0).bind fun t144 => (if t144 = true then (if a1 ≥ 0 then (some (decide (a1 ≤ 4000000))) else (some false)) else (some false))
set_option maxHeartbeats 8000000 in
set_option maxRecDepth 100000 in
theorem coraclelaw15_in.calls (a0 : Int) (a1 : Int) (r : Bool) (w : World) (h : coraclelaw15_in.f a0 a1 = some r) :
    Calls Try.prog 29 #[.int .i64 a0, .int .i64 a1] w fun e w' => e = .returned (.bool r) ∧ Drawn0 w w' := by
  have H : ((coracleref1_Money.f a0).bind fun t144 => (if t144 = true then (if a1 ≥ 0 then (some (decide (a1 ≤ 4000000))) else (some false)) else (some false))) = some r := h
  clear h
  replace H := Option.bind_eq_some_iff.mp H
  obtain ⟨t144, A30, H⟩ := H
  replace H : (if t144 = true then (if a1 ≥ 0 then (some (decide (a1 ≤ 4000000))) else (some false)) else (some false)) = some r := H
  have A3 := Aside0.mk A30
  clear A30
  by_cases c4 : t144 = true
  · subst c4
    have H1 : (if a1 ≥ 0 then (some (decide (a1 ≤ 4000000))) else (some false)) = some r := by rw [if_pos rfl] at H; exact H
    clear H
    have H := H1
    clear H1
    by_cases c5 : a1 ≥ 0
    · rw [if_pos c5] at H
      have c5b0 : decide (0 ≤ a1) = true := decide_eq_true c5
      clear c5
      obtain rfl := Option.some.inj H
      go_enter Try.func29, Try.ntmps29
      go_wp2_with (first | ((with_reducible refine gate_callee (f := 22) rfl ?_); refine goesL_ (some 6) rfl rfl Try.func22 (by kernel_rfl) rfl #[.int .i64 a0] rfl (by (try simp only [List.map_toArray, List.map_cons, List.map_nil]); first | done | rfl | (simp only [List.length_drop, List.length_take]; rfl)) ?_; (with_reducible refine (coracleref1_Money.calls a0 true _ A3.out).mono ?_); rintro e w' ⟨rfl, ⟨nd, rfl⟩⟩; refine ⟨_, rfl, ?_⟩))
      go_ret
      exact ⟨by first | rfl | (simp; done) | (simp [*]; done), by repeat (first | exact Drawn0.refl _ | apply Drawn0.step)⟩
    · rw [if_neg c5] at H
      have c5b0 : decide (0 ≤ a1) = false := decide_eq_false c5
      clear c5
      obtain rfl := Option.some.inj H
      go_enter Try.func29, Try.ntmps29
      go_wp2_with (first | ((with_reducible refine gate_callee (f := 22) rfl ?_); refine goesL_ (some 6) rfl rfl Try.func22 (by kernel_rfl) rfl #[.int .i64 a0] rfl (by (try simp only [List.map_toArray, List.map_cons, List.map_nil]); first | done | rfl | (simp only [List.length_drop, List.length_take]; rfl)) ?_; (with_reducible refine (coracleref1_Money.calls a0 true _ A3.out).mono ?_); rintro e w' ⟨rfl, ⟨nd, rfl⟩⟩; refine ⟨_, rfl, ?_⟩))
      go_ret
      exact ⟨by first | rfl | (simp; done) | (simp [*]; done), by repeat (first | exact Drawn0.refl _ | apply Drawn0.step)⟩
  · replace c4 := Bool.eq_false_iff.mpr c4
    subst c4
    have H1 : (some false) = some r := by rw [if_neg (show ¬ (false = true) by decide)] at H; exact H
    clear H
    have H := H1
    clear H1
    obtain rfl := Option.some.inj H
    go_enter Try.func29, Try.ntmps29
    go_wp2_with (first | ((with_reducible refine gate_callee (f := 22) rfl ?_); refine goesL_ (some 6) rfl rfl Try.func22 (by kernel_rfl) rfl #[.int .i64 a0] rfl (by (try simp only [List.map_toArray, List.map_cons, List.map_nil]); first | done | rfl | (simp only [List.length_drop, List.length_take]; rfl)) ?_; (with_reducible refine (coracleref1_Money.calls a0 false _ A3.out).mono ?_); rintro e w' ⟨rfl, ⟨nd, rfl⟩⟩; refine ⟨_, rfl, ?_⟩))
    go_ret
    exact ⟨by first | rfl | (simp; done) | (simp [*]; done), by repeat (first | exact Drawn0.refl _ | apply Drawn0.step)⟩

-- NOT PRINTED: function 7 (coraclelaw15_VecSums)

/-! ### vec_Scale: function 34 -/
def vec_Scale.f (a0 : C128) (a1 : Int) : Option (C128 × Int) := (vec_Parts.f a0).bind fun bt185 => (if bt185.2.2 = true then (if a1 < 0 then (some ((⟨0, 0⟩ : C128), 11)) else (if a1 > 10000 then (some ((⟨0, 0⟩ : C128), 11)) else (if a1 > 0 then (if a1 = 0 then (none) else (if bt185.1 > (wrap64 (Int.tdiv (2100000000000000 : Int) a1)) then (some ((⟨0, 0⟩ : C128), 11)) else (if bt185.2.1 > (wrap64 (Int.tdiv (4000000 : Int) a1)) then (some ((⟨0, 0⟩ : C128), 11)) else (if cok .mul a0.re a0.im (fint a1) 0 = true then (some ((⟨(cre .mul a0.re a0.im (fint a1) 0), (cim .mul a0.re a0.im (fint a1) 0)⟩ : C128), 0)) else (none))))) else (if cok .mul a0.re a0.im (fint a1) 0 = true then (some ((⟨(cre .mul a0.re a0.im (fint a1) 0), (cim .mul a0.re a0.im (fint a1) 0)⟩ : C128), 0)) else (none))))) else (some ((⟨0, 0⟩ : C128), 11)))
set_option maxHeartbeats 8000000 in
set_option maxRecDepth 100000 in
theorem vec_Scale.calls (a0 : C128) (a1 : Int) (r1 : C128) (r2 : Int) (w : World) (h : vec_Scale.f a0 a1 = some (r1, r2)) :
    Calls Try.prog 34 #[.complex .f64 a0.re a0.im, .int .i64 a1] w fun e w' => e = .returned (.tuple #[.complex .f64 r1.re r1.im, .int .i64 r2]) ∧ Below w.heap.size w w' := by
  have HB := Aside0.mk (Below.refl w.heap.size w)
  have H : ((vec_Parts.f a0).bind fun bt185 => (if bt185.2.2 = true then (if a1 < 0 then (some ((⟨0, 0⟩ : C128), 11)) else (if a1 > 10000 then (some ((⟨0, 0⟩ : C128), 11)) else (if a1 > 0 then (if a1 = 0 then (none) else (if bt185.1 > (wrap64 (Int.tdiv (2100000000000000 : Int) a1)) then (some ((⟨0, 0⟩ : C128), 11)) else (if bt185.2.1 > (wrap64 (Int.tdiv (4000000 : Int) a1)) then (some ((⟨0, 0⟩ : C128), 11)) else (if cok .mul a0.re a0.im (fint a1) 0 = true then (some ((⟨(cre .mul a0.re a0.im (fint a1) 0), (cim .mul a0.re a0.im (fint a1) 0)⟩ : C128), 0)) else (none))))) else (if cok .mul a0.re a0.im (fint a1) 0 = true then (some ((⟨(cre .mul a0.re a0.im (fint a1) 0), (cim .mul a0.re a0.im (fint a1) 0)⟩ : C128), 0)) else (none))))) else (some ((⟨0, 0⟩ : C128), 11)))) = some (r1, r2) := h
  clear h
  replace H := Option.bind_eq_some_iff.mp H
  obtain ⟨⟨t185, t186, t187⟩, A30, H⟩ := H
  replace H : (if t187 = true then (if a1 < 0 then (some ((⟨0, 0⟩ : C128), 11)) else (if a1 > 10000 then (some ((⟨0, 0⟩ : C128), 11)) else (if a1 > 0 then (if a1 = 0 then (none) else (if t185 > (wrap64 (Int.tdiv (2100000000000000 : Int) a1)) then (some ((⟨0, 0⟩ : C128), 11)) else (if t186 > (wrap64 (Int.tdiv (4000000 : Int) a1)) then (some ((⟨0, 0⟩ : C128), 11)) else (if cok .mul a0.re a0.im (fint a1) 0 = true then (some ((⟨(cre .mul a0.re a0.im (fint a1) 0), (cim .mul a0.re a0.im (fint a1) 0)⟩ : C128), 0)) else (none))))) else (if cok .mul a0.re a0.im (fint a1) 0 = true then (some ((⟨(cre .mul a0.re a0.im (fint a1) 0), (cim .mul a0.re a0.im (fint a1) 0)⟩ : C128), 0)) else (none))))) else (some ((⟨0, 0⟩ : C128), 11))) = some (r1, r2) := H
  have A3 := Aside0.mk A30
  clear A30
  by_cases c4 : t187 = true
  · subst c4
    have H1 : (if a1 < 0 then (some ((⟨0, 0⟩ : C128), 11)) else (if a1 > 10000 then (some ((⟨0, 0⟩ : C128), 11)) else (if a1 > 0 then (if a1 = 0 then (none) else (if t185 > (wrap64 (Int.tdiv (2100000000000000 : Int) a1)) then (some ((⟨0, 0⟩ : C128), 11)) else (if t186 > (wrap64 (Int.tdiv (4000000 : Int) a1)) then (some ((⟨0, 0⟩ : C128), 11)) else (if cok .mul a0.re a0.im (fint a1) 0 = true then (some ((⟨(cre .mul a0.re a0.im (fint a1) 0), (cim .mul a0.re a0.im (fint a1) 0)⟩ : C128), 0)) else (none))))) else (if cok .mul a0.re a0.im (fint a1) 0 = true then (some ((⟨(cre .mul a0.re a0.im (fint a1) 0), (cim .mul a0.re a0.im (fint a1) 0)⟩ : C128), 0)) else (none))))) = some (r1, r2) := by rw [if_pos rfl] at H; exact H
    clear H
    have H := H1
    clear H1
    by_cases c5 : a1 < 0
    · rw [if_pos c5] at H
      have c5b0 : decide (a1 < 0) = true := decide_eq_true c5
      clear c5
      simp only [Option.some.injEq, Prod.mk.injEq] at H
      obtain ⟨rfl, rfl⟩ := H
      go_enter Try.func34, Try.ntmps34
      go_wp2_with (first | ((with_reducible refine gate_callee (f := 32) rfl ?_); refine goesL_ (some 11) rfl rfl Try.func32 (by kernel_rfl) rfl #[.complex .f64 a0.re a0.im] rfl (by (try simp only [List.map_toArray, List.map_cons, List.map_nil]); first | done | rfl | (simp only [List.length_drop, List.length_take]; rfl)) ?_; (with_reducible refine (vec_Parts.calls a0 t185 t186 true _ A3.out).mono ?_); rintro e w6 ⟨rfl, hb⟩; refine ⟨_, rfl, ?_⟩; have n0_ := Aside0.mk (below_step (by repeat (first | (with_reducible first | exact HB.out | apply below_alloc | apply pw_below_drewN | apply below_drew1) | exact HB.out)) hb); clear HB; have HB := n0_; clear n0_; (try clear hb); (try clear hb2); (try clear hk); (try clear hi)))
      go_ret2
      exact ⟨by first | rfl | (simp [errW_none, errW_some] <;> rfl) | (simp [*, errW_none, errW_some] <;> rfl), by repeat (first | (with_reducible first | exact HB.out | apply below_alloc | apply pw_below_drewN | apply below_drew1) | exact HB.out)⟩
    · rw [if_neg c5] at H
      have c5b0 : decide (a1 < 0) = false := decide_eq_false c5
      clear c5
      by_cases c7 : a1 > 10000
      · rw [if_pos c7] at H
        have c7b0 : decide (10000 < a1) = true := decide_eq_true c7
        clear c7
        simp only [Option.some.injEq, Prod.mk.injEq] at H
        obtain ⟨rfl, rfl⟩ := H
        go_enter Try.func34, Try.ntmps34
        go_wp2_with (first | ((with_reducible refine gate_callee (f := 32) rfl ?_); refine goesL_ (some 11) rfl rfl Try.func32 (by kernel_rfl) rfl #[.complex .f64 a0.re a0.im] rfl (by (try simp only [List.map_toArray, List.map_cons, List.map_nil]); first | done | rfl | (simp only [List.length_drop, List.length_take]; rfl)) ?_; (with_reducible refine (vec_Parts.calls a0 t185 t186 true _ A3.out).mono ?_); rintro e w8 ⟨rfl, hb⟩; refine ⟨_, rfl, ?_⟩; have n0_ := Aside0.mk (below_step (by repeat (first | (with_reducible first | exact HB.out | apply below_alloc | apply pw_below_drewN | apply below_drew1) | exact HB.out)) hb); clear HB; have HB := n0_; clear n0_; (try clear hb); (try clear hb2); (try clear hk); (try clear hi)))
        go_ret2
        exact ⟨by first | rfl | (simp [errW_none, errW_some] <;> rfl) | (simp [*, errW_none, errW_some] <;> rfl), by repeat (first | (with_reducible first | exact HB.out | apply below_alloc | apply pw_below_drewN | apply below_drew1) | exact HB.out)⟩
      · rw [if_neg c7] at H
        have c7b0 : decide (10000 < a1) = false := decide_eq_false c7
        clear c7
        by_cases c9 : a1 > 0
        · rw [if_pos c9] at H
          have c9b0 : decide (0 < a1) = true := decide_eq_true c9
          clear c9
          by_cases c10 : a1 = 0
          · rw [if_pos c10] at H
            exact absurd H (by simp)
          · rw [if_neg c10] at H
            have c10b0 : (a1 == 0) = false := beq_eq_false_iff_ne.mpr c10
            have c10b1 : (a1 != 0) = true := bne_iff_ne.mpr c10
            by_cases c11 : t185 > (wrap64 (Int.tdiv (2100000000000000 : Int) a1))
            · rw [if_pos c11] at H
              have c11b0 : decide ((wrap64 (Int.tdiv (2100000000000000 : Int) a1)) < t185) = true := decide_eq_true c11
              clear c11
              simp only [Option.some.injEq, Prod.mk.injEq] at H
              obtain ⟨rfl, rfl⟩ := H
              go_enter Try.func34, Try.ntmps34
              go_wp2_with (first | ((with_reducible refine gate_callee (f := 32) rfl ?_); refine goesL_ (some 11) rfl rfl Try.func32 (by kernel_rfl) rfl #[.complex .f64 a0.re a0.im] rfl (by (try simp only [List.map_toArray, List.map_cons, List.map_nil]); first | done | rfl | (simp only [List.length_drop, List.length_take]; rfl)) ?_; (with_reducible refine (vec_Parts.calls a0 t185 t186 true _ A3.out).mono ?_); rintro e w12 ⟨rfl, hb⟩; refine ⟨_, rfl, ?_⟩; have n0_ := Aside0.mk (below_step (by repeat (first | (with_reducible first | exact HB.out | apply below_alloc | apply pw_below_drewN | apply below_drew1) | exact HB.out)) hb); clear HB; have HB := n0_; clear n0_; (try clear hb); (try clear hb2); (try clear hk); (try clear hi)))
              go_ret2
              exact ⟨by first | rfl | (simp [errW_none, errW_some] <;> rfl) | (simp [*, errW_none, errW_some] <;> rfl), by repeat (first | (with_reducible first | exact HB.out | apply below_alloc | apply pw_below_drewN | apply below_drew1) | exact HB.out)⟩
            · rw [if_neg c11] at H
              have c11b0 : decide ((wrap64 (Int.tdiv (2100000000000000 : Int) a1)) < t185) = false := decide_eq_false c11
              clear c11
              by_cases c13 : t186 > (wrap64 (Int.tdiv (4000000 : Int) a1))
              · rw [if_pos c13] at H
                have c13b0 : decide ((wrap64 (Int.tdiv (4000000 : Int) a1)) < t186) = true := decide_eq_true c13
                clear c13
                simp only [Option.some.injEq, Prod.mk.injEq] at H
                obtain ⟨rfl, rfl⟩ := H
                go_enter Try.func34, Try.ntmps34
                go_wp2_with (first | ((with_reducible refine gate_callee (f := 32) rfl ?_); refine goesL_ (some 11) rfl rfl Try.func32 (by kernel_rfl) rfl #[.complex .f64 a0.re a0.im] rfl (by (try simp only [List.map_toArray, List.map_cons, List.map_nil]); first | done | rfl | (simp only [List.length_drop, List.length_take]; rfl)) ?_; (with_reducible refine (vec_Parts.calls a0 t185 t186 true _ A3.out).mono ?_); rintro e w14 ⟨rfl, hb⟩; refine ⟨_, rfl, ?_⟩; have n0_ := Aside0.mk (below_step (by repeat (first | (with_reducible first | exact HB.out | apply below_alloc | apply pw_below_drewN | apply below_drew1) | exact HB.out)) hb); clear HB; have HB := n0_; clear n0_; (try clear hb); (try clear hb2); (try clear hk); (try clear hi)))
                go_ret2
                exact ⟨by first | rfl | (simp [errW_none, errW_some] <;> rfl) | (simp [*, errW_none, errW_some] <;> rfl), by repeat (first | (with_reducible first | exact HB.out | apply below_alloc | apply pw_below_drewN | apply below_drew1) | exact HB.out)⟩
              · rw [if_neg c13] at H
                have c13b0 : decide ((wrap64 (Int.tdiv (4000000 : Int) a1)) < t186) = false := decide_eq_false c13
                clear c13
                by_cases c15 : cok .mul a0.re a0.im (fint a1) 0 = true
                · rw [if_pos c15] at H
                  have c15b0 : cok .mul a0.re a0.im (fint a1) 0 = true := c15
                  clear c15
                  simp only [Option.some.injEq, Prod.mk.injEq] at H
                  obtain ⟨rfl, rfl⟩ := H
                  go_enter Try.func34, Try.ntmps34
                  go_wp2_with (first | ((with_reducible refine gate_callee (f := 32) rfl ?_); refine goesL_ (some 11) rfl rfl Try.func32 (by kernel_rfl) rfl #[.complex .f64 a0.re a0.im] rfl (by (try simp only [List.map_toArray, List.map_cons, List.map_nil]); first | done | rfl | (simp only [List.length_drop, List.length_take]; rfl)) ?_; (with_reducible refine (vec_Parts.calls a0 t185 t186 true _ A3.out).mono ?_); rintro e w16 ⟨rfl, hb⟩; refine ⟨_, rfl, ?_⟩; have n0_ := Aside0.mk (below_step (by repeat (first | (with_reducible first | exact HB.out | apply below_alloc | apply pw_below_drewN | apply below_drew1) | exact HB.out)) hb); clear HB; have HB := n0_; clear n0_; (try clear hb); (try clear hb2); (try clear hk); (try clear hi)))
                  go_ret2
                  exact ⟨by first | rfl | (simp [errW_none, errW_some] <;> rfl) | (simp [*, errW_none, errW_some] <;> rfl), by repeat (first | (with_reducible first | exact HB.out | apply below_alloc | apply pw_below_drewN | apply below_drew1) | exact HB.out)⟩
                · rw [if_neg c15] at H
                  exact absurd H (by simp)
        · rw [if_neg c9] at H
          have c9b0 : decide (0 < a1) = false := decide_eq_false c9
          clear c9
          by_cases c17 : cok .mul a0.re a0.im (fint a1) 0 = true
          · rw [if_pos c17] at H
            have c17b0 : cok .mul a0.re a0.im (fint a1) 0 = true := c17
            clear c17
            simp only [Option.some.injEq, Prod.mk.injEq] at H
            obtain ⟨rfl, rfl⟩ := H
            go_enter Try.func34, Try.ntmps34
            go_wp2_with (first | ((with_reducible refine gate_callee (f := 32) rfl ?_); refine goesL_ (some 11) rfl rfl Try.func32 (by kernel_rfl) rfl #[.complex .f64 a0.re a0.im] rfl (by (try simp only [List.map_toArray, List.map_cons, List.map_nil]); first | done | rfl | (simp only [List.length_drop, List.length_take]; rfl)) ?_; (with_reducible refine (vec_Parts.calls a0 t185 t186 true _ A3.out).mono ?_); rintro e w18 ⟨rfl, hb⟩; refine ⟨_, rfl, ?_⟩; have n0_ := Aside0.mk (below_step (by repeat (first | (with_reducible first | exact HB.out | apply below_alloc | apply pw_below_drewN | apply below_drew1) | exact HB.out)) hb); clear HB; have HB := n0_; clear n0_; (try clear hb); (try clear hb2); (try clear hk); (try clear hi)))
            go_ret2
            exact ⟨by first | rfl | (simp [errW_none, errW_some] <;> rfl) | (simp [*, errW_none, errW_some] <;> rfl), by repeat (first | (with_reducible first | exact HB.out | apply below_alloc | apply pw_below_drewN | apply below_drew1) | exact HB.out)⟩
          · rw [if_neg c17] at H
            exact absurd H (by simp)
  · replace c4 := Bool.eq_false_iff.mpr c4
    subst c4
    have H1 : (some ((⟨0, 0⟩ : C128), 11)) = some (r1, r2) := by rw [if_neg (show ¬ (false = true) by decide)] at H; exact H
    clear H
    have H := H1
    clear H1
    simp only [Option.some.injEq, Prod.mk.injEq] at H
    obtain ⟨rfl, rfl⟩ := H
    go_enter Try.func34, Try.ntmps34
    go_wp2_with (first | ((with_reducible refine gate_callee (f := 32) rfl ?_); refine goesL_ (some 11) rfl rfl Try.func32 (by kernel_rfl) rfl #[.complex .f64 a0.re a0.im] rfl (by (try simp only [List.map_toArray, List.map_cons, List.map_nil]); first | done | rfl | (simp only [List.length_drop, List.length_take]; rfl)) ?_; (with_reducible refine (vec_Parts.calls a0 t185 t186 false _ A3.out).mono ?_); rintro e w19 ⟨rfl, hb⟩; refine ⟨_, rfl, ?_⟩; have n0_ := Aside0.mk (below_step (by repeat (first | (with_reducible first | exact HB.out | apply below_alloc | apply pw_below_drewN | apply below_drew1) | exact HB.out)) hb); clear HB; have HB := n0_; clear n0_; (try clear hb); (try clear hb2); (try clear hk); (try clear hi)))
    go_ret2
    exact ⟨by first | rfl | (simp [errW_none, errW_some] <;> rfl) | (simp [*, errW_none, errW_some] <;> rfl), by repeat (first | (with_reducible first | exact HB.out | apply below_alloc | apply pw_below_drewN | apply below_drew1) | exact HB.out)⟩

end Go.Proofs.Ytfoahgdaigfhoaa.QVec
