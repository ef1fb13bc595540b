/- Functions of the program as plain Lean functions, and that its calls come to what these tell: written by a program of this session; Lean checks it. -/
import Derived.Test.YtfoahgdaigfhoaaQCurx0
import Derived.Test.YtfoahgdaigfhoaaQCurx1
import Derived.Test.YtfoahgdaigfhoaaQCurx2
import Derived.Test.YtfoahgdaigfhoaaQCurx3
import Derived.Test.YtfoahgdaigfhoaaQCurx6
namespace Go.Proofs.Ytfoahgdaigfhoaa.QCur
open Go.RowKit Go.Proofs.Ytfoahgdaigfhoaa.Hand Go.Proofs.YtfoahgdaigfhoaaW.PrintWords Go.Proofs.YtfoahgdaigfhoaaW.PrintLast Go.Proofs.YtfoahgdaigfhoaaW.PrintMore
attribute [local go_sem] max2_int min2_int max_two min_two max_three min_three max_four min_four run_equalIn_c run_store_float run_store_complex run_fop run_feq run_fne run_flt run_fle run_fgt run_fge run_fint run_toi run_real' run_imag' run_complex' run_ceq run_cne run_cadd run_csub run_cmul
set_option linter.unusedVariables false
set_option linter.unusedSimpArgs false

attribute [local go_sem high] eqA51
/-! ### amount_held: function 44 -/
def amount_held.f (a0 : Int) (a1 : Bool) : Option (Int × Int) := if a1 = true then ((amount_Valid.f a0).bind fun t204 => (if t204 = true then (some (a0, 0)) else (some (0, 11)))) else (some (0, 11))
set_option maxHeartbeats 8000000 in
set_option maxRecDepth 100000 in
theorem amount_held.calls (a0 : Int) (a1 : Bool) (r1 : Int) (r2 : Int) (w : World) (h : amount_held.f a0 a1 = some (r1, r2)) :
    Calls Try.prog 44 #[.int .i64 a0, .bool a1] w fun e w' => e = .returned (.tuple #[.int .i64 r1, .int .i64 r2]) ∧ Drawn0 w w' := by
  have H : (if a1 = true then ((amount_Valid.f a0).bind fun t204 => (if t204 = true then (some (a0, 0)) else (some (0, 11)))) else (some (0, 11))) = some (r1, r2) := h
  clear h
  by_cases c3 : a1 = true
  · subst c3
    have H1 : ((amount_Valid.f a0).bind fun t204 => (if t204 = true then (some (a0, 0)) else (some (0, 11)))) = some (r1, r2) := by rw [if_pos rfl] at H; exact H
    clear H
    have H := H1
    clear H1
    replace H := Option.bind_eq_some_iff.mp H
    obtain ⟨t204, A40, H⟩ := H
    replace H : (if t204 = true then (some (a0, 0)) else (some (0, 11))) = some (r1, r2) := H
    have A4 := Aside0.mk A40
    clear A40
    by_cases c5 : t204 = true
    · subst c5
      have H1 : (some (a0, 0)) = some (r1, r2) := by rw [if_pos rfl] at H; exact H
      clear H
      have H := H1
      clear H1
      simp only [Option.some.injEq, Prod.mk.injEq] at H
      obtain ⟨rfl, rfl⟩ := H
      go_enter Try.func44, Try.ntmps44
      go_wp2_with (first | (go_at_call 23; (with_reducible refine (amount_Valid.calls a0 true _ A4.out).mono ?_); rintro e w' ⟨rfl, ⟨nd, rfl⟩⟩))
      go_ret2
      exact ⟨by first | rfl | (simp; done) | (simp [*]; done), by repeat (first | exact Drawn0.refl _ | apply Drawn0.step)⟩
    · replace c5 := Bool.eq_false_iff.mpr c5
      subst c5
      have H1 : (some (0, 11)) = some (r1, r2) := by rw [if_neg (show ¬ (false = true) by decide)] at H; exact H
      clear H
      have H := H1
      clear H1
      simp only [Option.some.injEq, Prod.mk.injEq] at H
      obtain ⟨rfl, rfl⟩ := H
      go_enter Try.func44, Try.ntmps44
      go_wp2_with (first | (go_at_call 23; (with_reducible refine (amount_Valid.calls a0 false _ A4.out).mono ?_); rintro e w' ⟨rfl, ⟨nd, rfl⟩⟩))
      go_ret2
      exact ⟨by first | rfl | (simp; done) | (simp [*]; done), by repeat (first | exact Drawn0.refl _ | apply Drawn0.step)⟩
  · replace c3 := Bool.eq_false_iff.mpr c3
    subst c3
    have H1 : (some (0, 11)) = some (r1, r2) := by rw [if_neg (show ¬ (false = true) by decide)] at H; exact H
    clear H
    have H := H1
    clear H1
    simp only [Option.some.injEq, Prod.mk.injEq] at H
    obtain ⟨rfl, rfl⟩ := H
    go_enter Try.func44, Try.ntmps44
    go_wp2
    go_ret2
    exact ⟨by first | rfl | (simp; done) | (simp [*]; done), by repeat (first | exact Drawn0.refl _ | apply Drawn0.step)⟩

/-! ### amount_Fee: function 24 -/
def amount_Fee.f (a0 : Int) (a1 : Int) : Option (Int × Int) := (amount_within.f a0 0 4000000).bind fun t205 => (if t205 = true then ((amount_within.f a1 0 1000000000).bind fun t206 => (if t206 = true then ((amount_held.f (wrap64 (Int.tdiv (wrap64 ((wrap64 ((wrap64 (a0 * a1)) + 1000)) - 1)) 1000)) true).bind fun bt207 => (some (bt207.1, bt207.2))) else (some (0, 11)))) else (some (0, 11)))
set_option maxHeartbeats 8000000 in
set_option maxRecDepth 100000 in
theorem amount_Fee.calls (a0 : Int) (a1 : Int) (r1 : Int) (r2 : Int) (w : World) (h : amount_Fee.f a0 a1 = some (r1, r2)) :
    Calls Try.prog 24 #[.int .i64 a0, .int .i64 a1] w fun e w' => e = .returned (.tuple #[.int .i64 r1, .int .i64 r2]) ∧ Drawn0 w w' := by
  have H : ((amount_within.f a0 0 4000000).bind fun t205 => (if t205 = true then ((amount_within.f a1 0 1000000000).bind fun t206 => (if t206 = true then ((amount_held.f (wrap64 (Int.tdiv (wrap64 ((wrap64 ((wrap64 (a0 * a1)) + 1000)) - 1)) 1000)) true).bind fun bt207 => (some (bt207.1, bt207.2))) else (some (0, 11)))) else (some (0, 11)))) = some (r1, r2) := h
  clear h
  replace H := Option.bind_eq_some_iff.mp H
  obtain ⟨t205, A30, H⟩ := H
  replace H : (if t205 = true then ((amount_within.f a1 0 1000000000).bind fun t206 => (if t206 = true then ((amount_held.f (wrap64 (Int.tdiv (wrap64 ((wrap64 ((wrap64 (a0 * a1)) + 1000)) - 1)) 1000)) true).bind fun bt207 => (some (bt207.1, bt207.2))) else (some (0, 11)))) else (some (0, 11))) = some (r1, r2) := H
  have A3 := Aside0.mk A30
  clear A30
  by_cases c4 : t205 = true
  · subst c4
    have H1 : ((amount_within.f a1 0 1000000000).bind fun t206 => (if t206 = true then ((amount_held.f (wrap64 (Int.tdiv (wrap64 ((wrap64 ((wrap64 (a0 * a1)) + 1000)) - 1)) 1000)) true).bind fun bt207 => (some (bt207.1, bt207.2))) else (some (0, 11)))) = some (r1, r2) := by rw [if_pos rfl] at H; exact H
    clear H
    have H := H1
    clear H1
    replace H := Option.bind_eq_some_iff.mp H
    obtain ⟨t206, A50, H⟩ := H
    replace H : (if t206 = true then ((amount_held.f (wrap64 (Int.tdiv (wrap64 ((wrap64 ((wrap64 (a0 * a1)) + 1000)) - 1)) 1000)) true).bind fun bt207 => (some (bt207.1, bt207.2))) else (some (0, 11))) = some (r1, r2) := H
    have A5 := Aside0.mk A50
    clear A50
    by_cases c6 : t206 = true
    · subst c6
      have H1 : ((amount_held.f (wrap64 (Int.tdiv (wrap64 ((wrap64 ((wrap64 (a0 * a1)) + 1000)) - 1)) 1000)) true).bind fun bt207 => (some (bt207.1, bt207.2))) = some (r1, r2) := by rw [if_pos rfl] at H; exact H
      clear H
      have H := H1
      clear H1
      replace H := Option.bind_eq_some_iff.mp H
      obtain ⟨⟨t207, t208⟩, A70, H⟩ := H
      replace H : (some (t207, t208)) = some (r1, r2) := H
      have A7 := Aside0.mk A70
      clear A70
      simp only [Option.some.injEq, Prod.mk.injEq] at H
      obtain ⟨rfl, rfl⟩ := H
      go_enter Try.func24, Try.ntmps24
      go_wp2_with (first | ((with_reducible refine gate_callee (f := 45) rfl ?_); refine goesL_ (some 7) rfl rfl Try.func45 (by kernel_rfl) rfl #[.int .i64 a0, .int .i64 0, .int .i64 4000000] rfl (by (try simp only [List.map_toArray, List.map_cons, List.map_nil]); first | done | rfl | (simp only [List.length_drop, List.length_take]; rfl)) ?_; (with_reducible refine (amount_within.calls a0 0 4000000 true _ A3.out).mono ?_); rintro e w' ⟨rfl, ⟨nd, rfl⟩⟩; refine ⟨_, rfl, ?_⟩) | (go_at_call 45; (with_reducible refine (amount_within.calls a1 0 1000000000 true _ A5.out).mono ?_); rintro e w' ⟨rfl, ⟨nd, rfl⟩⟩) | ((with_reducible refine gate_callee (f := 44) rfl ?_); refine goesL_ (some 20) rfl rfl Try.func44 (by kernel_rfl) rfl #[.int .i64 (wrap64 (Int.tdiv (wrap64 ((wrap64 ((wrap64 (a0 * a1)) + 1000)) - 1)) 1000)), .bool true] rfl (by (try simp only [List.map_toArray, List.map_cons, List.map_nil]); first | done | rfl | (simp only [List.length_drop, List.length_take]; rfl)) ?_; (with_reducible refine (amount_held.calls (wrap64 (Int.tdiv (wrap64 ((wrap64 ((wrap64 (a0 * a1)) + 1000)) - 1)) 1000)) true t207 t208 _ A7.out).mono ?_); rintro e w' ⟨rfl, ⟨nd, rfl⟩⟩; refine ⟨_, rfl, ?_⟩))
      go_ret2
      exact ⟨by first | rfl | (simp; done) | (simp [*]; done), by repeat (first | exact Drawn0.refl _ | apply Drawn0.step)⟩
    · replace c6 := Bool.eq_false_iff.mpr c6
      subst c6
      have H1 : (some (0, 11)) = some (r1, r2) := by rw [if_neg (show ¬ (false = true) by decide)] at H; exact H
      clear H
      have H := H1
      clear H1
      simp only [Option.some.injEq, Prod.mk.injEq] at H
      obtain ⟨rfl, rfl⟩ := H
      go_enter Try.func24, Try.ntmps24
      go_wp2_with (first | ((with_reducible refine gate_callee (f := 45) rfl ?_); refine goesL_ (some 7) rfl rfl Try.func45 (by kernel_rfl) rfl #[.int .i64 a0, .int .i64 0, .int .i64 4000000] rfl (by (try simp only [List.map_toArray, List.map_cons, List.map_nil]); first | done | rfl | (simp only [List.length_drop, List.length_take]; rfl)) ?_; (with_reducible refine (amount_within.calls a0 0 4000000 true _ A3.out).mono ?_); rintro e w' ⟨rfl, ⟨nd, rfl⟩⟩; refine ⟨_, rfl, ?_⟩) | (go_at_call 45; (with_reducible refine (amount_within.calls a1 0 1000000000 false _ A5.out).mono ?_); rintro e w' ⟨rfl, ⟨nd, rfl⟩⟩))
      go_ret2
      exact ⟨by first | rfl | (simp; done) | (simp [*]; done), by repeat (first | exact Drawn0.refl _ | apply Drawn0.step)⟩
  · replace c4 := Bool.eq_false_iff.mpr c4
    subst c4
    have H1 : (some (0, 11)) = some (r1, r2) := by rw [if_neg (show ¬ (false = true) by decide)] at H; exact H
    clear H
    have H := H1
    clear H1
    simp only [Option.some.injEq, Prod.mk.injEq] at H
    obtain ⟨rfl, rfl⟩ := H
    go_enter Try.func24, Try.ntmps24
    go_wp2_with (first | ((with_reducible refine gate_callee (f := 45) rfl ?_); refine goesL_ (some 7) rfl rfl Try.func45 (by kernel_rfl) rfl #[.int .i64 a0, .int .i64 0, .int .i64 4000000] rfl (by (try simp only [List.map_toArray, List.map_cons, List.map_nil]); first | done | rfl | (simp only [List.length_drop, List.length_take]; rfl)) ?_; (with_reducible refine (amount_within.calls a0 0 4000000 false _ A3.out).mono ?_); rintro e w' ⟨rfl, ⟨nd, rfl⟩⟩; refine ⟨_, rfl, ?_⟩))
    go_ret2
    exact ⟨by first | rfl | (simp; done) | (simp [*]; done), by repeat (first | exact Drawn0.refl _ | apply Drawn0.step)⟩

/-! ### coracleref1_Money: function 22 -/
def coracleref1_Money.f (a0 : Int) : Option (Bool) := if a0 ≥ 0 then (some (decide (a0 ≤ 2100000000000000))) else (some false)
set_option maxHeartbeats 8000000 in
set_option maxRecDepth 100000 in
theorem coracleref1_Money.calls (a0 : Int) (r : Bool) (w : World) (h : coracleref1_Money.f a0 = some r) :
    Calls Try.prog 22 #[.int .i64 a0] w fun e w' => e = .returned (.bool r) ∧ Drawn0 w w' := by
  have H : (if a0 ≥ 0 then (some (decide (a0 ≤ 2100000000000000))) else (some false)) = some r := h
  clear h
  by_cases c2 : a0 ≥ 0
  · rw [if_pos c2] at H
    have c2b0 : decide (0 ≤ a0) = true := decide_eq_true c2
    clear c2
    obtain rfl := Option.some.inj H
    go_enter Try.func22, Try.ntmps22
    go_wp2
    go_ret
    exact ⟨by first | rfl | (simp; done) | (simp [*]; done), by repeat (first | exact Drawn0.refl _ | apply Drawn0.step)⟩
  · rw [if_neg c2] at H
    have c2b0 : decide (0 ≤ a0) = false := decide_eq_false c2
    clear c2
    obtain rfl := Option.some.inj H
    go_enter Try.func22, Try.ntmps22
    go_wp2
    go_ret
    exact ⟨by first | rfl | (simp; done) | (simp [*]; done), by repeat (first | exact Drawn0.refl _ | apply Drawn0.step)⟩

/-! ### coracleref1_Rate: function 27 -/
def coracleref1_Rate.f (a0 : Int) (a1 : Int) : Option (Int × Int) := (coracleref1_Money.f a0).bind fun t209 => (if t209 = true then (if a1 < 1 then (some (0, 11)) else (if a1 > 4000000 then (some (0, 11)) else (if a1 = 0 then (none) else (some (mn (wrap64 (Int.tdiv (wrap64 (a0 * 1000)) a1)) 1000000000, 0))))) else (some (0, 11)))
set_option maxHeartbeats 8000000 in
set_option maxRecDepth 100000 in
theorem coracleref1_Rate.calls (a0 : Int) (a1 : Int) (r1 : Int) (r2 : Int) (w : World) (h : coracleref1_Rate.f a0 a1 = some (r1, r2)) :
    Calls Try.prog 27 #[.int .i64 a0, .int .i64 a1] w fun e w' => e = .returned (.tuple #[.int .i64 r1, .int .i64 r2]) ∧ Below w.heap.size w w' := by
  have HB := Aside0.mk (Below.refl w.heap.size w)
  have H : ((coracleref1_Money.f a0).bind fun t209 => (if t209 = true then (if a1 < 1 then (some (0, 11)) else (if a1 > 4000000 then (some (0, 11)) else (if a1 = 0 then (none) else (some (mn (wrap64 (Int.tdiv (wrap64 (a0 * 1000)) a1)) 1000000000, 0))))) else (some (0, 11)))) = some (r1, r2) := h
  clear h
  replace H := Option.bind_eq_some_iff.mp H
  obtain ⟨t209, A30, H⟩ := H
  replace H : (if t209 = true then (if a1 < 1 then (some (0, 11)) else (if a1 > 4000000 then (some (0, 11)) else (if a1 = 0 then (none) else (some (mn (wrap64 (Int.tdiv (wrap64 (a0 * 1000)) a1)) 1000000000, 0))))) else (some (0, 11))) = some (r1, r2) := H
  have A3 := Aside0.mk A30
  clear A30
  by_cases c4 : t209 = true
  · subst c4
    have H1 : (if a1 < 1 then (some (0, 11)) else (if a1 > 4000000 then (some (0, 11)) else (if a1 = 0 then (none) else (some (mn (wrap64 (Int.tdiv (wrap64 (a0 * 1000)) a1)) 1000000000, 0))))) = some (r1, r2) := by rw [if_pos rfl] at H; exact H
    clear H
    have H := H1
    clear H1
    by_cases c5 : a1 < 1
    · rw [if_pos c5] at H
      have c5b0 : decide (a1 < 1) = true := decide_eq_true c5
      clear c5
      simp only [Option.some.injEq, Prod.mk.injEq] at H
      obtain ⟨rfl, rfl⟩ := H
      go_enter Try.func27, Try.ntmps27
      go_wp2_with (first | ((with_reducible refine gate_callee (f := 22) rfl ?_); refine goesL_ (some 7) rfl rfl Try.func22 (by kernel_rfl) rfl #[.int .i64 a0] rfl (by (try simp only [List.map_toArray, List.map_cons, List.map_nil]); first | done | rfl | (simp only [List.length_drop, List.length_take]; rfl)) ?_; (with_reducible refine (coracleref1_Money.calls a0 true _ A3.out).mono ?_); rintro e w' ⟨rfl, ⟨nd, rfl⟩⟩; refine ⟨_, rfl, ?_⟩))
      go_ret2
      exact ⟨by first | rfl | (simp [errW_none, errW_some] <;> rfl) | (simp [*, errW_none, errW_some] <;> rfl), by repeat (first | (with_reducible first | exact HB.out | apply below_alloc | apply pw_below_drewN | apply below_drew1) | exact HB.out)⟩
    · rw [if_neg c5] at H
      have c5b0 : decide (a1 < 1) = false := decide_eq_false c5
      clear c5
      by_cases c6 : a1 > 4000000
      · rw [if_pos c6] at H
        have c6b0 : decide (4000000 < a1) = true := decide_eq_true c6
        clear c6
        simp only [Option.some.injEq, Prod.mk.injEq] at H
        obtain ⟨rfl, rfl⟩ := H
        go_enter Try.func27, Try.ntmps27
        go_wp2_with (first | ((with_reducible refine gate_callee (f := 22) rfl ?_); refine goesL_ (some 7) rfl rfl Try.func22 (by kernel_rfl) rfl #[.int .i64 a0] rfl (by (try simp only [List.map_toArray, List.map_cons, List.map_nil]); first | done | rfl | (simp only [List.length_drop, List.length_take]; rfl)) ?_; (with_reducible refine (coracleref1_Money.calls a0 true _ A3.out).mono ?_); rintro e w' ⟨rfl, ⟨nd, rfl⟩⟩; refine ⟨_, rfl, ?_⟩))
        go_ret2
        exact ⟨by first | rfl | (simp [errW_none, errW_some] <;> rfl) | (simp [*, errW_none, errW_some] <;> rfl), by repeat (first | (with_reducible first | exact HB.out | apply below_alloc | apply pw_below_drewN | apply below_drew1) | exact HB.out)⟩
      · rw [if_neg c6] at H
        have c6b0 : decide (4000000 < a1) = false := decide_eq_false c6
        clear c6
        by_cases c7 : a1 = 0
        · rw [if_pos c7] at H
          exact absurd H (by simp)
        · rw [if_neg c7] at H
          have c7b0 : (a1 == 0) = false := beq_eq_false_iff_ne.mpr c7
          have c7b1 : (a1 != 0) = true := bne_iff_ne.mpr c7
          obtain ⟨ji8, hji8⟩ : ∃ j_ : Int, (mn (wrap64 (Int.tdiv (wrap64 (a0 * 1000)) a1)) 1000000000) = j_ := ⟨_, rfl⟩
          replace H : (some (ji8, 0)) = some (r1, r2) := by first | (rw [hji8] at H; exact H) | (simp only [hji8] at H ⊢; exact H)
          (try rw [hji8] at A3)
          (try (have hji8h : ji8 ≤ 1000000000 := by (rw [← hji8]; unfold mn; (repeat' split) <;> omega)))
          (try (have hji8g : ji8 ≤ 64 := by omega))
          have hji8_ : (if 1000000000 < (wrap64 (Int.tdiv (wrap64 (a0 * 1000)) a1)) then 1000000000 else (wrap64 (Int.tdiv (wrap64 (a0 * 1000)) a1))) = ji8 := hji8
          simp only [Option.some.injEq, Prod.mk.injEq] at H
          obtain ⟨rfl, rfl⟩ := H
          go_enter Try.func27, Try.ntmps27
          go_wp2_with (first | ((with_reducible refine gate_callee (f := 22) rfl ?_); refine goesL_ (some 7) rfl rfl Try.func22 (by kernel_rfl) rfl #[.int .i64 a0] rfl (by (try simp only [List.map_toArray, List.map_cons, List.map_nil]); first | done | rfl | (simp only [List.length_drop, List.length_take]; rfl)) ?_; (with_reducible refine (coracleref1_Money.calls a0 true _ A3.out).mono ?_); rintro e w' ⟨rfl, ⟨nd, rfl⟩⟩; refine ⟨_, rfl, ?_⟩))
          go_ret2
          exact ⟨by first | rfl | (simp [errW_none, errW_some] <;> rfl) | (simp only [← hji8]; first | rfl | (simp [errW_none, errW_some] <;> rfl)) | (simp [*, errW_none, errW_some] <;> rfl), by repeat (first | (with_reducible first | exact HB.out | apply below_alloc | apply pw_below_drewN | apply below_drew1) | exact HB.out)⟩
  · replace c4 := Bool.eq_false_iff.mpr c4
    subst c4
    have H1 : (some (0, 11)) = some (r1, r2) := by rw [if_neg (show ¬ (false = true) by decide)] at H; exact H
    clear H
    have H := H1
    clear H1
    simp only [Option.some.injEq, Prod.mk.injEq] at H
    obtain ⟨rfl, rfl⟩ := H
    go_enter Try.func27, Try.ntmps27
    go_wp2_with (first | ((with_reducible refine gate_callee (f := 22) rfl ?_); refine goesL_ (some 7) rfl rfl Try.func22 (by kernel_rfl) rfl #[.int .i64 a0] rfl (by (try simp only [List.map_toArray, List.map_cons, List.map_nil]); first | done | rfl | (simp only [List.length_drop, List.length_take]; rfl)) ?_; (with_reducible refine (coracleref1_Money.calls a0 false _ A3.out).mono ?_); rintro e w' ⟨rfl, ⟨nd, rfl⟩⟩; refine ⟨_, rfl, ?_⟩))
    go_ret2
    exact ⟨by first | rfl | (simp [errW_none, errW_some] <;> rfl) | (simp [*, errW_none, errW_some] <;> rfl), by repeat (first | (with_reducible first | exact HB.out | apply below_alloc | apply pw_below_drewN | apply below_drew1) | exact HB.out)⟩

/-! ### coracleref1_CurveOf: function 43 -/
def coracleref1_CurveOf.j0 : Nat → Int → Int → Bool → Option (Int × Int)
  | 0, _, _, _ => none
  | k + 1, x2, x3, x38 => if x38 = true then (some (0, 1)) else ((coracleref1_Rate.f x2 x3).bind fun bt211 => (if bt211.1 < 253 then (some (0, 1)) else (some (bt211.1, 0))))
def coracleref1_CurveOf.f (k : Nat) (a0 : Int) (a1 : Int) (a2 : Int) (a3 : Int) : Option (Int × Int) := if a0 < 0 then (coracleref1_CurveOf.j0 k a2 a3 true) else (if a0 > 1000000 then (coracleref1_CurveOf.j0 k a2 a3 true) else (if a1 < 0 then (coracleref1_CurveOf.j0 k a2 a3 true) else (if a1 > 1000000 then (coracleref1_CurveOf.j0 k a2 a3 true) else ((coracleref1_Money.f a2).bind fun t210 => (if t210 = true then (if a3 < 1 then (coracleref1_CurveOf.j0 k a2 a3 true) else (coracleref1_CurveOf.j0 k a2 a3 (decide (a3 > 4000000)))) else (coracleref1_CurveOf.j0 k a2 a3 true))))))
theorem coracleref1_CurveOf.mono_l : ∀ k, (∀ y0 y1 y2, LeO (coracleref1_CurveOf.j0 k y0 y1 y2) (coracleref1_CurveOf.j0 (k + 1) y0 y1 y2))
  | 0 => fun _ _ _ r h => by simp [coracleref1_CurveOf.j0] at h
  | k + 1 => by
    have ih0 := coracleref1_CurveOf.mono_l k
    · intro y0 y1 y2
      unfold coracleref1_CurveOf.j0
      repeat' first
      | (with_reducible exact ih0 _ _ _)
      | (with_reducible exact LeO.refl _)
      | (with_reducible exact LeO.none _)
      | (with_reducible refine LeO.ite ?_ ?_)
      | (with_reducible refine LeO.bind ?_ (fun _ => ?_))
      | exact ih0 _ _ _
      | exact LeO.none _
      | refine LeO.ite ?_ ?_
      | refine LeO.bind ?_ (fun _ => ?_)
theorem coracleref1_CurveOf.mono : ∀ a0 a1 a2 a3 k, LeO (coracleref1_CurveOf.f k a0 a1 a2 a3) (coracleref1_CurveOf.f (k + 1) a0 a1 a2 a3) := by
  intro a0 a1 a2 a3 k
  have ih0 := coracleref1_CurveOf.mono_l k
  unfold coracleref1_CurveOf.f
  repeat' first
      | (with_reducible exact ih0 _ _ _)
      | (with_reducible exact LeO.refl _)
      | (with_reducible exact LeO.none _)
      | (with_reducible refine LeO.ite ?_ ?_)
      | (with_reducible refine LeO.bind ?_ (fun _ => ?_))
      | exact ih0 _ _ _
      | exact LeO.none _
      | refine LeO.ite ?_ ?_
      | refine LeO.bind ?_ (fun _ => ?_)
set_option maxHeartbeats 8000000 in
set_option maxRecDepth 100000 in
theorem coracleref1_CurveOf.calls (k : Nat) (a0 : Int) (a1 : Int) (a2 : Int) (a3 : Int) (r1 : Int) (r2 : Int) (w : World) (h : coracleref1_CurveOf.f k a0 a1 a2 a3 = some (r1, r2)) :
    Calls Try.prog 43 #[.int .i64 a0, .int .i64 a1, .int .i64 a2, .int .i64 a3] w fun e w' => e = .returned (.tuple #[.int .i64 r1, .int .i64 r2]) ∧ Below w.heap.size w w' := by
  have HB := Aside0.mk (Below.refl w.heap.size w)
  have H : (if a0 < 0 then (coracleref1_CurveOf.j0 k a2 a3 true) else (if a0 > 1000000 then (coracleref1_CurveOf.j0 k a2 a3 true) else (if a1 < 0 then (coracleref1_CurveOf.j0 k a2 a3 true) else (if a1 > 1000000 then (coracleref1_CurveOf.j0 k a2 a3 true) else ((coracleref1_Money.f a2).bind fun t210 => (if t210 = true then (if a3 < 1 then (coracleref1_CurveOf.j0 k a2 a3 true) else (coracleref1_CurveOf.j0 k a2 a3 (decide (a3 > 4000000)))) else (coracleref1_CurveOf.j0 k a2 a3 true))))))) = some (r1, r2) := h
  clear h
  have HC5 := Aside0.mk H
  clear H
  go_enter Try.func43, Try.ntmps43
  go_upto_region 1 with (fail)
  go_cut [38] (fun v38 wc => ∃ (kq : Nat) (x38_4 : Bool), v38 = .bool x38_4 ∧ Aside0 (coracleref1_CurveOf.j0 kq a2 a3 x38_4 = some (r1, r2)) ∧ Aside0 (kq ≤ k) ∧ Aside0 (Below w.heap.size w wc))
  case first =>
    have H := HC5.out
    clear HC5
    by_cases c6 : a0 < 0
    · rw [if_pos c6] at H
      have c6b0 : decide (a0 < 0) = true := decide_eq_true c6
      clear c6
      (first | rw [c6b0] | (simp only [i64_w, i32_w]; rw [c6b0]) | skip)
      have H' := Aside0.mk H
      clear H
      go_wp2
      go_meet
      case rel => exact ⟨_, (true), (by first | rfl | (simp; done) | (simp [*]; done)), H', ⟨by first | omega | exact Nat.le_refl _⟩, ⟨by repeat (first | (with_reducible first | exact HB.out | apply below_alloc | apply pw_below_drewN | apply below_drew1) | exact HB.out)⟩⟩
    · rw [if_neg c6] at H
      have c6b0 : decide (a0 < 0) = false := decide_eq_false c6
      clear c6
      (first | rw [c6b0] | (simp only [i64_w, i32_w]; rw [c6b0]) | skip)
      by_cases c7 : a0 > 1000000
      · rw [if_pos c7] at H
        have c7b0 : decide (1000000 < a0) = true := decide_eq_true c7
        clear c7
        have H' := Aside0.mk H
        clear H
        go_wp2
        go_meet
        case rel => exact ⟨_, (true), (by first | rfl | (simp; done) | (simp [*]; done)), H', ⟨by first | omega | exact Nat.le_refl _⟩, ⟨by repeat (first | (with_reducible first | exact HB.out | apply below_alloc | apply pw_below_drewN | apply below_drew1) | exact HB.out)⟩⟩
      · rw [if_neg c7] at H
        have c7b0 : decide (1000000 < a0) = false := decide_eq_false c7
        clear c7
        by_cases c8 : a1 < 0
        · rw [if_pos c8] at H
          have c8b0 : decide (a1 < 0) = true := decide_eq_true c8
          clear c8
          have H' := Aside0.mk H
          clear H
          go_wp2
          go_meet
          case rel => exact ⟨_, (true), (by first | rfl | (simp; done) | (simp [*]; done)), H', ⟨by first | omega | exact Nat.le_refl _⟩, ⟨by repeat (first | (with_reducible first | exact HB.out | apply below_alloc | apply pw_below_drewN | apply below_drew1) | exact HB.out)⟩⟩
        · rw [if_neg c8] at H
          have c8b0 : decide (a1 < 0) = false := decide_eq_false c8
          clear c8
          by_cases c9 : a1 > 1000000
          · rw [if_pos c9] at H
            have c9b0 : decide (1000000 < a1) = true := decide_eq_true c9
            clear c9
            have H' := Aside0.mk H
            clear H
            go_wp2
            go_meet
            case rel => exact ⟨_, (true), (by first | rfl | (simp; done) | (simp [*]; done)), H', ⟨by first | omega | exact Nat.le_refl _⟩, ⟨by repeat (first | (with_reducible first | exact HB.out | apply below_alloc | apply pw_below_drewN | apply below_drew1) | exact HB.out)⟩⟩
          · rw [if_neg c9] at H
            have c9b0 : decide (1000000 < a1) = false := decide_eq_false c9
            clear c9
            replace H := Option.bind_eq_some_iff.mp H
            obtain ⟨t210, A100, H⟩ := H
            replace H : (if t210 = true then (if a3 < 1 then (coracleref1_CurveOf.j0 k a2 a3 true) else (coracleref1_CurveOf.j0 k a2 a3 (decide (a3 > 4000000)))) else (coracleref1_CurveOf.j0 k a2 a3 true)) = some (r1, r2) := H
            have A10 := Aside0.mk A100
            clear A100
            by_cases c11 : t210 = true
            · subst c11
              have H1 : (if a3 < 1 then (coracleref1_CurveOf.j0 k a2 a3 true) else (coracleref1_CurveOf.j0 k a2 a3 (decide (a3 > 4000000)))) = some (r1, r2) := by rw [if_pos rfl] at H; exact H
              clear H
              have H := H1
              clear H1
              by_cases c12 : a3 < 1
              · rw [if_pos c12] at H
                have c12b0 : decide (a3 < 1) = true := decide_eq_true c12
                clear c12
                have H' := Aside0.mk H
                clear H
                go_wp2_with (first | (go_at_call 22; (with_reducible refine (coracleref1_Money.calls a2 true _ A10.out).mono ?_); rintro e w' ⟨rfl, ⟨nd, rfl⟩⟩))
                go_meet
                case rel => exact ⟨_, (true), (by first | rfl | (simp; done) | (simp [*]; done)), H', ⟨by first | omega | exact Nat.le_refl _⟩, ⟨by repeat (first | (with_reducible first | exact HB.out | apply below_alloc | apply pw_below_drewN | apply below_drew1) | exact HB.out)⟩⟩
              · rw [if_neg c12] at H
                have c12b0 : decide (a3 < 1) = false := decide_eq_false c12
                clear c12
                have H' := Aside0.mk H
                clear H
                go_wp2_with (first | (go_at_call 22; (with_reducible refine (coracleref1_Money.calls a2 true _ A10.out).mono ?_); rintro e w' ⟨rfl, ⟨nd, rfl⟩⟩))
                go_meet
                case rel => exact ⟨_, (decide (a3 > 4000000)), (by first | rfl | (simp; done) | (simp [*]; done)), H', ⟨by first | omega | exact Nat.le_refl _⟩, ⟨by repeat (first | (with_reducible first | exact HB.out | apply below_alloc | apply pw_below_drewN | apply below_drew1) | exact HB.out)⟩⟩
            · replace c11 := Bool.eq_false_iff.mpr c11
              subst c11
              have H1 : (coracleref1_CurveOf.j0 k a2 a3 true) = some (r1, r2) := by rw [if_neg (show ¬ (false = true) by decide)] at H; exact H
              clear H
              have H := H1
              clear H1
              have H' := Aside0.mk H
              clear H
              go_wp2_with (first | (go_at_call 22; (with_reducible refine (coracleref1_Money.calls a2 false _ A10.out).mono ?_); rintro e w' ⟨rfl, ⟨nd, rfl⟩⟩))
              go_meet
              case rel => exact ⟨_, (true), (by first | rfl | (simp; done) | (simp [*]; done)), H', ⟨by first | omega | exact Nat.le_refl _⟩, ⟨by repeat (first | (with_reducible first | exact HB.out | apply below_alloc | apply pw_below_drewN | apply below_drew1) | exact HB.out)⟩⟩
  case rest =>
    clear HC5
    try clear c1
    try clear p2
    try clear c4
    try clear c6
    try clear c6b0
    try clear c7
    try clear c7b0
    try clear c8
    try clear c8b0
    try clear c9
    try clear c9b0
    try clear c11
    try clear c12
    try clear c12b0
    obtain ⟨kq, x38_4, rfl, HA, HJ4, HB⟩ := hcut
    cases kq with
    | zero => exact absurd HA.out (by simp [coracleref1_CurveOf.j0])
    | succ kj4 =>
      have H := HA.out
      clear HA
      simp only [coracleref1_CurveOf.j0] at H
      by_cases c13 : x38_4 = true
      · subst c13
        have H1 : (some (0, 1)) = some (r1, r2) := by rw [if_pos rfl] at H; exact H
        clear H
        have H := H1
        clear H1
        simp only [Option.some.injEq, Prod.mk.injEq] at H
        obtain ⟨rfl, rfl⟩ := H
        go_wp2
        go_ret2
        exact ⟨by first | rfl | (simp [errW_none, errW_some] <;> rfl) | (simp [*, errW_none, errW_some] <;> rfl), by repeat (first | (with_reducible first | exact HB.out | apply below_alloc | apply pw_below_drewN | apply below_drew1) | exact HB.out)⟩
      · replace c13 := Bool.eq_false_iff.mpr c13
        subst c13
        have H1 : ((coracleref1_Rate.f a2 a3).bind fun bt211 => (if bt211.1 < 253 then (some (0, 1)) else (some (bt211.1, 0)))) = some (r1, r2) := by rw [if_neg (show ¬ (false = true) by decide)] at H; exact H
        clear H
        have H := H1
        clear H1
        replace H := Option.bind_eq_some_iff.mp H
        obtain ⟨⟨t211, t212⟩, A140, H⟩ := H
        replace H : (if t211 < 253 then (some (0, 1)) else (some (t211, 0))) = some (r1, r2) := H
        have A14 := Aside0.mk A140
        clear A140
        by_cases c15 : t211 < 253
        · rw [if_pos c15] at H
          have c15b0 : decide (t211 < 253) = true := decide_eq_true c15
          clear c15
          simp only [Option.some.injEq, Prod.mk.injEq] at H
          obtain ⟨rfl, rfl⟩ := H
          go_wp2_with (first | ((with_reducible refine gate_callee (f := 27) rfl ?_); refine goesL_ (some 42) rfl rfl Try.func27 (by kernel_rfl) rfl #[.int .i64 a2, .int .i64 a3] rfl (by (try simp only [List.map_toArray, List.map_cons, List.map_nil]); first | done | rfl | (simp only [List.length_drop, List.length_take]; rfl)) ?_; (with_reducible refine (coracleref1_Rate.calls a2 a3 t211 t212 _ A14.out).mono ?_); rintro e w16 ⟨rfl, hb⟩; refine ⟨_, rfl, ?_⟩; have n0_ := Aside0.mk (below_step (by repeat (first | (with_reducible first | exact HB.out | apply below_alloc | apply pw_below_drewN | apply below_drew1) | exact HB.out)) hb); clear HB; have HB := n0_; clear n0_; (try clear hb); (try clear hb2); (try clear hk); (try clear hi)))
          go_ret2
          exact ⟨by first | rfl | (simp [errW_none, errW_some] <;> rfl) | (simp [*, errW_none, errW_some] <;> rfl), by repeat (first | (with_reducible first | exact HB.out | apply below_alloc | apply pw_below_drewN | apply below_drew1) | exact HB.out)⟩
        · rw [if_neg c15] at H
          have c15b0 : decide (t211 < 253) = false := decide_eq_false c15
          clear c15
          simp only [Option.some.injEq, Prod.mk.injEq] at H
          obtain ⟨rfl, rfl⟩ := H
          go_wp2_with (first | ((with_reducible refine gate_callee (f := 27) rfl ?_); refine goesL_ (some 42) rfl rfl Try.func27 (by kernel_rfl) rfl #[.int .i64 a2, .int .i64 a3] rfl (by (try simp only [List.map_toArray, List.map_cons, List.map_nil]); first | done | rfl | (simp only [List.length_drop, List.length_take]; rfl)) ?_; (with_reducible refine (coracleref1_Rate.calls a2 a3 t211 t212 _ A14.out).mono ?_); rintro e w17 ⟨rfl, hb⟩; refine ⟨_, rfl, ?_⟩; have n0_ := Aside0.mk (below_step (by repeat (first | (with_reducible first | exact HB.out | apply below_alloc | apply pw_below_drewN | apply below_drew1) | exact HB.out)) hb); clear HB; have HB := n0_; clear n0_; (try clear hb); (try clear hb2); (try clear hk); (try clear hi)))
          go_ret2
          exact ⟨by first | rfl | (simp [errW_none, errW_some] <;> rfl) | (simp [*, errW_none, errW_some] <;> rfl), by repeat (first | (with_reducible first | exact HB.out | apply below_alloc | apply pw_below_drewN | apply below_drew1) | exact HB.out)⟩

/-! ### coraclelaw16_CurveBudgets: function 15 -/
mutual
def coraclelaw16_CurveBudgets.j0 : Nat → Int → Int → Int → Int → Int → Int → Int → Int → Bool → C128 → C128 → Option (Bool)
  | 0, _, _, _, _, _, _, _, _, _, _, _ => none
  | k + 1, x0, x1, x2, x3, x4, x12, x13, x14, x41, x217000, x217001 => if x41 = true then (if x12 = x14 then (if (ceq x217000.re x217000.im 0 0 && (ceq x217001.re x217001.im 0 0)) = true then ((coraclelaw16_awake.f k).bind fun t219 => (some t219)) else (some false)) else (some false)) else ((curve_Curve_At.f x217000 x217001 x4).bind fun t220 => ((amount_Fee.f x3 t220).bind fun bt221 => ((coracleref1_At.f k x0 253 (mx x0 x1) x13 x4).bind fun t223 => (if t220 = t223 then (if bt221.2 = 0 then (coraclelaw16_CurveBudgets.j1 k x0 x13 (mx x0 x1) (decide (bt221.1 > x2)) x217000 x217001) else (coraclelaw16_CurveBudgets.j1 k x0 x13 (mx x0 x1) true x217000 x217001)) else (coraclelaw16_CurveBudgets.j1 k x0 x13 (mx x0 x1) true x217000 x217001)))))
def coraclelaw16_CurveBudgets.j1 : Nat → Int → Int → Int → Bool → C128 → C128 → Option (Bool)
  | 0, _, _, _, _, _, _ => none
  | k + 1, x0, x13, x15, x80, x217000, x217001 => if x80 = true then (some false) else ((curve_Curve_At.f x217000 x217001 x15).bind fun t224 => (if t224 = x13 then ((curve_Curve_At.f x217000 x217001 (wrap64 (x0 - 1))).bind fun t225 => (if t225 = 253 then ((coraclelaw16_awake.f k).bind fun t226 => (some t226)) else (some false))) else (some false)))
end
def coraclelaw16_CurveBudgets.f (k : Nat) (a0 : Int) (a1 : Int) (a2 : Int) (a3 : Int) (a4 : Int) : Option (Bool) := (curve_Of.f a0 a1 a2 a3).bind fun bt213 => ((coracleref1_CurveOf.f k a0 a1 a2 a3).bind fun bt217 => (if bt213.2.2 = bt217.2 then (coraclelaw16_CurveBudgets.j0 k a0 a1 a2 a3 a4 bt213.2.2 bt217.1 bt217.2 (bt217.2 != 0) bt213.1 bt213.2.1) else (coraclelaw16_CurveBudgets.j0 k a0 a1 a2 a3 a4 bt213.2.2 bt217.1 bt217.2 true bt213.1 bt213.2.1)))
theorem coraclelaw16_CurveBudgets.mono_l : ∀ k, (∀ y0 y1 y2 y3 y4 y5 y6 y7 y8 y9 y10, LeO (coraclelaw16_CurveBudgets.j0 k y0 y1 y2 y3 y4 y5 y6 y7 y8 y9 y10) (coraclelaw16_CurveBudgets.j0 (k + 1) y0 y1 y2 y3 y4 y5 y6 y7 y8 y9 y10)) ∧ (∀ y0 y1 y2 y3 y4 y5, LeO (coraclelaw16_CurveBudgets.j1 k y0 y1 y2 y3 y4 y5) (coraclelaw16_CurveBudgets.j1 (k + 1) y0 y1 y2 y3 y4 y5))
  | 0 => ⟨fun _ _ _ _ _ _ _ _ _ _ _ r h => by simp [coraclelaw16_CurveBudgets.j0] at h, fun _ _ _ _ _ _ r h => by simp [coraclelaw16_CurveBudgets.j1] at h⟩
  | k + 1 => by
    obtain ⟨ih0, ih1⟩ := coraclelaw16_CurveBudgets.mono_l k
    refine ⟨?_, ?_⟩
    · intro y0 y1 y2 y3 y4 y5 y6 y7 y8 y9 y10
      unfold coraclelaw16_CurveBudgets.j0
      repeat' first
      | (with_reducible exact ih0 _ _ _ _ _ _ _ _ _ _ _)
      | (with_reducible exact ih1 _ _ _ _ _ _)
      | (with_reducible exact coraclelaw16_awake.mono _)
      | (with_reducible exact coracleref1_At.mono _ _ _ _ _ _)
      | (with_reducible exact coracleref1_CurveOf.mono _ _ _ _ _)
      | (with_reducible exact LeO.refl _)
      | (with_reducible exact LeO.none _)
      | (with_reducible refine LeO.ite ?_ ?_)
      | (with_reducible refine LeO.bind ?_ (fun _ => ?_))
      | exact ih0 _ _ _ _ _ _ _ _ _ _ _
      | exact ih1 _ _ _ _ _ _
      | exact coraclelaw16_awake.mono _
      | exact coracleref1_At.mono _ _ _ _ _ _
      | exact coracleref1_CurveOf.mono _ _ _ _ _
      | exact LeO.none _
      | refine LeO.ite ?_ ?_
      | refine LeO.bind ?_ (fun _ => ?_)
    · intro y0 y1 y2 y3 y4 y5
      unfold coraclelaw16_CurveBudgets.j1
      repeat' first
      | (with_reducible exact ih0 _ _ _ _ _ _ _ _ _ _ _)
      | (with_reducible exact ih1 _ _ _ _ _ _)
      | (with_reducible exact coraclelaw16_awake.mono _)
      | (with_reducible exact coracleref1_At.mono _ _ _ _ _ _)
      | (with_reducible exact coracleref1_CurveOf.mono _ _ _ _ _)
      | (with_reducible exact LeO.refl _)
      | (with_reducible exact LeO.none _)
      | (with_reducible refine LeO.ite ?_ ?_)
      | (with_reducible refine LeO.bind ?_ (fun _ => ?_))
      | exact ih0 _ _ _ _ _ _ _ _ _ _ _
      | exact ih1 _ _ _ _ _ _
      | exact coraclelaw16_awake.mono _
      | exact coracleref1_At.mono _ _ _ _ _ _
      | exact coracleref1_CurveOf.mono _ _ _ _ _
      | exact LeO.none _
      | refine LeO.ite ?_ ?_
      | refine LeO.bind ?_ (fun _ => ?_)
theorem coraclelaw16_CurveBudgets.mono : ∀ a0 a1 a2 a3 a4 k, LeO (coraclelaw16_CurveBudgets.f k a0 a1 a2 a3 a4) (coraclelaw16_CurveBudgets.f (k + 1) a0 a1 a2 a3 a4) := by
  intro a0 a1 a2 a3 a4 k
  obtain ⟨ih0, ih1⟩ := coraclelaw16_CurveBudgets.mono_l k
  unfold coraclelaw16_CurveBudgets.f
  repeat' first
      | (with_reducible exact ih0 _ _ _ _ _ _ _ _ _ _ _)
      | (with_reducible exact ih1 _ _ _ _ _ _)
      | (with_reducible exact coraclelaw16_awake.mono _)
      | (with_reducible exact coracleref1_At.mono _ _ _ _ _ _)
      | (with_reducible exact coracleref1_CurveOf.mono _ _ _ _ _)
      | (with_reducible exact LeO.refl _)
      | (with_reducible exact LeO.none _)
      | (with_reducible refine LeO.ite ?_ ?_)
      | (with_reducible refine LeO.bind ?_ (fun _ => ?_))
      | exact ih0 _ _ _ _ _ _ _ _ _ _ _
      | exact ih1 _ _ _ _ _ _
      | exact coraclelaw16_awake.mono _
      | exact coracleref1_At.mono _ _ _ _ _ _
      | exact coracleref1_CurveOf.mono _ _ _ _ _
      | exact LeO.none _
      | refine LeO.ite ?_ ?_
      | refine LeO.bind ?_ (fun _ => ?_)
set_option maxHeartbeats 8000000 in
set_option maxRecDepth 100000 in
theorem coraclelaw16_CurveBudgets.calls (k : Nat) (a0 : Int) (a1 : Int) (a2 : Int) (a3 : Int) (a4 : Int) (r : Bool) (w : World) (h : coraclelaw16_CurveBudgets.f k a0 a1 a2 a3 a4 = some r) :
    Calls Try.prog 15 #[.int .i64 a0, .int .i64 a1, .int .i64 a2, .int .i64 a3, .int .i64 a4] w fun e w' => e = .returned (.bool r) ∧ Below w.heap.size w w' := by
  have hu51 := Try.underlying51
  have HB := Aside0.mk (Below.refl w.heap.size w)
  have H : ((curve_Of.f a0 a1 a2 a3).bind fun bt213 => ((coracleref1_CurveOf.f k a0 a1 a2 a3).bind fun bt217 => (if bt213.2.2 = bt217.2 then (coraclelaw16_CurveBudgets.j0 k a0 a1 a2 a3 a4 bt213.2.2 bt217.1 bt217.2 (bt217.2 != 0) bt213.1 bt213.2.1) else (coraclelaw16_CurveBudgets.j0 k a0 a1 a2 a3 a4 bt213.2.2 bt217.1 bt217.2 true bt213.1 bt213.2.1)))) = some r := h
  clear h
  replace H := Option.bind_eq_some_iff.mp H
  obtain ⟨⟨t213, t214, t215⟩, A60, H⟩ := H
  replace H : ((coracleref1_CurveOf.f k a0 a1 a2 a3).bind fun bt217 => (if t215 = bt217.2 then (coraclelaw16_CurveBudgets.j0 k a0 a1 a2 a3 a4 t215 bt217.1 bt217.2 (bt217.2 != 0) t213 t214) else (coraclelaw16_CurveBudgets.j0 k a0 a1 a2 a3 a4 t215 bt217.1 bt217.2 true t213 t214))) = some r := H
  have A6 := Aside0.mk A60
  clear A60
  replace H := Option.bind_eq_some_iff.mp H
  obtain ⟨⟨t217, t218⟩, A70, H⟩ := H
  replace H : (if t215 = t218 then (coraclelaw16_CurveBudgets.j0 k a0 a1 a2 a3 a4 t215 t217 t218 (t218 != 0) t213 t214) else (coraclelaw16_CurveBudgets.j0 k a0 a1 a2 a3 a4 t215 t217 t218 true t213 t214)) = some r := H
  have A7 := Aside0.mk A70
  clear A70
  have HC8 := Aside0.mk H
  clear H
  go_enter Try.func15, Try.ntmps15
  go_upto_region 3 with (first | ((with_reducible refine gate_callee (f := 42) rfl ?_); refine goesL_ (some 24) rfl rfl Try.func42 (by kernel_rfl) rfl #[.int .i64 a0, .int .i64 a1, .int .i64 a2, .int .i64 a3] rfl (by (try simp only [List.map_toArray, List.map_cons, List.map_nil]); first | done | rfl | (simp only [List.length_drop, List.length_take]; rfl)) ?_; (with_reducible refine (curve_Of.calls a0 a1 a2 a3 t213 t214 t215 _ A6.out).mono ?_); rintro e w9 ⟨rfl, hb⟩; refine ⟨_, rfl, ?_⟩; have n0_ := Aside0.mk (below_step (by repeat (first | (with_reducible first | exact HB.out | apply below_alloc | apply pw_below_drewN | apply below_drew1) | exact HB.out)) hb); clear HB; have HB := n0_; clear n0_; (try clear hb); (try clear hb2); (try clear hk); (try clear hi)) | ((with_reducible refine gate_dst (N := 11) rfl ?_); refine box_event ?hg (N := 11) ?hd (cs := #[.complex .f64 0 0, .complex .f64 0 0]) (t := 51) ?hr ?_; (case hd => rfl); (case hg => rfl); (case hr => first | (go_simp; done) | (go_simp; rfl)); intro gb216 hg w10 hbox hb; have n0_ := Aside0.mk (below_step (by repeat (first | (with_reducible first | exact HB.out | apply below_alloc | apply pw_below_drewN | apply below_drew1) | exact HB.out)) hb); have n1_ := Aside0.mk (hbox); have n2_ := Aside0.mk ((by rw [hg]; exact (below_size (by repeat (first | (with_reducible first | exact HB.out | apply below_alloc | apply pw_below_drewN | apply below_drew1) | exact HB.out))) : w.heap.size ≤ gb216)); have n3_ := Aside0.mk ((by rw [hg]; exact (below_size (by repeat (first | (with_reducible first | exact HB.out | apply below_alloc | apply pw_below_drewN | apply below_drew1) | exact HB.out))) : w.heap.size ≤ gb216)); clear HB; have HB := n0_; have BK216 := n1_; have GW216 := n2_; have GE216 := n3_; clear n0_ n1_ n2_ n3_; clear hb hbox hg; have hcz11_0 : w10.cell? ⟨gb216, 0, none⟩ = some (.complex .f64 0 0) := (blk_cell BK216.out 0).trans rfl; have hcz11_1 : w10.cell? ⟨gb216, 1, none⟩ = some (.complex .f64 0 0) := (blk_cell BK216.out 1).trans rfl; have hfz11_0 := blk_frozen BK216.out 0; have hfz11_1 := blk_frozen BK216.out 1) | ((with_reducible refine gate_callee (f := 43) rfl ?_); refine goesL_ (some 32) rfl rfl Try.func43 (by kernel_rfl) rfl #[.int .i64 a0, .int .i64 a1, .int .i64 a2, .int .i64 a3] rfl (by (try simp only [List.map_toArray, List.map_cons, List.map_nil]); first | done | rfl | (simp only [List.length_drop, List.length_take]; rfl)) ?_; (with_reducible refine (coracleref1_CurveOf.calls k a0 a1 a2 a3 t217 t218 _ A7.out).mono ?_); rintro e w12 ⟨rfl, hb⟩; refine ⟨_, rfl, ?_⟩; have n0_ := Aside0.mk (blk_below (g := gb216) (o := .cells #[.complex .f64 t213.re t213.im, .complex .f64 t214.re t214.im] 51 (0, 0)) (by (with_reducible repeat (first | refine blk_drewN ?_ _ | refine blk_drew ?_ | refine blk_alloc ?_ _)); refine blk_put (cs := #[.complex .f64 t213.re t213.im, .complex .f64 0 0]) ?_ 1 _ rfl; (with_reducible repeat (first | refine blk_drewN ?_ _ | refine blk_drew ?_ | refine blk_alloc ?_ _)); refine blk_put (cs := #[.complex .f64 0 0, .complex .f64 0 0]) ?_ 0 _ rfl; (with_reducible repeat (first | refine blk_drewN ?_ _ | refine blk_drew ?_ | refine blk_alloc ?_ _)); exact BK216.out) hb); have n1_ := Aside0.mk (below_step (by repeat (first | (with_reducible first | exact HB.out | apply below_alloc | apply pw_below_drewN | apply below_drew1 | refine below_set ?_ GE216.out) | exact HB.out)) hb); clear BK216; clear HB; have BK216 := n0_; have HB := n1_; clear n0_ n1_; (try clear hb); (try clear hb2); (try clear hk); (try clear hi)))
  (try simp only [Act.put, List.setIfInBounds_toArray, List.set_cons_zero, List.set_cons_succ])
  go_cut [41] (fun v41 wc => ∃ (kq : Nat) (x41_7 : Bool), v41 = .bool x41_7 ∧ Aside0 (coraclelaw16_CurveBudgets.j0 kq a0 a1 a2 a3 a4 t215 t217 t218 x41_7 t213 t214 = some r) ∧ Aside0 (kq ≤ k) ∧ Aside0 (wc.heap[gb216]? = some (.cells #[.complex .f64 t213.re t213.im, .complex .f64 t214.re t214.im] 51 (0, 0))) ∧ Aside0 (Below w.heap.size w wc))
  case first =>
    have H := HC8.out
    clear HC8
    by_cases c13 : t215 = t218
    · rw [if_pos c13] at H
      have c13b0 : (t215 == t218) = true := beq_iff_eq.mpr c13
      have c13b1 : (t215 != t218) = false := bne_eq_false_iff_eq.mpr c13
      clear c13
      (first | rw [c13b0] | (simp only [i64_w, i32_w]; rw [c13b0]) | skip)
      have H' := Aside0.mk H
      clear H
      go_wp2
      go_meet
      case rel => exact ⟨_, ((t218 != 0)), (by first | rfl | (simp; done) | (simp [*]; done)), H', ⟨by first | omega | exact Nat.le_refl _⟩, ⟨by (with_reducible repeat (first | refine blk_drewN ?_ _ | refine blk_drew ?_ | refine blk_alloc ?_ _)); exact BK216.out⟩, ⟨by repeat (first | (with_reducible first | exact HB.out | apply below_alloc | apply pw_below_drewN | apply below_drew1 | refine below_set ?_ GE216.out) | exact HB.out)⟩⟩
    · rw [if_neg c13] at H
      have c13b0 : (t215 == t218) = false := beq_eq_false_iff_ne.mpr c13
      have c13b1 : (t215 != t218) = true := bne_iff_ne.mpr c13
      (first | rw [c13b0] | (simp only [i64_w, i32_w]; rw [c13b0]) | skip)
      have H' := Aside0.mk H
      clear H
      go_wp2
      go_meet
      case rel => exact ⟨_, (true), (by first | rfl | (simp; done) | (simp [*]; done)), H', ⟨by first | omega | exact Nat.le_refl _⟩, ⟨by (with_reducible repeat (first | refine blk_drewN ?_ _ | refine blk_drew ?_ | refine blk_alloc ?_ _)); exact BK216.out⟩, ⟨by repeat (first | (with_reducible first | exact HB.out | apply below_alloc | apply pw_below_drewN | apply below_drew1 | refine below_set ?_ GE216.out) | exact HB.out)⟩⟩
  case rest =>
    clear HC8
    try clear c1
    try clear p2
    try clear c4
    try clear c13
    try clear c13b0
    try clear c13b1
    try clear hcz11_0
    try clear hcz11_1
    try clear hfz11_0
    try clear hfz11_1
    obtain ⟨kq, x41_7, rfl, HA, HJ7, BK216, HB⟩ := hcut
    cases kq with
    | zero => exact absurd HA.out (by simp [coraclelaw16_CurveBudgets.j0])
    | succ kj7 =>
      have H := HA.out
      clear HA
      simp only [coraclelaw16_CurveBudgets.j0] at H
      by_cases c14 : x41_7 = true
      · subst c14
        have H1 : (if t215 = t218 then (if (ceq t213.re t213.im 0 0 && (ceq t214.re t214.im 0 0)) = true then ((coraclelaw16_awake.f kj7).bind fun t219 => (some t219)) else (some false)) else (some false)) = some r := by rw [if_pos rfl] at H; exact H
        clear H
        have H := H1
        clear H1
        by_cases c15 : t215 = t218
        · rw [if_pos c15] at H
          have c15b0 : (t215 == t218) = true := beq_iff_eq.mpr c15
          have c15b1 : (t215 != t218) = false := bne_eq_false_iff_eq.mpr c15
          clear c15
          by_cases c16 : (ceq t213.re t213.im 0 0 && (ceq t214.re t214.im 0 0)) = true
          · rw [if_pos c16] at H
            have c16b0 : (ceq t213.re t213.im 0 0 && (ceq t214.re t214.im 0 0)) = true := c16
            clear c16
            replace H := Option.bind_eq_some_iff.mp H
            obtain ⟨t219, A170, H⟩ := H
            replace H : (some t219) = some r := H
            have A17 := Aside0.mk A170
            clear A170
            obtain rfl := Option.some.inj H
            have hcz18_0 : wc.cell? ⟨gb216, 0, none⟩ = some (.complex .f64 t213.re t213.im) := (blk_cell BK216.out 0).trans rfl
            have hcz18_1 : wc.cell? ⟨gb216, 1, none⟩ = some (.complex .f64 t214.re t214.im) := (blk_cell BK216.out 1).trans rfl
            have hfz18_0 := blk_frozen BK216.out 0
            have hfz18_1 := blk_frozen BK216.out 1
            go_wp2_with (first | (go_at_call 37; (with_reducible refine (coraclelaw16_awake.calls kj7  t219 _ A17.out).mono ?_); rintro e w19 ⟨rfl, hb⟩; have n0_ := Aside0.mk (blk_below (g := gb216) (o := .cells #[.complex .f64 t213.re t213.im, .complex .f64 t214.re t214.im] 51 (0, 0)) (by (with_reducible repeat (first | refine blk_drewN ?_ _ | refine blk_drew ?_ | refine blk_alloc ?_ _)); exact BK216.out) hb); have n1_ := Aside0.mk (below_step (by repeat (first | (with_reducible first | exact HB.out | apply below_alloc | apply pw_below_drewN | apply below_drew1 | refine below_set ?_ GE216.out) | exact HB.out)) hb); clear BK216; clear HB; have BK216 := n0_; have HB := n1_; clear n0_ n1_; (try clear hb); (try clear hb2); (try clear hk); (try clear hi)))
            go_ret
            exact ⟨by first | rfl | (simp [errW_none, errW_some] <;> rfl) | (simp [*, errW_none, errW_some] <;> rfl), by repeat (first | (with_reducible first | exact HB.out | apply below_alloc | apply pw_below_drewN | apply below_drew1 | refine below_set ?_ GE216.out) | exact HB.out)⟩
          · rw [if_neg c16] at H
            have c16b0 : (ceq t213.re t213.im 0 0 && (ceq t214.re t214.im 0 0)) = false := by simpa using c16
            clear c16
            obtain rfl := Option.some.inj H
            have hcz20_0 : wc.cell? ⟨gb216, 0, none⟩ = some (.complex .f64 t213.re t213.im) := (blk_cell BK216.out 0).trans rfl
            have hcz20_1 : wc.cell? ⟨gb216, 1, none⟩ = some (.complex .f64 t214.re t214.im) := (blk_cell BK216.out 1).trans rfl
            have hfz20_0 := blk_frozen BK216.out 0
            have hfz20_1 := blk_frozen BK216.out 1
            go_wp2
            go_ret
            exact ⟨by first | rfl | (simp [errW_none, errW_some] <;> rfl) | (simp [*, errW_none, errW_some] <;> rfl), by repeat (first | (with_reducible first | exact HB.out | apply below_alloc | apply pw_below_drewN | apply below_drew1 | refine below_set ?_ GE216.out) | exact HB.out)⟩
        · rw [if_neg c15] at H
          have c15b0 : (t215 == t218) = false := beq_eq_false_iff_ne.mpr c15
          have c15b1 : (t215 != t218) = true := bne_iff_ne.mpr c15
          obtain rfl := Option.some.inj H
          go_wp2
          go_ret
          exact ⟨by first | rfl | (simp [errW_none, errW_some] <;> rfl) | (simp [*, errW_none, errW_some] <;> rfl), by repeat (first | (with_reducible first | exact HB.out | apply below_alloc | apply pw_below_drewN | apply below_drew1 | refine below_set ?_ GE216.out) | exact HB.out)⟩
      · replace c14 := Bool.eq_false_iff.mpr c14
        subst c14
        have H1 : ((curve_Curve_At.f t213 t214 a4).bind fun t220 => ((amount_Fee.f a3 t220).bind fun bt221 => ((coracleref1_At.f kj7 a0 253 (mx a0 a1) t217 a4).bind fun t223 => (if t220 = t223 then (if bt221.2 = 0 then (coraclelaw16_CurveBudgets.j1 kj7 a0 t217 (mx a0 a1) (decide (bt221.1 > a2)) t213 t214) else (coraclelaw16_CurveBudgets.j1 kj7 a0 t217 (mx a0 a1) true t213 t214)) else (coraclelaw16_CurveBudgets.j1 kj7 a0 t217 (mx a0 a1) true t213 t214))))) = some r := by rw [if_neg (show ¬ (false = true) by decide)] at H; exact H
        clear H
        have H := H1
        clear H1
        obtain ⟨ji21, hji21⟩ : ∃ j_ : Int, (mx a0 a1) = j_ := ⟨_, rfl⟩
        replace H : ((curve_Curve_At.f t213 t214 a4).bind fun t220 => ((amount_Fee.f a3 t220).bind fun bt221 => ((coracleref1_At.f kj7 a0 253 (ji21) t217 a4).bind fun t223 => (if t220 = t223 then (if bt221.2 = 0 then (coraclelaw16_CurveBudgets.j1 kj7 a0 t217 ji21 (decide (bt221.1 > a2)) t213 t214) else (coraclelaw16_CurveBudgets.j1 kj7 a0 t217 ji21 true t213 t214)) else (coraclelaw16_CurveBudgets.j1 kj7 a0 t217 ji21 true t213 t214))))) = some r := by first | (rw [hji21] at H; exact H) | (simp only [hji21] at H ⊢; exact H)
        have hji21_ : (if a0 < a1 then a1 else a0) = ji21 := hji21
        replace H := Option.bind_eq_some_iff.mp H
        obtain ⟨t220, A220, H⟩ := H
        replace H : ((amount_Fee.f a3 t220).bind fun bt221 => ((coracleref1_At.f kj7 a0 253 (ji21) t217 a4).bind fun t223 => (if t220 = t223 then (if bt221.2 = 0 then (coraclelaw16_CurveBudgets.j1 kj7 a0 t217 ji21 (decide (bt221.1 > a2)) t213 t214) else (coraclelaw16_CurveBudgets.j1 kj7 a0 t217 ji21 true t213 t214)) else (coraclelaw16_CurveBudgets.j1 kj7 a0 t217 ji21 true t213 t214)))) = some r := H
        have A22 := Aside0.mk A220
        clear A220
        replace H := Option.bind_eq_some_iff.mp H
        obtain ⟨⟨t221, t222⟩, A230, H⟩ := H
        replace H : ((coracleref1_At.f kj7 a0 253 (ji21) t217 a4).bind fun t223 => (if t220 = t223 then (if t222 = 0 then (coraclelaw16_CurveBudgets.j1 kj7 a0 t217 ji21 (decide (t221 > a2)) t213 t214) else (coraclelaw16_CurveBudgets.j1 kj7 a0 t217 ji21 true t213 t214)) else (coraclelaw16_CurveBudgets.j1 kj7 a0 t217 ji21 true t213 t214))) = some r := H
        have A23 := Aside0.mk A230
        clear A230
        have HC24 := Aside0.mk H
        clear H
        have hcz25_0 : wc.cell? ⟨gb216, 0, none⟩ = some (.complex .f64 t213.re t213.im) := (blk_cell BK216.out 0).trans rfl
        have hcz25_1 : wc.cell? ⟨gb216, 1, none⟩ = some (.complex .f64 t214.re t214.im) := (blk_cell BK216.out 1).trans rfl
        have hfz25_0 := blk_frozen BK216.out 0
        have hfz25_1 := blk_frozen BK216.out 1
        go_upto_region 8 with (first | ((with_reducible refine gate_callee (f := 39) rfl ?_); refine goesL_ (some 58) rfl rfl Try.func39 (by kernel_rfl) rfl #[.agg #[.complex .f64 t213.re t213.im, .complex .f64 t214.re t214.im], .int .i64 a4] rfl (by (try simp only [List.map_toArray, List.map_cons, List.map_nil]); first | done | rfl | (simp only [List.length_drop, List.length_take]; rfl)) ?_; (with_reducible refine (curve_Curve_At.calls t213 t214 a4 t220 _ A22.out).mono ?_); rintro e w26 ⟨rfl, hb⟩; refine ⟨_, rfl, ?_⟩; have n0_ := Aside0.mk (blk_below (g := gb216) (o := .cells #[.complex .f64 t213.re t213.im, .complex .f64 t214.re t214.im] 51 (0, 0)) (by (with_reducible repeat (first | refine blk_drewN ?_ _ | refine blk_drew ?_ | refine blk_alloc ?_ _)); exact BK216.out) hb); have n1_ := Aside0.mk (below_step (by repeat (first | (with_reducible first | exact HB.out | apply below_alloc | apply pw_below_drewN | apply below_drew1 | refine below_set ?_ GE216.out) | exact HB.out)) hb); clear BK216; clear HB; have BK216 := n0_; have HB := n1_; clear n0_ n1_; (try clear hb); (try clear hb2); (try clear hk); (try clear hi)) | ((with_reducible refine gate_callee (f := 24) rfl ?_); refine goesL_ (some 62) rfl rfl Try.func24 (by kernel_rfl) rfl #[.int .i64 a3, .int .i64 t220] rfl (by (try simp only [List.map_toArray, List.map_cons, List.map_nil]); first | done | rfl | (simp only [List.length_drop, List.length_take]; rfl)) ?_; (with_reducible refine (amount_Fee.calls a3 t220 t221 t222 _ A23.out).mono ?_); rintro e w' ⟨rfl, ⟨nd, rfl⟩⟩; refine ⟨_, rfl, ?_⟩))
        (try simp only [Act.put, List.setIfInBounds_toArray, List.set_cons_zero, List.set_cons_succ])
        go_cut [80] (fun v80 wc => ∃ (kq : Nat) (x80_23 : Bool), v80 = .bool x80_23 ∧ Aside0 (coraclelaw16_CurveBudgets.j1 kq a0 t217 ji21 x80_23 t213 t214 = some r) ∧ Aside0 (kq ≤ kj7) ∧ Aside0 (wc.heap[gb216]? = some (.cells #[.complex .f64 t213.re t213.im, .complex .f64 t214.re t214.im] 51 (0, 0))) ∧ Aside0 (Below w.heap.size w wc))
        case first =>
          have H := HC24.out
          clear HC24
          replace H := Option.bind_eq_some_iff.mp H
          obtain ⟨t223, A270, H⟩ := H
          replace H : (if t220 = t223 then (if t222 = 0 then (coraclelaw16_CurveBudgets.j1 kj7 a0 t217 ji21 (decide (t221 > a2)) t213 t214) else (coraclelaw16_CurveBudgets.j1 kj7 a0 t217 ji21 true t213 t214)) else (coraclelaw16_CurveBudgets.j1 kj7 a0 t217 ji21 true t213 t214)) = some r := H
          have A27 := Aside0.mk A270
          clear A270
          by_cases c28 : t220 = t223
          · rw [if_pos c28] at H
            have c28b0 : (t220 == t223) = true := beq_iff_eq.mpr c28
            have c28b1 : (t220 != t223) = false := bne_eq_false_iff_eq.mpr c28
            clear c28
            (first | rw [c28b0] | (simp only [i64_w, i32_w]; rw [c28b0]) | skip)
            by_cases c29 : t222 = 0
            · rw [if_pos c29] at H
              have c29b0 : (t222 == 0) = true := beq_iff_eq.mpr c29
              have c29b1 : (t222 != 0) = false := bne_eq_false_iff_eq.mpr c29
              clear c29
              have H' := Aside0.mk H
              clear H
              go_wp2_with (first | ((with_reducible refine gate_callee (f := 40) rfl ?_); refine goesL_ (some 70) rfl rfl Try.func40 (by kernel_rfl) rfl #[.int .i64 a0, .int .i64 253, .int .i64 ji21, .int .i64 t217, .int .i64 a4] rfl (by (try simp only [List.map_toArray, List.map_cons, List.map_nil]); first | done | (simp only [hji21]; rfl) | rfl | (simp only [List.length_drop, List.length_take]; rfl)) ?_; (with_reducible refine (coracleref1_At.calls kj7 a0 253 ji21 t217 a4 t223 _ A27.out).mono ?_); rintro e w' ⟨rfl, ⟨nd, rfl⟩⟩; refine ⟨_, rfl, ?_⟩))
              go_meet
              case rel => exact ⟨_, (decide (t221 > a2)), (by first | rfl | (simp; done) | (simp [*]; done)), H', ⟨by have := HJ7.out; first | omega | exact Nat.le_refl _⟩, ⟨by (with_reducible repeat (first | refine blk_drewN ?_ _ | refine blk_drew ?_ | refine blk_alloc ?_ _)); exact BK216.out⟩, ⟨by repeat (first | (with_reducible first | exact HB.out | apply below_alloc | apply pw_below_drewN | apply below_drew1 | refine below_set ?_ GE216.out) | exact HB.out)⟩⟩
            · rw [if_neg c29] at H
              have c29b0 : (t222 == 0) = false := beq_eq_false_iff_ne.mpr c29
              have c29b1 : (t222 != 0) = true := bne_iff_ne.mpr c29
              have H' := Aside0.mk H
              clear H
              go_wp2_with (first | ((with_reducible refine gate_callee (f := 40) rfl ?_); refine goesL_ (some 70) rfl rfl Try.func40 (by kernel_rfl) rfl #[.int .i64 a0, .int .i64 253, .int .i64 ji21, .int .i64 t217, .int .i64 a4] rfl (by (try simp only [List.map_toArray, List.map_cons, List.map_nil]); first | done | (simp only [hji21]; rfl) | rfl | (simp only [List.length_drop, List.length_take]; rfl)) ?_; (with_reducible refine (coracleref1_At.calls kj7 a0 253 ji21 t217 a4 t223 _ A27.out).mono ?_); rintro e w' ⟨rfl, ⟨nd, rfl⟩⟩; refine ⟨_, rfl, ?_⟩))
              go_meet
              case rel => exact ⟨_, (true), (by first | rfl | (simp; done) | (simp [*]; done)), H', ⟨by have := HJ7.out; first | omega | exact Nat.le_refl _⟩, ⟨by (with_reducible repeat (first | refine blk_drewN ?_ _ | refine blk_drew ?_ | refine blk_alloc ?_ _)); exact BK216.out⟩, ⟨by repeat (first | (with_reducible first | exact HB.out | apply below_alloc | apply pw_below_drewN | apply below_drew1 | refine below_set ?_ GE216.out) | exact HB.out)⟩⟩
          · rw [if_neg c28] at H
            have c28b0 : (t220 == t223) = false := beq_eq_false_iff_ne.mpr c28
            have c28b1 : (t220 != t223) = true := bne_iff_ne.mpr c28
            (first | rw [c28b0] | (simp only [i64_w, i32_w]; rw [c28b0]) | skip)
            have H' := Aside0.mk H
            clear H
            go_wp2_with (first | ((with_reducible refine gate_callee (f := 40) rfl ?_); refine goesL_ (some 70) rfl rfl Try.func40 (by kernel_rfl) rfl #[.int .i64 a0, .int .i64 253, .int .i64 ji21, .int .i64 t217, .int .i64 a4] rfl (by (try simp only [List.map_toArray, List.map_cons, List.map_nil]); first | done | (simp only [hji21]; rfl) | rfl | (simp only [List.length_drop, List.length_take]; rfl)) ?_; (with_reducible refine (coracleref1_At.calls kj7 a0 253 ji21 t217 a4 t223 _ A27.out).mono ?_); rintro e w' ⟨rfl, ⟨nd, rfl⟩⟩; refine ⟨_, rfl, ?_⟩))
            go_meet
            case rel => exact ⟨_, (true), (by first | rfl | (simp; done) | (simp [*]; done)), H', ⟨by have := HJ7.out; first | omega | exact Nat.le_refl _⟩, ⟨by (with_reducible repeat (first | refine blk_drewN ?_ _ | refine blk_drew ?_ | refine blk_alloc ?_ _)); exact BK216.out⟩, ⟨by repeat (first | (with_reducible first | exact HB.out | apply below_alloc | apply pw_below_drewN | apply below_drew1 | refine below_set ?_ GE216.out) | exact HB.out)⟩⟩
        case rest =>
          clear HC24
          try clear c1
          try clear c2
          try clear p2
          try clear c3
          try clear c4
          try clear c13
          try clear c13b0
          try clear c13b1
          try clear c14
          try clear c15
          try clear c15b0
          try clear c15b1
          try clear c16
          try clear c16b0
          try clear c24
          try clear c28
          try clear c28b0
          try clear c28b1
          try clear c29
          try clear c29b0
          try clear c29b1
          try clear hcz11_0
          try clear hcz11_1
          try clear hcz18_0
          try clear hcz18_1
          try clear hcz20_0
          try clear hcz20_1
          try clear hcz25_0
          try clear hcz25_1
          try clear hfz11_0
          try clear hfz11_1
          try clear hfz18_0
          try clear hfz18_1
          try clear hfz20_0
          try clear hfz20_1
          try clear hfz25_0
          try clear hfz25_1
          try clear p2
          obtain ⟨kq, x80_23, rfl, HA, HJ23, BK216, HB⟩ := hcut
          cases kq with
          | zero => exact absurd HA.out (by simp [coraclelaw16_CurveBudgets.j1])
          | succ kj23 =>
            have H := HA.out
            clear HA
            simp only [coraclelaw16_CurveBudgets.j1] at H
            by_cases c30 : x80_23 = true
            · subst c30
              have H1 : (some false) = some r := by rw [if_pos rfl] at H; exact H
              clear H
              have H := H1
              clear H1
              obtain rfl := Option.some.inj H
              go_wp2
              go_ret
              exact ⟨by first | rfl | (simp [errW_none, errW_some] <;> rfl) | (simp only [← hji21]; first | rfl | (simp [errW_none, errW_some] <;> rfl)) | (simp [*, errW_none, errW_some] <;> rfl), by repeat (first | (with_reducible first | exact HB.out | apply below_alloc | apply pw_below_drewN | apply below_drew1 | refine below_set ?_ GE216.out) | exact HB.out)⟩
            · replace c30 := Bool.eq_false_iff.mpr c30
              subst c30
              have H1 : ((curve_Curve_At.f t213 t214 ji21).bind fun t224 => (if t224 = t217 then ((curve_Curve_At.f t213 t214 (wrap64 (a0 - 1))).bind fun t225 => (if t225 = 253 then ((coraclelaw16_awake.f kj23).bind fun t226 => (some t226)) else (some false))) else (some false))) = some r := by rw [if_neg (show ¬ (false = true) by decide)] at H; exact H
              clear H
              have H := H1
              clear H1
              replace H := Option.bind_eq_some_iff.mp H
              obtain ⟨t224, A310, H⟩ := H
              replace H : (if t224 = t217 then ((curve_Curve_At.f t213 t214 (wrap64 (a0 - 1))).bind fun t225 => (if t225 = 253 then ((coraclelaw16_awake.f kj23).bind fun t226 => (some t226)) else (some false))) else (some false)) = some r := H
              have A31 := Aside0.mk A310
              clear A310
              by_cases c32 : t224 = t217
              · rw [if_pos c32] at H
                have c32b0 : (t224 == t217) = true := beq_iff_eq.mpr c32
                have c32b1 : (t224 != t217) = false := bne_eq_false_iff_eq.mpr c32
                clear c32
                replace H := Option.bind_eq_some_iff.mp H
                obtain ⟨t225, A330, H⟩ := H
                replace H : (if t225 = 253 then ((coraclelaw16_awake.f kj23).bind fun t226 => (some t226)) else (some false)) = some r := H
                have A33 := Aside0.mk A330
                clear A330
                by_cases c34 : t225 = 253
                · rw [if_pos c34] at H
                  have c34b0 : (t225 == 253) = true := beq_iff_eq.mpr c34
                  have c34b1 : (t225 != 253) = false := bne_eq_false_iff_eq.mpr c34
                  clear c34
                  replace H := Option.bind_eq_some_iff.mp H
                  obtain ⟨t226, A350, H⟩ := H
                  replace H : (some t226) = some r := H
                  have A35 := Aside0.mk A350
                  clear A350
                  obtain rfl := Option.some.inj H
                  have hcz36_0 : wc.cell? ⟨gb216, 0, none⟩ = some (.complex .f64 t213.re t213.im) := (blk_cell BK216.out 0).trans rfl
                  have hcz36_1 : wc.cell? ⟨gb216, 1, none⟩ = some (.complex .f64 t214.re t214.im) := (blk_cell BK216.out 1).trans rfl
                  have hfz36_0 := blk_frozen BK216.out 0
                  have hfz36_1 := blk_frozen BK216.out 1
                  go_wp2_with (first | ((with_reducible refine gate_callee (f := 39) rfl ?_); refine goesL_ (some 83) rfl rfl Try.func39 (by kernel_rfl) rfl #[.agg #[.complex .f64 t213.re t213.im, .complex .f64 t214.re t214.im], .int .i64 ji21] rfl (by (try simp only [List.map_toArray, List.map_cons, List.map_nil]); first | done | (simp only [hji21]; rfl) | rfl | (simp only [List.length_drop, List.length_take]; rfl)) ?_; (with_reducible refine (curve_Curve_At.calls t213 t214 ji21 t224 _ A31.out).mono ?_); rintro e w37 ⟨rfl, hb⟩; refine ⟨_, rfl, ?_⟩; have n0_ := Aside0.mk (blk_below (g := gb216) (o := .cells #[.complex .f64 t213.re t213.im, .complex .f64 t214.re t214.im] 51 (0, 0)) (by (with_reducible repeat (first | refine blk_drewN ?_ _ | refine blk_drew ?_ | refine blk_alloc ?_ _)); exact BK216.out) hb); have n1_ := Aside0.mk (below_step (by repeat (first | (with_reducible first | exact HB.out | apply below_alloc | apply pw_below_drewN | apply below_drew1 | refine below_set ?_ GE216.out) | exact HB.out)) hb); clear BK216; clear HB; have BK216 := n0_; have HB := n1_; clear n0_ n1_; (try clear hb); (try clear hb2); (try clear hk); (try clear hi); have hcz38_0 : w37.cell? ⟨gb216, 0, none⟩ = some (.complex .f64 t213.re t213.im) := (blk_cell BK216.out 0).trans rfl; have hcz38_1 : w37.cell? ⟨gb216, 1, none⟩ = some (.complex .f64 t214.re t214.im) := (blk_cell BK216.out 1).trans rfl; have hfz38_0 := blk_frozen BK216.out 0; have hfz38_1 := blk_frozen BK216.out 1) | (go_at_call 39; (with_reducible refine (curve_Curve_At.calls t213 t214 (wrap64 (a0 - 1)) t225 _ A33.out).mono ?_); rintro e w39 ⟨rfl, hb⟩; have n0_ := Aside0.mk (blk_below (g := gb216) (o := .cells #[.complex .f64 t213.re t213.im, .complex .f64 t214.re t214.im] 51 (0, 0)) (by (with_reducible repeat (first | refine blk_drewN ?_ _ | refine blk_drew ?_ | refine blk_alloc ?_ _)); exact BK216.out) hb); have n1_ := Aside0.mk (below_step (by repeat (first | (with_reducible first | exact HB.out | apply below_alloc | apply pw_below_drewN | apply below_drew1 | refine below_set ?_ GE216.out) | exact HB.out)) hb); clear BK216; clear HB; have BK216 := n0_; have HB := n1_; clear n0_ n1_; (try clear hb); (try clear hb2); (try clear hk); (try clear hi)) | (go_at_call 37; (with_reducible refine (coraclelaw16_awake.calls kj23  t226 _ A35.out).mono ?_); rintro e w40 ⟨rfl, hb⟩; have n0_ := Aside0.mk (blk_below (g := gb216) (o := .cells #[.complex .f64 t213.re t213.im, .complex .f64 t214.re t214.im] 51 (0, 0)) (by (with_reducible repeat (first | refine blk_drewN ?_ _ | refine blk_drew ?_ | refine blk_alloc ?_ _)); exact BK216.out) hb); have n1_ := Aside0.mk (below_step (by repeat (first | (with_reducible first | exact HB.out | apply below_alloc | apply pw_below_drewN | apply below_drew1 | refine below_set ?_ GE216.out) | exact HB.out)) hb); clear BK216; clear HB; have BK216 := n0_; have HB := n1_; clear n0_ n1_; (try clear hb); (try clear hb2); (try clear hk); (try clear hi)))
                  go_ret
                  exact ⟨by first | rfl | (simp [errW_none, errW_some] <;> rfl) | (simp only [← hji21]; first | rfl | (simp [errW_none, errW_some] <;> rfl)) | (simp [*, errW_none, errW_some] <;> rfl), by repeat (first | (with_reducible first | exact HB.out | apply below_alloc | apply pw_below_drewN | apply below_drew1 | refine below_set ?_ GE216.out) | exact HB.out)⟩
                · rw [if_neg c34] at H
                  have c34b0 : (t225 == 253) = false := beq_eq_false_iff_ne.mpr c34
                  have c34b1 : (t225 != 253) = true := bne_iff_ne.mpr c34
                  obtain rfl := Option.some.inj H
                  have hcz41_0 : wc.cell? ⟨gb216, 0, none⟩ = some (.complex .f64 t213.re t213.im) := (blk_cell BK216.out 0).trans rfl
                  have hcz41_1 : wc.cell? ⟨gb216, 1, none⟩ = some (.complex .f64 t214.re t214.im) := (blk_cell BK216.out 1).trans rfl
                  have hfz41_0 := blk_frozen BK216.out 0
                  have hfz41_1 := blk_frozen BK216.out 1
                  go_wp2_with (first | ((with_reducible refine gate_callee (f := 39) rfl ?_); refine goesL_ (some 83) rfl rfl Try.func39 (by kernel_rfl) rfl #[.agg #[.complex .f64 t213.re t213.im, .complex .f64 t214.re t214.im], .int .i64 ji21] rfl (by (try simp only [List.map_toArray, List.map_cons, List.map_nil]); first | done | (simp only [hji21]; rfl) | rfl | (simp only [List.length_drop, List.length_take]; rfl)) ?_; (with_reducible refine (curve_Curve_At.calls t213 t214 ji21 t224 _ A31.out).mono ?_); rintro e w42 ⟨rfl, hb⟩; refine ⟨_, rfl, ?_⟩; have n0_ := Aside0.mk (blk_below (g := gb216) (o := .cells #[.complex .f64 t213.re t213.im, .complex .f64 t214.re t214.im] 51 (0, 0)) (by (with_reducible repeat (first | refine blk_drewN ?_ _ | refine blk_drew ?_ | refine blk_alloc ?_ _)); exact BK216.out) hb); have n1_ := Aside0.mk (below_step (by repeat (first | (with_reducible first | exact HB.out | apply below_alloc | apply pw_below_drewN | apply below_drew1 | refine below_set ?_ GE216.out) | exact HB.out)) hb); clear BK216; clear HB; have BK216 := n0_; have HB := n1_; clear n0_ n1_; (try clear hb); (try clear hb2); (try clear hk); (try clear hi); have hcz43_0 : w42.cell? ⟨gb216, 0, none⟩ = some (.complex .f64 t213.re t213.im) := (blk_cell BK216.out 0).trans rfl; have hcz43_1 : w42.cell? ⟨gb216, 1, none⟩ = some (.complex .f64 t214.re t214.im) := (blk_cell BK216.out 1).trans rfl; have hfz43_0 := blk_frozen BK216.out 0; have hfz43_1 := blk_frozen BK216.out 1) | (go_at_call 39; (with_reducible refine (curve_Curve_At.calls t213 t214 (wrap64 (a0 - 1)) t225 _ A33.out).mono ?_); rintro e w44 ⟨rfl, hb⟩; have n0_ := Aside0.mk (blk_below (g := gb216) (o := .cells #[.complex .f64 t213.re t213.im, .complex .f64 t214.re t214.im] 51 (0, 0)) (by (with_reducible repeat (first | refine blk_drewN ?_ _ | refine blk_drew ?_ | refine blk_alloc ?_ _)); exact BK216.out) hb); have n1_ := Aside0.mk (below_step (by repeat (first | (with_reducible first | exact HB.out | apply below_alloc | apply pw_below_drewN | apply below_drew1 | refine below_set ?_ GE216.out) | exact HB.out)) hb); clear BK216; clear HB; have BK216 := n0_; have HB := n1_; clear n0_ n1_; (try clear hb); (try clear hb2); (try clear hk); (try clear hi)))
                  go_ret
                  exact ⟨by first | rfl | (simp [errW_none, errW_some] <;> rfl) | (simp only [← hji21]; first | rfl | (simp [errW_none, errW_some] <;> rfl)) | (simp [*, errW_none, errW_some] <;> rfl), by repeat (first | (with_reducible first | exact HB.out | apply below_alloc | apply pw_below_drewN | apply below_drew1 | refine below_set ?_ GE216.out) | exact HB.out)⟩
              · rw [if_neg c32] at H
                have c32b0 : (t224 == t217) = false := beq_eq_false_iff_ne.mpr c32
                have c32b1 : (t224 != t217) = true := bne_iff_ne.mpr c32
                obtain rfl := Option.some.inj H
                have hcz45_0 : wc.cell? ⟨gb216, 0, none⟩ = some (.complex .f64 t213.re t213.im) := (blk_cell BK216.out 0).trans rfl
                have hcz45_1 : wc.cell? ⟨gb216, 1, none⟩ = some (.complex .f64 t214.re t214.im) := (blk_cell BK216.out 1).trans rfl
                have hfz45_0 := blk_frozen BK216.out 0
                have hfz45_1 := blk_frozen BK216.out 1
                go_wp2_with (first | ((with_reducible refine gate_callee (f := 39) rfl ?_); refine goesL_ (some 83) rfl rfl Try.func39 (by kernel_rfl) rfl #[.agg #[.complex .f64 t213.re t213.im, .complex .f64 t214.re t214.im], .int .i64 ji21] rfl (by (try simp only [List.map_toArray, List.map_cons, List.map_nil]); first | done | (simp only [hji21]; rfl) | rfl | (simp only [List.length_drop, List.length_take]; rfl)) ?_; (with_reducible refine (curve_Curve_At.calls t213 t214 ji21 t224 _ A31.out).mono ?_); rintro e w46 ⟨rfl, hb⟩; refine ⟨_, rfl, ?_⟩; have n0_ := Aside0.mk (blk_below (g := gb216) (o := .cells #[.complex .f64 t213.re t213.im, .complex .f64 t214.re t214.im] 51 (0, 0)) (by (with_reducible repeat (first | refine blk_drewN ?_ _ | refine blk_drew ?_ | refine blk_alloc ?_ _)); exact BK216.out) hb); have n1_ := Aside0.mk (below_step (by repeat (first | (with_reducible first | exact HB.out | apply below_alloc | apply pw_below_drewN | apply below_drew1 | refine below_set ?_ GE216.out) | exact HB.out)) hb); clear BK216; clear HB; have BK216 := n0_; have HB := n1_; clear n0_ n1_; (try clear hb); (try clear hb2); (try clear hk); (try clear hi)))
                go_ret
                exact ⟨by first | rfl | (simp [errW_none, errW_some] <;> rfl) | (simp only [← hji21]; first | rfl | (simp [errW_none, errW_some] <;> rfl)) | (simp [*, errW_none, errW_some] <;> rfl), by repeat (first | (with_reducible first | exact HB.out | apply below_alloc | apply pw_below_drewN | apply below_drew1 | refine below_set ?_ GE216.out) | exact HB.out)⟩

/-- THE ONE PURE STATEMENT of coraclelaw16_CurveBudgets: yours. -/
def coraclelaw16_CurveBudgets.Pure : Prop := ∀ (a0 : Int) (a1 : Int) (a2 : Int) (a3 : Int) (a4 : Int), (Lit.int .i64 a0).wf = true → (Lit.int .i64 a1).wf = true → (Lit.int .i64 a2).wf = true → (Lit.int .i64 a3).wf = true → (Lit.int .i64 a4).wf = true → ∃ k, coraclelaw16_CurveBudgets.f k a0 a1 a2 a3 a4 = some true
theorem coraclelaw16_CurveBudgets.walk (P : coraclelaw16_CurveBudgets.Pure) (a0 : Int) (a1 : Int) (a2 : Int) (a3 : Int) (a4 : Int) (w : World) (w0 : (Lit.int .i64 a0).wf = true) (w1 : (Lit.int .i64 a1).wf = true) (w2 : (Lit.int .i64 a2).wf = true) (w3 : (Lit.int .i64 a3).wf = true) (w4 : (Lit.int .i64 a4).wf = true) :
    Calls Try.prog 15 #[.int .i64 a0, .int .i64 a1, .int .i64 a2, .int .i64 a3, .int .i64 a4] w fun e w' => e = .returned (.bool true) ∧ Below w.heap.size w w' := by
  obtain ⟨k, h⟩ := P a0 a1 a2 a3 a4 w0 w1 w2 w3 w4
  refine (coraclelaw16_CurveBudgets.calls k a0 a1 a2 a3 a4 true w h).mono ?_
  rintro e w' ⟨rfl, hd⟩
  exact ⟨rfl, hd⟩

end Go.Proofs.Ytfoahgdaigfhoaa.QCur
