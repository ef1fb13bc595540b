/- Functions of the program as plain Lean functions, and that its calls come to what these tell: written by a program of this session; Lean checks it. -/
import Derived.Test.YtfoahgdaigfhoaaQCurx0
namespace Go.Proofs.Ytfoahgdaigfhoaa.QCur
open Go.RowKit Go.Proofs.Ytfoahgdaigfhoaa.Hand Go.Proofs.YtfoahgdaigfhoaaW.PrintWords Go.Proofs.YtfoahgdaigfhoaaW.PrintLast Go.Proofs.YtfoahgdaigfhoaaW.PrintMore
attribute [local go_sem] max2_int min2_int max_two min_two max_three min_three max_four min_four run_equalIn_c run_store_float run_store_complex run_fop run_feq run_fne run_flt run_fle run_fgt run_fge run_fint run_toi run_real' run_imag' run_complex' run_ceq run_cne run_cadd run_csub run_cmul
set_option linter.unusedVariables false
set_option linter.unusedSimpArgs false

/-! by hand: math_Trunc: function 56 -/

/-! ### curve_whole: function 54 -/
def curve_whole.f (a0 : Nat) (a1 : Nat) (a2 : Nat) : Option (Bool) := if (fge a0 a1) = true then (if (fle a0 a2) = true then ((math_Trunc.f a0).bind fun t101 => (some (feq a0 t101))) else (some false)) else (some false)
set_option maxHeartbeats 8000000 in
set_option maxRecDepth 100000 in
theorem curve_whole.calls (a0 : Nat) (a1 : Nat) (a2 : Nat) (r : Bool) (w : World) (h : curve_whole.f a0 a1 a2 = some r) :
    Calls Try.prog 54 #[.float .f64 a0, .float .f64 a1, .float .f64 a2] w fun e w' => e = .returned (.bool r) ∧ Drawn0 w w' := by
  have H : (if (fge a0 a1) = true then (if (fle a0 a2) = true then ((math_Trunc.f a0).bind fun t101 => (some (feq a0 t101))) else (some false)) else (some false)) = some r := h
  clear h
  by_cases c4 : (fge a0 a1) = true
  · rw [if_pos c4] at H
    have c4b0 : (fge a0 a1) = true := c4
    clear c4
    by_cases c5 : (fle a0 a2) = true
    · rw [if_pos c5] at H
      have c5b0 : (fle a0 a2) = true := c5
      clear c5
      replace H := Option.bind_eq_some_iff.mp H
      obtain ⟨t101, A60, H⟩ := H
      replace H : (some (feq a0 t101)) = some r := H
      have A6 := Aside0.mk A60
      clear A60
      obtain rfl := Option.some.inj H
      go_enter Try.func54, Try.ntmps54
      go_wp2_with (first | (go_at_call 56; (with_reducible refine (math_Trunc.calls a0 t101 _ A6.out).mono ?_); rintro e w' ⟨rfl, ⟨nd, rfl⟩⟩))
      go_ret
      exact ⟨by first | rfl | (simp; done) | (simp [*]; done), by repeat (first | exact Drawn0.refl _ | apply Drawn0.step)⟩
    · rw [if_neg c5] at H
      have c5b0 : (fle a0 a2) = false := by simpa using c5
      clear c5
      obtain rfl := Option.some.inj H
      go_enter Try.func54, Try.ntmps54
      go_wp2
      go_ret
      exact ⟨by first | rfl | (simp; done) | (simp [*]; done), by repeat (first | exact Drawn0.refl _ | apply Drawn0.step)⟩
  · rw [if_neg c4] at H
    have c4b0 : (fge a0 a1) = false := by simpa using c4
    clear c4
    obtain rfl := Option.some.inj H
    go_enter Try.func54, Try.ntmps54
    go_wp2
    go_ret
    exact ⟨by first | rfl | (simp; done) | (simp [*]; done), by repeat (first | exact Drawn0.refl _ | apply Drawn0.step)⟩

/-! ### curve_point: function 49 -/
def curve_point.f (a0 : C128) : Option (Bool) := (curve_whole.f a0.re 0 4696837146684686336).bind fun t102 => (if t102 = true then ((curve_whole.f a0.im 4643105662702714880 4741671816366391296).bind fun t103 => (some t103)) else (some false))
set_option maxHeartbeats 8000000 in
set_option maxRecDepth 100000 in
theorem curve_point.calls (a0 : C128) (r : Bool) (w : World) (h : curve_point.f a0 = some r) :
    Calls Try.prog 49 #[.complex .f64 a0.re a0.im] w fun e w' => e = .returned (.bool r) ∧ Below w.heap.size w w' := by
  have HB := Aside0.mk (Below.refl w.heap.size w)
  have H : ((curve_whole.f a0.re 0 4696837146684686336).bind fun t102 => (if t102 = true then ((curve_whole.f a0.im 4643105662702714880 4741671816366391296).bind fun t103 => (some t103)) else (some false))) = some r := h
  clear h
  replace H := Option.bind_eq_some_iff.mp H
  obtain ⟨t102, A20, H⟩ := H
  replace H : (if t102 = true then ((curve_whole.f a0.im 4643105662702714880 4741671816366391296).bind fun t103 => (some t103)) else (some false)) = some r := H
  have A2 := Aside0.mk A20
  clear A20
  by_cases c3 : t102 = true
  · subst c3
    have H1 : ((curve_whole.f a0.im 4643105662702714880 4741671816366391296).bind fun t103 => (some t103)) = some r := by rw [if_pos rfl] at H; exact H
    clear H
    have H := H1
    clear H1
    replace H := Option.bind_eq_some_iff.mp H
    obtain ⟨t103, A40, H⟩ := H
    replace H : (some t103) = some r := H
    have A4 := Aside0.mk A40
    clear A40
    obtain rfl := Option.some.inj H
    go_enter Try.func49, Try.ntmps49
    go_wp2_with (first | ((with_reducible refine gate_callee (f := 54) rfl ?_); refine goesL_ (some 5) rfl rfl Try.func54 (by kernel_rfl) rfl #[.float .f64 a0.re, .float .f64 0, .float .f64 4696837146684686336] rfl (by (try simp only [List.map_toArray, List.map_cons, List.map_nil]); first | done | rfl | (simp only [List.length_drop, List.length_take]; rfl)) ?_; (with_reducible refine (curve_whole.calls a0.re 0 4696837146684686336 true _ A2.out).mono ?_); rintro e w' ⟨rfl, ⟨nd, rfl⟩⟩; refine ⟨_, rfl, ?_⟩) | (go_at_call 54; (with_reducible refine (curve_whole.calls a0.im 4643105662702714880 4741671816366391296 t103 _ A4.out).mono ?_); rintro e w' ⟨rfl, ⟨nd, rfl⟩⟩))
    go_ret
    exact ⟨by first | rfl | (simp [errW_none, errW_some] <;> rfl) | (simp [*, errW_none, errW_some] <;> rfl), by repeat (first | (with_reducible first | exact HB.out | apply below_alloc | apply pw_below_drewN | apply below_drew1) | exact HB.out)⟩
  · replace c3 := Bool.eq_false_iff.mpr c3
    subst c3
    have H1 : (some false) = some r := by rw [if_neg (show ¬ (false = true) by decide)] at H; exact H
    clear H
    have H := H1
    clear H1
    obtain rfl := Option.some.inj H
    go_enter Try.func49, Try.ntmps49
    go_wp2_with (first | ((with_reducible refine gate_callee (f := 54) rfl ?_); refine goesL_ (some 5) rfl rfl Try.func54 (by kernel_rfl) rfl #[.float .f64 a0.re, .float .f64 0, .float .f64 4696837146684686336] rfl (by (try simp only [List.map_toArray, List.map_cons, List.map_nil]); first | done | rfl | (simp only [List.length_drop, List.length_take]; rfl)) ?_; (with_reducible refine (curve_whole.calls a0.re 0 4696837146684686336 false _ A2.out).mono ?_); rintro e w' ⟨rfl, ⟨nd, rfl⟩⟩; refine ⟨_, rfl, ?_⟩))
    go_ret
    exact ⟨by first | rfl | (simp [errW_none, errW_some] <;> rfl) | (simp [*, errW_none, errW_some] <;> rfl), by repeat (first | (with_reducible first | exact HB.out | apply below_alloc | apply pw_below_drewN | apply below_drew1) | exact HB.out)⟩

/-! ### curve_Line: function 38 -/
def curve_Line.f (a0 : C128) (a1 : C128) : Option (C128 × C128 × Int) := if cok .sub a1.re a1.im a0.re a0.im = true then ((curve_point.f a0).bind fun t105 => (if t105 = true then ((curve_point.f a1).bind fun t106 => (if t106 = true then (if (flt (cre .sub a1.re a1.im a0.re a0.im) 0) = true then (some ((⟨0, 0⟩ : C128), (⟨0, 0⟩ : C128), 1)) else (if (flt (cim .sub a1.re a1.im a0.re a0.im) 0) = true then (some ((⟨0, 0⟩ : C128), (⟨0, 0⟩ : C128), 1)) else (some (a0, a1, 0)))) else (some ((⟨0, 0⟩ : C128), (⟨0, 0⟩ : C128), 1)))) else (some ((⟨0, 0⟩ : C128), (⟨0, 0⟩ : C128), 1)))) else (none)
set_option maxHeartbeats 8000000 in
set_option maxRecDepth 100000 in
theorem curve_Line.calls (a0 : C128) (a1 : C128) (r1 : C128) (r2 : C128) (r3 : Int) (w : World) (h : curve_Line.f a0 a1 = some (r1, r2, r3)) :
    Calls Try.prog 38 #[.complex .f64 a0.re a0.im, .complex .f64 a1.re a1.im] w fun e w' => e = .returned (.tuple #[.agg #[.complex .f64 r1.re r1.im, .complex .f64 r2.re r2.im], .int .i64 r3]) ∧ Below w.heap.size w w' := by
  have hu51 := Try.underlying51
  have HB := Aside0.mk (Below.refl w.heap.size w)
  have H : (if cok .sub a1.re a1.im a0.re a0.im = true then ((curve_point.f a0).bind fun t105 => (if t105 = true then ((curve_point.f a1).bind fun t106 => (if t106 = true then (if (flt (cre .sub a1.re a1.im a0.re a0.im) 0) = true then (some ((⟨0, 0⟩ : C128), (⟨0, 0⟩ : C128), 1)) else (if (flt (cim .sub a1.re a1.im a0.re a0.im) 0) = true then (some ((⟨0, 0⟩ : C128), (⟨0, 0⟩ : C128), 1)) else (some (a0, a1, 0)))) else (some ((⟨0, 0⟩ : C128), (⟨0, 0⟩ : C128), 1)))) else (some ((⟨0, 0⟩ : C128), (⟨0, 0⟩ : C128), 1)))) else (none)) = some (r1, r2, r3) := h
  clear h
  by_cases c3 : cok .sub a1.re a1.im a0.re a0.im = true
  · rw [if_pos c3] at H
    have c3b0 : cok .sub a1.re a1.im a0.re a0.im = true := c3
    clear c3
    replace H := Option.bind_eq_some_iff.mp H
    obtain ⟨t105, A40, H⟩ := H
    replace H : (if t105 = true then ((curve_point.f a1).bind fun t106 => (if t106 = true then (if (flt (cre .sub a1.re a1.im a0.re a0.im) 0) = true then (some ((⟨0, 0⟩ : C128), (⟨0, 0⟩ : C128), 1)) else (if (flt (cim .sub a1.re a1.im a0.re a0.im) 0) = true then (some ((⟨0, 0⟩ : C128), (⟨0, 0⟩ : C128), 1)) else (some (a0, a1, 0)))) else (some ((⟨0, 0⟩ : C128), (⟨0, 0⟩ : C128), 1)))) else (some ((⟨0, 0⟩ : C128), (⟨0, 0⟩ : C128), 1))) = some (r1, r2, r3) := H
    have A4 := Aside0.mk A40
    clear A40
    by_cases c5 : t105 = true
    · subst c5
      have H1 : ((curve_point.f a1).bind fun t106 => (if t106 = true then (if (flt (cre .sub a1.re a1.im a0.re a0.im) 0) = true then (some ((⟨0, 0⟩ : C128), (⟨0, 0⟩ : C128), 1)) else (if (flt (cim .sub a1.re a1.im a0.re a0.im) 0) = true then (some ((⟨0, 0⟩ : C128), (⟨0, 0⟩ : C128), 1)) else (some (a0, a1, 0)))) else (some ((⟨0, 0⟩ : C128), (⟨0, 0⟩ : C128), 1)))) = some (r1, r2, r3) := by rw [if_pos rfl] at H; exact H
      clear H
      have H := H1
      clear H1
      replace H := Option.bind_eq_some_iff.mp H
      obtain ⟨t106, A60, H⟩ := H
      replace H : (if t106 = true then (if (flt (cre .sub a1.re a1.im a0.re a0.im) 0) = true then (some ((⟨0, 0⟩ : C128), (⟨0, 0⟩ : C128), 1)) else (if (flt (cim .sub a1.re a1.im a0.re a0.im) 0) = true then (some ((⟨0, 0⟩ : C128), (⟨0, 0⟩ : C128), 1)) else (some (a0, a1, 0)))) else (some ((⟨0, 0⟩ : C128), (⟨0, 0⟩ : C128), 1))) = some (r1, r2, r3) := H
      have A6 := Aside0.mk A60
      clear A60
      by_cases c7 : t106 = true
      · subst c7
        have H1 : (if (flt (cre .sub a1.re a1.im a0.re a0.im) 0) = true then (some ((⟨0, 0⟩ : C128), (⟨0, 0⟩ : C128), 1)) else (if (flt (cim .sub a1.re a1.im a0.re a0.im) 0) = true then (some ((⟨0, 0⟩ : C128), (⟨0, 0⟩ : C128), 1)) else (some (a0, a1, 0)))) = some (r1, r2, r3) := by rw [if_pos rfl] at H; exact H
        clear H
        have H := H1
        clear H1
        by_cases c8 : (flt (cre .sub a1.re a1.im a0.re a0.im) 0) = true
        · rw [if_pos c8] at H
          have c8b0 : (flt (cre .sub a1.re a1.im a0.re a0.im) 0) = true := c8
          clear c8
          simp only [Option.some.injEq, Prod.mk.injEq] at H
          obtain ⟨rfl, rfl, rfl⟩ := H
          go_enter Try.func38, Try.ntmps38
          go_wp2_with (first | ((with_reducible refine gate_dst (N := 4) rfl ?_); (try (refine gate_guard (by rfl) ?_; dsimp only)); refine box_event ?hg (N := 4) ?hd (cs := #[.complex .f64 0 0, .complex .f64 0 0]) (t := 51) ?hr ?_; (case hd => rfl); (case hg => rfl); (case hr => first | (go_simp; done) | (go_simp; rfl)); intro gb104 hg w9 hbox hb; have n0_ := Aside0.mk (below_step (by repeat (first | (with_reducible first | exact HB.out | apply below_alloc | apply pw_below_drewN | apply below_drew1) | exact HB.out)) hb); have n1_ := Aside0.mk (hbox); have n2_ := Aside0.mk ((by rw [hg]; exact (below_size (by repeat (first | (with_reducible first | exact HB.out | apply below_alloc | apply pw_below_drewN | apply below_drew1) | exact HB.out))) : w.heap.size ≤ gb104)); have n3_ := Aside0.mk ((by rw [hg]; exact (below_size (by repeat (first | (with_reducible first | exact HB.out | apply below_alloc | apply pw_below_drewN | apply below_drew1) | exact HB.out))) : w.heap.size ≤ gb104)); clear HB; have HB := n0_; have BK104 := n1_; have GW104 := n2_; have GE104 := n3_; clear n0_ n1_ n2_ n3_; clear hb hbox hg) | ((with_reducible refine gate_callee (f := 49) rfl ?_); refine goesL_ (some 11) rfl rfl Try.func49 (by kernel_rfl) rfl #[.complex .f64 a0.re a0.im] rfl (by (try simp only [List.map_toArray, List.map_cons, List.map_nil]); first | done | rfl | (simp only [List.length_drop, List.length_take]; rfl)) ?_; (with_reducible refine (curve_point.calls a0 true _ A4.out).mono ?_); rintro e w10 ⟨rfl, hb⟩; refine ⟨_, rfl, ?_⟩; have n0_ := Aside0.mk (blk_below (g := gb104) (o := .cells #[.complex .f64 0 0, .complex .f64 0 0] 51 (0, 0)) (by (with_reducible repeat (first | refine blk_drewN ?_ _ | refine blk_drew ?_ | refine blk_alloc ?_ _)); exact BK104.out) hb); have n1_ := Aside0.mk (below_step (by repeat (first | (with_reducible first | exact HB.out | apply below_alloc | apply pw_below_drewN | apply below_drew1 | refine below_set ?_ GE104.out) | exact HB.out)) hb); clear BK104; clear HB; have BK104 := n0_; have HB := n1_; clear n0_ n1_; (try clear hb); (try clear hb2); (try clear hk); (try clear hi)) | (go_at_call 49; (with_reducible refine (curve_point.calls a1 true _ A6.out).mono ?_); rintro e w11 ⟨rfl, hb⟩; have n0_ := Aside0.mk (blk_below (g := gb104) (o := .cells #[.complex .f64 0 0, .complex .f64 0 0] 51 (0, 0)) (by (with_reducible repeat (first | refine blk_drewN ?_ _ | refine blk_drew ?_ | refine blk_alloc ?_ _)); exact BK104.out) hb); have n1_ := Aside0.mk (below_step (by repeat (first | (with_reducible first | exact HB.out | apply below_alloc | apply pw_below_drewN | apply below_drew1 | refine below_set ?_ GE104.out) | exact HB.out)) hb); clear BK104; clear HB; have BK104 := n0_; have HB := n1_; clear n0_ n1_; (try clear hb); (try clear hb2); (try clear hk); (try clear hi); have hcz12_0 : w11.cell? ⟨gb104, 0, none⟩ = some (.complex .f64 0 0) := (blk_cell BK104.out 0).trans rfl; have hcz12_1 : w11.cell? ⟨gb104, 1, none⟩ = some (.complex .f64 0 0) := (blk_cell BK104.out 1).trans rfl; have hfz12_0 := blk_frozen BK104.out 0; have hfz12_1 := blk_frozen BK104.out 1))
          refine bodyPost_ret (results_ct rfl _ _ gb104 51 #[.complex .f64 0 0, .complex .f64 0 0] (0, 0) _ rfl (by (with_reducible repeat (first | refine blk_drewN ?_ _ | refine blk_drew ?_ | refine blk_alloc ?_ _)); refine blk_put (cs := #[.complex .f64 0 0, .complex .f64 0 0]) ?_ 1 _ rfl; (with_reducible repeat (first | refine blk_drewN ?_ _ | refine blk_drew ?_ | refine blk_alloc ?_ _)); refine blk_put (cs := #[.complex .f64 0 0, .complex .f64 0 0]) ?_ 0 _ rfl; (with_reducible repeat (first | refine blk_drewN ?_ _ | refine blk_drew ?_ | refine blk_alloc ?_ _)); exact BK104.out) Try.underlying51 rfl (by kernel_rfl)) rfl ?_
          exact ⟨by first | rfl | (simp [errW_none, errW_some] <;> rfl) | (simp [*, errW_none, errW_some] <;> rfl), by repeat (first | (with_reducible first | exact HB.out | apply below_alloc | apply pw_below_drewN | apply below_drew1 | refine below_set ?_ GE104.out) | exact HB.out)⟩
        · rw [if_neg c8] at H
          have c8b0 : (flt (cre .sub a1.re a1.im a0.re a0.im) 0) = false := by simpa using c8
          clear c8
          by_cases c13 : (flt (cim .sub a1.re a1.im a0.re a0.im) 0) = true
          · rw [if_pos c13] at H
            have c13b0 : (flt (cim .sub a1.re a1.im a0.re a0.im) 0) = true := c13
            clear c13
            simp only [Option.some.injEq, Prod.mk.injEq] at H
            obtain ⟨rfl, rfl, rfl⟩ := H
            go_enter Try.func38, Try.ntmps38
            go_wp2_with (first | ((with_reducible refine gate_dst (N := 4) rfl ?_); (try (refine gate_guard (by rfl) ?_; dsimp only)); refine box_event ?hg (N := 4) ?hd (cs := #[.complex .f64 0 0, .complex .f64 0 0]) (t := 51) ?hr ?_; (case hd => rfl); (case hg => rfl); (case hr => first | (go_simp; done) | (go_simp; rfl)); intro gb104 hg w14 hbox hb; have n0_ := Aside0.mk (below_step (by repeat (first | (with_reducible first | exact HB.out | apply below_alloc | apply pw_below_drewN | apply below_drew1) | exact HB.out)) hb); have n1_ := Aside0.mk (hbox); have n2_ := Aside0.mk ((by rw [hg]; exact (below_size (by repeat (first | (with_reducible first | exact HB.out | apply below_alloc | apply pw_below_drewN | apply below_drew1) | exact HB.out))) : w.heap.size ≤ gb104)); have n3_ := Aside0.mk ((by rw [hg]; exact (below_size (by repeat (first | (with_reducible first | exact HB.out | apply below_alloc | apply pw_below_drewN | apply below_drew1) | exact HB.out))) : w.heap.size ≤ gb104)); clear HB; have HB := n0_; have BK104 := n1_; have GW104 := n2_; have GE104 := n3_; clear n0_ n1_ n2_ n3_; clear hb hbox hg) | ((with_reducible refine gate_callee (f := 49) rfl ?_); refine goesL_ (some 11) rfl rfl Try.func49 (by kernel_rfl) rfl #[.complex .f64 a0.re a0.im] rfl (by (try simp only [List.map_toArray, List.map_cons, List.map_nil]); first | done | rfl | (simp only [List.length_drop, List.length_take]; rfl)) ?_; (with_reducible refine (curve_point.calls a0 true _ A4.out).mono ?_); rintro e w15 ⟨rfl, hb⟩; refine ⟨_, rfl, ?_⟩; have n0_ := Aside0.mk (blk_below (g := gb104) (o := .cells #[.complex .f64 0 0, .complex .f64 0 0] 51 (0, 0)) (by (with_reducible repeat (first | refine blk_drewN ?_ _ | refine blk_drew ?_ | refine blk_alloc ?_ _)); exact BK104.out) hb); have n1_ := Aside0.mk (below_step (by repeat (first | (with_reducible first | exact HB.out | apply below_alloc | apply pw_below_drewN | apply below_drew1 | refine below_set ?_ GE104.out) | exact HB.out)) hb); clear BK104; clear HB; have BK104 := n0_; have HB := n1_; clear n0_ n1_; (try clear hb); (try clear hb2); (try clear hk); (try clear hi)) | (go_at_call 49; (with_reducible refine (curve_point.calls a1 true _ A6.out).mono ?_); rintro e w16 ⟨rfl, hb⟩; have n0_ := Aside0.mk (blk_below (g := gb104) (o := .cells #[.complex .f64 0 0, .complex .f64 0 0] 51 (0, 0)) (by (with_reducible repeat (first | refine blk_drewN ?_ _ | refine blk_drew ?_ | refine blk_alloc ?_ _)); exact BK104.out) hb); have n1_ := Aside0.mk (below_step (by repeat (first | (with_reducible first | exact HB.out | apply below_alloc | apply pw_below_drewN | apply below_drew1 | refine below_set ?_ GE104.out) | exact HB.out)) hb); clear BK104; clear HB; have BK104 := n0_; have HB := n1_; clear n0_ n1_; (try clear hb); (try clear hb2); (try clear hk); (try clear hi); have hcz17_0 : w16.cell? ⟨gb104, 0, none⟩ = some (.complex .f64 0 0) := (blk_cell BK104.out 0).trans rfl; have hcz17_1 : w16.cell? ⟨gb104, 1, none⟩ = some (.complex .f64 0 0) := (blk_cell BK104.out 1).trans rfl; have hfz17_0 := blk_frozen BK104.out 0; have hfz17_1 := blk_frozen BK104.out 1))
            refine bodyPost_ret (results_ct rfl _ _ gb104 51 #[.complex .f64 0 0, .complex .f64 0 0] (0, 0) _ rfl (by (with_reducible repeat (first | refine blk_drewN ?_ _ | refine blk_drew ?_ | refine blk_alloc ?_ _)); refine blk_put (cs := #[.complex .f64 0 0, .complex .f64 0 0]) ?_ 1 _ rfl; (with_reducible repeat (first | refine blk_drewN ?_ _ | refine blk_drew ?_ | refine blk_alloc ?_ _)); refine blk_put (cs := #[.complex .f64 0 0, .complex .f64 0 0]) ?_ 0 _ rfl; (with_reducible repeat (first | refine blk_drewN ?_ _ | refine blk_drew ?_ | refine blk_alloc ?_ _)); exact BK104.out) Try.underlying51 rfl (by kernel_rfl)) rfl ?_
            exact ⟨by first | rfl | (simp [errW_none, errW_some] <;> rfl) | (simp [*, errW_none, errW_some] <;> rfl), by repeat (first | (with_reducible first | exact HB.out | apply below_alloc | apply pw_below_drewN | apply below_drew1 | refine below_set ?_ GE104.out) | exact HB.out)⟩
          · rw [if_neg c13] at H
            have c13b0 : (flt (cim .sub a1.re a1.im a0.re a0.im) 0) = false := by simpa using c13
            clear c13
            simp only [Option.some.injEq, Prod.mk.injEq] at H
            obtain ⟨rfl, rfl, rfl⟩ := H
            go_enter Try.func38, Try.ntmps38
            go_wp2_with (first | ((with_reducible refine gate_dst (N := 4) rfl ?_); (try (refine gate_guard (by rfl) ?_; dsimp only)); refine box_event ?hg (N := 4) ?hd (cs := #[.complex .f64 0 0, .complex .f64 0 0]) (t := 51) ?hr ?_; (case hd => rfl); (case hg => rfl); (case hr => first | (go_simp; done) | (go_simp; rfl)); intro gb104 hg w18 hbox hb; have n0_ := Aside0.mk (below_step (by repeat (first | (with_reducible first | exact HB.out | apply below_alloc | apply pw_below_drewN | apply below_drew1) | exact HB.out)) hb); have n1_ := Aside0.mk (hbox); have n2_ := Aside0.mk ((by rw [hg]; exact (below_size (by repeat (first | (with_reducible first | exact HB.out | apply below_alloc | apply pw_below_drewN | apply below_drew1) | exact HB.out))) : w.heap.size ≤ gb104)); have n3_ := Aside0.mk ((by rw [hg]; exact (below_size (by repeat (first | (with_reducible first | exact HB.out | apply below_alloc | apply pw_below_drewN | apply below_drew1) | exact HB.out))) : w.heap.size ≤ gb104)); clear HB; have HB := n0_; have BK104 := n1_; have GW104 := n2_; have GE104 := n3_; clear n0_ n1_ n2_ n3_; clear hb hbox hg) | ((with_reducible refine gate_callee (f := 49) rfl ?_); refine goesL_ (some 11) rfl rfl Try.func49 (by kernel_rfl) rfl #[.complex .f64 a0.re a0.im] rfl (by (try simp only [List.map_toArray, List.map_cons, List.map_nil]); first | done | rfl | (simp only [List.length_drop, List.length_take]; rfl)) ?_; (with_reducible refine (curve_point.calls a0 true _ A4.out).mono ?_); rintro e w19 ⟨rfl, hb⟩; refine ⟨_, rfl, ?_⟩; have n0_ := Aside0.mk (blk_below (g := gb104) (o := .cells #[.complex .f64 0 0, .complex .f64 0 0] 51 (0, 0)) (by (with_reducible repeat (first | refine blk_drewN ?_ _ | refine blk_drew ?_ | refine blk_alloc ?_ _)); exact BK104.out) hb); have n1_ := Aside0.mk (below_step (by repeat (first | (with_reducible first | exact HB.out | apply below_alloc | apply pw_below_drewN | apply below_drew1 | refine below_set ?_ GE104.out) | exact HB.out)) hb); clear BK104; clear HB; have BK104 := n0_; have HB := n1_; clear n0_ n1_; (try clear hb); (try clear hb2); (try clear hk); (try clear hi)) | (go_at_call 49; (with_reducible refine (curve_point.calls a1 true _ A6.out).mono ?_); rintro e w20 ⟨rfl, hb⟩; have n0_ := Aside0.mk (blk_below (g := gb104) (o := .cells #[.complex .f64 0 0, .complex .f64 0 0] 51 (0, 0)) (by (with_reducible repeat (first | refine blk_drewN ?_ _ | refine blk_drew ?_ | refine blk_alloc ?_ _)); exact BK104.out) hb); have n1_ := Aside0.mk (below_step (by repeat (first | (with_reducible first | exact HB.out | apply below_alloc | apply pw_below_drewN | apply below_drew1 | refine below_set ?_ GE104.out) | exact HB.out)) hb); clear BK104; clear HB; have BK104 := n0_; have HB := n1_; clear n0_ n1_; (try clear hb); (try clear hb2); (try clear hk); (try clear hi); have hcz21_0 : w20.cell? ⟨gb104, 0, none⟩ = some (.complex .f64 0 0) := (blk_cell BK104.out 0).trans rfl; have hcz21_1 : w20.cell? ⟨gb104, 1, none⟩ = some (.complex .f64 0 0) := (blk_cell BK104.out 1).trans rfl; have hfz21_0 := blk_frozen BK104.out 0; have hfz21_1 := blk_frozen BK104.out 1))
            refine bodyPost_ret (results_ct rfl _ _ gb104 51 #[.complex .f64 a0.re a0.im, .complex .f64 a1.re a1.im] (0, 0) _ rfl (by (with_reducible repeat (first | refine blk_drewN ?_ _ | refine blk_drew ?_ | refine blk_alloc ?_ _)); refine blk_put (cs := #[.complex .f64 a0.re a0.im, .complex .f64 0 0]) ?_ 1 _ rfl; (with_reducible repeat (first | refine blk_drewN ?_ _ | refine blk_drew ?_ | refine blk_alloc ?_ _)); refine blk_put (cs := #[.complex .f64 0 0, .complex .f64 0 0]) ?_ 0 _ rfl; (with_reducible repeat (first | refine blk_drewN ?_ _ | refine blk_drew ?_ | refine blk_alloc ?_ _)); exact BK104.out) Try.underlying51 rfl (by kernel_rfl)) rfl ?_
            exact ⟨by first | rfl | (simp [errW_none, errW_some] <;> rfl) | (simp [*, errW_none, errW_some] <;> rfl), by repeat (first | (with_reducible first | exact HB.out | apply below_alloc | apply pw_below_drewN | apply below_drew1 | refine below_set ?_ GE104.out) | exact HB.out)⟩
      · replace c7 := Bool.eq_false_iff.mpr c7
        subst c7
        have H1 : (some ((⟨0, 0⟩ : C128), (⟨0, 0⟩ : C128), 1)) = some (r1, r2, r3) := by rw [if_neg (show ¬ (false = true) by decide)] at H; exact H
        clear H
        have H := H1
        clear H1
        simp only [Option.some.injEq, Prod.mk.injEq] at H
        obtain ⟨rfl, rfl, rfl⟩ := H
        go_enter Try.func38, Try.ntmps38
        go_wp2_with (first | ((with_reducible refine gate_dst (N := 4) rfl ?_); (try (refine gate_guard (by rfl) ?_; dsimp only)); refine box_event ?hg (N := 4) ?hd (cs := #[.complex .f64 0 0, .complex .f64 0 0]) (t := 51) ?hr ?_; (case hd => rfl); (case hg => rfl); (case hr => first | (go_simp; done) | (go_simp; rfl)); intro gb104 hg w22 hbox hb; have n0_ := Aside0.mk (below_step (by repeat (first | (with_reducible first | exact HB.out | apply below_alloc | apply pw_below_drewN | apply below_drew1) | exact HB.out)) hb); have n1_ := Aside0.mk (hbox); have n2_ := Aside0.mk ((by rw [hg]; exact (below_size (by repeat (first | (with_reducible first | exact HB.out | apply below_alloc | apply pw_below_drewN | apply below_drew1) | exact HB.out))) : w.heap.size ≤ gb104)); have n3_ := Aside0.mk ((by rw [hg]; exact (below_size (by repeat (first | (with_reducible first | exact HB.out | apply below_alloc | apply pw_below_drewN | apply below_drew1) | exact HB.out))) : w.heap.size ≤ gb104)); clear HB; have HB := n0_; have BK104 := n1_; have GW104 := n2_; have GE104 := n3_; clear n0_ n1_ n2_ n3_; clear hb hbox hg) | ((with_reducible refine gate_callee (f := 49) rfl ?_); refine goesL_ (some 11) rfl rfl Try.func49 (by kernel_rfl) rfl #[.complex .f64 a0.re a0.im] rfl (by (try simp only [List.map_toArray, List.map_cons, List.map_nil]); first | done | rfl | (simp only [List.length_drop, List.length_take]; rfl)) ?_; (with_reducible refine (curve_point.calls a0 true _ A4.out).mono ?_); rintro e w23 ⟨rfl, hb⟩; refine ⟨_, rfl, ?_⟩; have n0_ := Aside0.mk (blk_below (g := gb104) (o := .cells #[.complex .f64 0 0, .complex .f64 0 0] 51 (0, 0)) (by (with_reducible repeat (first | refine blk_drewN ?_ _ | refine blk_drew ?_ | refine blk_alloc ?_ _)); exact BK104.out) hb); have n1_ := Aside0.mk (below_step (by repeat (first | (with_reducible first | exact HB.out | apply below_alloc | apply pw_below_drewN | apply below_drew1 | refine below_set ?_ GE104.out) | exact HB.out)) hb); clear BK104; clear HB; have BK104 := n0_; have HB := n1_; clear n0_ n1_; (try clear hb); (try clear hb2); (try clear hk); (try clear hi)) | (go_at_call 49; (with_reducible refine (curve_point.calls a1 false _ A6.out).mono ?_); rintro e w24 ⟨rfl, hb⟩; have n0_ := Aside0.mk (blk_below (g := gb104) (o := .cells #[.complex .f64 0 0, .complex .f64 0 0] 51 (0, 0)) (by (with_reducible repeat (first | refine blk_drewN ?_ _ | refine blk_drew ?_ | refine blk_alloc ?_ _)); exact BK104.out) hb); have n1_ := Aside0.mk (below_step (by repeat (first | (with_reducible first | exact HB.out | apply below_alloc | apply pw_below_drewN | apply below_drew1 | refine below_set ?_ GE104.out) | exact HB.out)) hb); clear BK104; clear HB; have BK104 := n0_; have HB := n1_; clear n0_ n1_; (try clear hb); (try clear hb2); (try clear hk); (try clear hi); have hcz25_0 : w24.cell? ⟨gb104, 0, none⟩ = some (.complex .f64 0 0) := (blk_cell BK104.out 0).trans rfl; have hcz25_1 : w24.cell? ⟨gb104, 1, none⟩ = some (.complex .f64 0 0) := (blk_cell BK104.out 1).trans rfl; have hfz25_0 := blk_frozen BK104.out 0; have hfz25_1 := blk_frozen BK104.out 1))
        refine bodyPost_ret (results_ct rfl _ _ gb104 51 #[.complex .f64 0 0, .complex .f64 0 0] (0, 0) _ rfl (by (with_reducible repeat (first | refine blk_drewN ?_ _ | refine blk_drew ?_ | refine blk_alloc ?_ _)); refine blk_put (cs := #[.complex .f64 0 0, .complex .f64 0 0]) ?_ 1 _ rfl; (with_reducible repeat (first | refine blk_drewN ?_ _ | refine blk_drew ?_ | refine blk_alloc ?_ _)); refine blk_put (cs := #[.complex .f64 0 0, .complex .f64 0 0]) ?_ 0 _ rfl; (with_reducible repeat (first | refine blk_drewN ?_ _ | refine blk_drew ?_ | refine blk_alloc ?_ _)); exact BK104.out) Try.underlying51 rfl (by kernel_rfl)) rfl ?_
        exact ⟨by first | rfl | (simp [errW_none, errW_some] <;> rfl) | (simp [*, errW_none, errW_some] <;> rfl), by repeat (first | (with_reducible first | exact HB.out | apply below_alloc | apply pw_below_drewN | apply below_drew1 | refine below_set ?_ GE104.out) | exact HB.out)⟩
    · replace c5 := Bool.eq_false_iff.mpr c5
      subst c5
      have H1 : (some ((⟨0, 0⟩ : C128), (⟨0, 0⟩ : C128), 1)) = some (r1, r2, r3) := by rw [if_neg (show ¬ (false = true) by decide)] at H; exact H
      clear H
      have H := H1
      clear H1
      simp only [Option.some.injEq, Prod.mk.injEq] at H
      obtain ⟨rfl, rfl, rfl⟩ := H
      go_enter Try.func38, Try.ntmps38
      go_wp2_with (first | ((with_reducible refine gate_dst (N := 4) rfl ?_); (try (refine gate_guard (by rfl) ?_; dsimp only)); refine box_event ?hg (N := 4) ?hd (cs := #[.complex .f64 0 0, .complex .f64 0 0]) (t := 51) ?hr ?_; (case hd => rfl); (case hg => rfl); (case hr => first | (go_simp; done) | (go_simp; rfl)); intro gb104 hg w26 hbox hb; have n0_ := Aside0.mk (below_step (by repeat (first | (with_reducible first | exact HB.out | apply below_alloc | apply pw_below_drewN | apply below_drew1) | exact HB.out)) hb); have n1_ := Aside0.mk (hbox); have n2_ := Aside0.mk ((by rw [hg]; exact (below_size (by repeat (first | (with_reducible first | exact HB.out | apply below_alloc | apply pw_below_drewN | apply below_drew1) | exact HB.out))) : w.heap.size ≤ gb104)); have n3_ := Aside0.mk ((by rw [hg]; exact (below_size (by repeat (first | (with_reducible first | exact HB.out | apply below_alloc | apply pw_below_drewN | apply below_drew1) | exact HB.out))) : w.heap.size ≤ gb104)); clear HB; have HB := n0_; have BK104 := n1_; have GW104 := n2_; have GE104 := n3_; clear n0_ n1_ n2_ n3_; clear hb hbox hg) | ((with_reducible refine gate_callee (f := 49) rfl ?_); refine goesL_ (some 11) rfl rfl Try.func49 (by kernel_rfl) rfl #[.complex .f64 a0.re a0.im] rfl (by (try simp only [List.map_toArray, List.map_cons, List.map_nil]); first | done | rfl | (simp only [List.length_drop, List.length_take]; rfl)) ?_; (with_reducible refine (curve_point.calls a0 false _ A4.out).mono ?_); rintro e w27 ⟨rfl, hb⟩; refine ⟨_, rfl, ?_⟩; have n0_ := Aside0.mk (blk_below (g := gb104) (o := .cells #[.complex .f64 0 0, .complex .f64 0 0] 51 (0, 0)) (by (with_reducible repeat (first | refine blk_drewN ?_ _ | refine blk_drew ?_ | refine blk_alloc ?_ _)); exact BK104.out) hb); have n1_ := Aside0.mk (below_step (by repeat (first | (with_reducible first | exact HB.out | apply below_alloc | apply pw_below_drewN | apply below_drew1 | refine below_set ?_ GE104.out) | exact HB.out)) hb); clear BK104; clear HB; have BK104 := n0_; have HB := n1_; clear n0_ n1_; (try clear hb); (try clear hb2); (try clear hk); (try clear hi); have hcz28_0 : w27.cell? ⟨gb104, 0, none⟩ = some (.complex .f64 0 0) := (blk_cell BK104.out 0).trans rfl; have hcz28_1 : w27.cell? ⟨gb104, 1, none⟩ = some (.complex .f64 0 0) := (blk_cell BK104.out 1).trans rfl; have hfz28_0 := blk_frozen BK104.out 0; have hfz28_1 := blk_frozen BK104.out 1))
      refine bodyPost_ret (results_ct rfl _ _ gb104 51 #[.complex .f64 0 0, .complex .f64 0 0] (0, 0) _ rfl (by (with_reducible repeat (first | refine blk_drewN ?_ _ | refine blk_drew ?_ | refine blk_alloc ?_ _)); refine blk_put (cs := #[.complex .f64 0 0, .complex .f64 0 0]) ?_ 1 _ rfl; (with_reducible repeat (first | refine blk_drewN ?_ _ | refine blk_drew ?_ | refine blk_alloc ?_ _)); refine blk_put (cs := #[.complex .f64 0 0, .complex .f64 0 0]) ?_ 0 _ rfl; (with_reducible repeat (first | refine blk_drewN ?_ _ | refine blk_drew ?_ | refine blk_alloc ?_ _)); exact BK104.out) Try.underlying51 rfl (by kernel_rfl)) rfl ?_
      exact ⟨by first | rfl | (simp [errW_none, errW_some] <;> rfl) | (simp [*, errW_none, errW_some] <;> rfl), by repeat (first | (with_reducible first | exact HB.out | apply below_alloc | apply pw_below_drewN | apply below_drew1 | refine below_set ?_ GE104.out) | exact HB.out)⟩
  · rw [if_neg c3] at H
    exact absurd H (by simp)

/-! ### bits_Mul64: function 48 -/
def bits_Mul64.f (a0 : Int) (a1 : Int) : Option (Int × Int) := ((some (IntKind.u64.wrap ((Go.bits .and .u64 a0 4294967295) * (Go.bits .and .u64 a1 4294967295))))).bind fun t107 => (((some (IntKind.u64.wrap ((IntKind.u64.wrap ((a0 / 4294967296) * (Go.bits .and .u64 a1 4294967295))) + (t107 / 4294967296))))).bind fun t108 => (((some (IntKind.u64.wrap ((Go.bits .and .u64 t108 4294967295) + (IntKind.u64.wrap ((Go.bits .and .u64 a0 4294967295) * (a1 / 4294967296))))))).bind fun t109 => (((some (IntKind.u64.wrap ((IntKind.u64.wrap ((IntKind.u64.wrap ((a0 / 4294967296) * (a1 / 4294967296))) + (t108 / 4294967296))) + (t109 / 4294967296))))).bind fun t110 => (some (t110, IntKind.u64.wrap (a0 * a1))))))
set_option maxHeartbeats 8000000 in
set_option maxRecDepth 100000 in
theorem bits_Mul64.calls (a0 : Int) (a1 : Int) (r1 : Int) (r2 : Int) (w : World) (h : bits_Mul64.f a0 a1 = some (r1, r2)) :
    Calls Try.prog 48 #[.int .u64 a0, .int .u64 a1] w fun e w' => e = .returned (.tuple #[.int .u64 r1, .int .u64 r2]) ∧ Drawn0 w w' := by
  have H : (((some (IntKind.u64.wrap ((Go.bits .and .u64 a0 4294967295) * (Go.bits .and .u64 a1 4294967295))))).bind fun t107 => (((some (IntKind.u64.wrap ((IntKind.u64.wrap ((a0 / 4294967296) * (Go.bits .and .u64 a1 4294967295))) + (t107 / 4294967296))))).bind fun t108 => (((some (IntKind.u64.wrap ((Go.bits .and .u64 t108 4294967295) + (IntKind.u64.wrap ((Go.bits .and .u64 a0 4294967295) * (a1 / 4294967296))))))).bind fun t109 => (((some (IntKind.u64.wrap ((IntKind.u64.wrap ((IntKind.u64.wrap ((a0 / 4294967296) * (a1 / 4294967296))) + (t108 / 4294967296))) + (t109 / 4294967296))))).bind fun t110 => (some (t110, IntKind.u64.wrap (a0 * a1))))))) = some (r1, r2) := h
  clear h
  replace H := Option.bind_eq_some_iff.mp H
  obtain ⟨t107, A30, H⟩ := H
  replace H : (((some (IntKind.u64.wrap ((IntKind.u64.wrap ((a0 / 4294967296) * (Go.bits .and .u64 a1 4294967295))) + (t107 / 4294967296))))).bind fun t108 => (((some (IntKind.u64.wrap ((Go.bits .and .u64 t108 4294967295) + (IntKind.u64.wrap ((Go.bits .and .u64 a0 4294967295) * (a1 / 4294967296))))))).bind fun t109 => (((some (IntKind.u64.wrap ((IntKind.u64.wrap ((IntKind.u64.wrap ((a0 / 4294967296) * (a1 / 4294967296))) + (t108 / 4294967296))) + (t109 / 4294967296))))).bind fun t110 => (some (t110, IntKind.u64.wrap (a0 * a1)))))) = some (r1, r2) := H
  have A3 := Option.some.inj A30
  clear A30
  replace H := Option.bind_eq_some_iff.mp H
  obtain ⟨t108, A40, H⟩ := H
  replace H : (((some (IntKind.u64.wrap ((Go.bits .and .u64 t108 4294967295) + (IntKind.u64.wrap ((Go.bits .and .u64 a0 4294967295) * (a1 / 4294967296))))))).bind fun t109 => (((some (IntKind.u64.wrap ((IntKind.u64.wrap ((IntKind.u64.wrap ((a0 / 4294967296) * (a1 / 4294967296))) + (t108 / 4294967296))) + (t109 / 4294967296))))).bind fun t110 => (some (t110, IntKind.u64.wrap (a0 * a1))))) = some (r1, r2) := H
  have A4 := Option.some.inj A40
  clear A40
  replace H := Option.bind_eq_some_iff.mp H
  obtain ⟨t109, A50, H⟩ := H
  replace H : (((some (IntKind.u64.wrap ((IntKind.u64.wrap ((IntKind.u64.wrap ((a0 / 4294967296) * (a1 / 4294967296))) + (t108 / 4294967296))) + (t109 / 4294967296))))).bind fun t110 => (some (t110, IntKind.u64.wrap (a0 * a1)))) = some (r1, r2) := H
  have A5 := Option.some.inj A50
  clear A50
  replace H := Option.bind_eq_some_iff.mp H
  obtain ⟨t110, A60, H⟩ := H
  replace H : (some (t110, IntKind.u64.wrap (a0 * a1))) = some (r1, r2) := H
  have A6 := Option.some.inj A60
  clear A60
  simp only [Option.some.injEq, Prod.mk.injEq] at H
  obtain ⟨rfl, rfl⟩ := H
  go_enter Try.func48, Try.ntmps48
  go_wp2
  go_ret2
  exact ⟨by first | rfl | (simp; done) | (simp [*]; done), by repeat (first | exact Drawn0.refl _ | apply Drawn0.step)⟩

/-! ### bits_Div64: function 50 -/
/-- By hand: a quotient of two words by one, where the high word is nought (else it is not told). -/
def bits_Div64.f (a0 : Int) (a1 : Int) (a2 : Int) : Option (Int × Int) := if a0 = 0 then (if 0 < a2 then (if 0 ≤ a1 then (if a1 ≤ 18446744073709551615 then some (a1 / a2, a1 % a2) else none) else none) else none) else none
set_option maxHeartbeats 2000000 in
set_option maxRecDepth 100000 in
theorem bits_Div64.calls (a0 : Int) (a1 : Int) (a2 : Int) (r1 : Int) (r2 : Int) (w : World) (h : bits_Div64.f a0 a1 a2 = some (r1, r2)) :
    Calls Try.prog 50 #[.int .u64 a0, .int .u64 a1, .int .u64 a2] w fun e w' => e = .returned (.tuple #[.int .u64 r1, .int .u64 r2]) ∧ Drawn0 w w' := by
  unfold bits_Div64.f at h
  split at h
  · split at h
    · split at h
      · split at h
        · rename_i h0 h2 h1 h3
          subst h0
          obtain ⟨rfl, rfl⟩ := Prod.mk.inj (Option.some.inj h)
          clear h
          have n2 : (a2 == 0) = false := beq_eq_false_iff_ne.mpr (by omega)
          have n3 : decide (a2 ≤ 0) = false := decide_eq_false (by omega)
          go_enter Try.func50, Try.ntmps50
          go_wp2
          go_quiet (fail)
          go_wp2
          go_ret2
          exact ⟨rfl, ⟨⟨_, rfl⟩⟩⟩
        · cases h
      · cases h
    · cases h
  · cases h

/-! ### curve_Curve_At: function 39 -/
def curve_Curve_At.f (a0_0 : C128) (a0_1 : C128) (a1 : Int) : Option (Int) := (curve_Line.f a0_0 a0_1).bind fun bt112 => (if bt112.2.2 = 0 then (if cok .sub a0_1.re a0_1.im a0_0.re a0_0.im = true then (if toki (cre .sub a0_1.re a0_1.im a0_0.re a0_0.im) = true then (if toki (cim .sub a0_1.re a0_1.im a0_0.re a0_0.im) = true then (if toki a0_0.re = true then (if (wrap64 ((mn (mx a1 (-1)) 1000001) - (toi a0_0.re))) < 0 then (if toki a0_0.im = true then (some (toi a0_0.im)) else (none)) else (if (wrap64 ((mn (mx a1 (-1)) 1000001) - (toi a0_0.re))) ≥ (toi (cre .sub a0_1.re a0_1.im a0_0.re a0_0.im)) then (if toki a0_1.im = true then (some (toi a0_1.im)) else (none)) else ((bits_Mul64.f (IntKind.u64.wrap (toi (cim .sub a0_1.re a0_1.im a0_0.re a0_0.im))) (IntKind.u64.wrap (wrap64 ((mn (mx a1 (-1)) 1000001) - (toi a0_0.re))))).bind fun bt116 => ((bits_Div64.f bt116.1 bt116.2 (IntKind.u64.wrap (toi (cre .sub a0_1.re a0_1.im a0_0.re a0_0.im)))).bind fun bt118 => (if toki a0_0.im = true then (some (wrap64 ((toi a0_0.im) + (wrap64 (bt118.1))))) else (none)))))) else (none)) else (none)) else (none)) else (none)) else (some 0))
set_option maxHeartbeats 8000000 in
set_option maxRecDepth 100000 in
theorem curve_Curve_At.calls (a0_0 : C128) (a0_1 : C128) (a1 : Int) (r : Int) (w : World) (h : curve_Curve_At.f a0_0 a0_1 a1 = some r) :
    Calls Try.prog 39 #[.agg #[.complex .f64 a0_0.re a0_0.im, .complex .f64 a0_1.re a0_1.im], .int .i64 a1] w fun e w' => e = .returned (.int .i64 r) ∧ Below w.heap.size w w' := by
  have hu51 := Try.underlying51
  have HB := Aside0.mk (Below.refl w.heap.size w)
  have H : ((curve_Line.f a0_0 a0_1).bind fun bt112 => (if bt112.2.2 = 0 then (if cok .sub a0_1.re a0_1.im a0_0.re a0_0.im = true then (if toki (cre .sub a0_1.re a0_1.im a0_0.re a0_0.im) = true then (if toki (cim .sub a0_1.re a0_1.im a0_0.re a0_0.im) = true then (if toki a0_0.re = true then (if (wrap64 ((mn (mx a1 (-1)) 1000001) - (toi a0_0.re))) < 0 then (if toki a0_0.im = true then (some (toi a0_0.im)) else (none)) else (if (wrap64 ((mn (mx a1 (-1)) 1000001) - (toi a0_0.re))) ≥ (toi (cre .sub a0_1.re a0_1.im a0_0.re a0_0.im)) then (if toki a0_1.im = true then (some (toi a0_1.im)) else (none)) else ((bits_Mul64.f (IntKind.u64.wrap (toi (cim .sub a0_1.re a0_1.im a0_0.re a0_0.im))) (IntKind.u64.wrap (wrap64 ((mn (mx a1 (-1)) 1000001) - (toi a0_0.re))))).bind fun bt116 => ((bits_Div64.f bt116.1 bt116.2 (IntKind.u64.wrap (toi (cre .sub a0_1.re a0_1.im a0_0.re a0_0.im)))).bind fun bt118 => (if toki a0_0.im = true then (some (wrap64 ((toi a0_0.im) + (wrap64 (bt118.1))))) else (none)))))) else (none)) else (none)) else (none)) else (none)) else (some 0))) = some r := h
  clear h
  replace H := Option.bind_eq_some_iff.mp H
  obtain ⟨⟨t112, t113, t114⟩, A30, H⟩ := H
  replace H : (if t114 = 0 then (if cok .sub a0_1.re a0_1.im a0_0.re a0_0.im = true then (if toki (cre .sub a0_1.re a0_1.im a0_0.re a0_0.im) = true then (if toki (cim .sub a0_1.re a0_1.im a0_0.re a0_0.im) = true then (if toki a0_0.re = true then (if (wrap64 ((mn (mx a1 (-1)) 1000001) - (toi a0_0.re))) < 0 then (if toki a0_0.im = true then (some (toi a0_0.im)) else (none)) else (if (wrap64 ((mn (mx a1 (-1)) 1000001) - (toi a0_0.re))) ≥ (toi (cre .sub a0_1.re a0_1.im a0_0.re a0_0.im)) then (if toki a0_1.im = true then (some (toi a0_1.im)) else (none)) else ((bits_Mul64.f (IntKind.u64.wrap (toi (cim .sub a0_1.re a0_1.im a0_0.re a0_0.im))) (IntKind.u64.wrap (wrap64 ((mn (mx a1 (-1)) 1000001) - (toi a0_0.re))))).bind fun bt116 => ((bits_Div64.f bt116.1 bt116.2 (IntKind.u64.wrap (toi (cre .sub a0_1.re a0_1.im a0_0.re a0_0.im)))).bind fun bt118 => (if toki a0_0.im = true then (some (wrap64 ((toi a0_0.im) + (wrap64 (bt118.1))))) else (none)))))) else (none)) else (none)) else (none)) else (none)) else (some 0)) = some r := H
  have A3 := Aside0.mk A30
  clear A30
  by_cases c4 : t114 = 0
  · rw [if_pos c4] at H
    have c4b0 : (t114 == 0) = true := beq_iff_eq.mpr c4
    have c4b1 : (t114 != 0) = false := bne_eq_false_iff_eq.mpr c4
    clear c4
    by_cases c5 : cok .sub a0_1.re a0_1.im a0_0.re a0_0.im = true
    · rw [if_pos c5] at H
      have c5b0 : cok .sub a0_1.re a0_1.im a0_0.re a0_0.im = true := c5
      clear c5
      by_cases c6 : toki (cre .sub a0_1.re a0_1.im a0_0.re a0_0.im) = true
      · rw [if_pos c6] at H
        have c6b0 : toki (cre .sub a0_1.re a0_1.im a0_0.re a0_0.im) = true := c6
        clear c6
        by_cases c7 : toki (cim .sub a0_1.re a0_1.im a0_0.re a0_0.im) = true
        · rw [if_pos c7] at H
          have c7b0 : toki (cim .sub a0_1.re a0_1.im a0_0.re a0_0.im) = true := c7
          clear c7
          obtain ⟨ji8, hji8⟩ : ∃ j_ : Int, (mx a1 (-1)) = j_ := ⟨_, rfl⟩
          replace H : (if toki a0_0.re = true then (if (wrap64 ((mn (ji8) 1000001) - (toi a0_0.re))) < 0 then (if toki a0_0.im = true then (some (toi a0_0.im)) else (none)) else (if (wrap64 ((mn (ji8) 1000001) - (toi a0_0.re))) ≥ (toi (cre .sub a0_1.re a0_1.im a0_0.re a0_0.im)) then (if toki a0_1.im = true then (some (toi a0_1.im)) else (none)) else ((bits_Mul64.f (IntKind.u64.wrap (toi (cim .sub a0_1.re a0_1.im a0_0.re a0_0.im))) (IntKind.u64.wrap (wrap64 ((mn (ji8) 1000001) - (toi a0_0.re))))).bind fun bt116 => ((bits_Div64.f bt116.1 bt116.2 (IntKind.u64.wrap (toi (cre .sub a0_1.re a0_1.im a0_0.re a0_0.im)))).bind fun bt118 => (if toki a0_0.im = true then (some (wrap64 ((toi a0_0.im) + (wrap64 (bt118.1))))) else (none)))))) else (none)) = some r := by first | (rw [hji8] at H; exact H) | (simp only [hji8] at H ⊢; exact H)
          (try rw [hji8] at A3)
          have hji8_ : (if a1 < (-1) then (-1) else a1) = ji8 := hji8
          obtain ⟨ji9, hji9⟩ : ∃ j_ : Int, (mn (ji8) 1000001) = j_ := ⟨_, rfl⟩
          replace H : (if toki a0_0.re = true then (if (wrap64 ((ji9) - (toi a0_0.re))) < 0 then (if toki a0_0.im = true then (some (toi a0_0.im)) else (none)) else (if (wrap64 ((ji9) - (toi a0_0.re))) ≥ (toi (cre .sub a0_1.re a0_1.im a0_0.re a0_0.im)) then (if toki a0_1.im = true then (some (toi a0_1.im)) else (none)) else ((bits_Mul64.f (IntKind.u64.wrap (toi (cim .sub a0_1.re a0_1.im a0_0.re a0_0.im))) (IntKind.u64.wrap (wrap64 ((ji9) - (toi a0_0.re))))).bind fun bt116 => ((bits_Div64.f bt116.1 bt116.2 (IntKind.u64.wrap (toi (cre .sub a0_1.re a0_1.im a0_0.re a0_0.im)))).bind fun bt118 => (if toki a0_0.im = true then (some (wrap64 ((toi a0_0.im) + (wrap64 (bt118.1))))) else (none)))))) else (none)) = some r := by first | (rw [hji9] at H; exact H) | (simp only [hji9] at H ⊢; exact H)
          (try rw [hji9] at A3)
          have hji9_ : (if 1000001 < (ji8) then 1000001 else (ji8)) = ji9 := hji9
          by_cases c10 : toki a0_0.re = true
          · rw [if_pos c10] at H
            have c10b0 : toki a0_0.re = true := c10
            clear c10
            by_cases c11 : (wrap64 ((ji9) - (toi a0_0.re))) < 0
            · rw [if_pos c11] at H
              have c11b0 : decide ((wrap64 ((ji9) - (toi a0_0.re))) < 0) = true := decide_eq_true c11
              clear c11
              by_cases c12 : toki a0_0.im = true
              · rw [if_pos c12] at H
                have c12b0 : toki a0_0.im = true := c12
                clear c12
                obtain rfl := Option.some.inj H
                go_enter Try.func39, Try.ntmps39
                go_wp2_with (first | ((with_reducible refine gate_dst (N := 2) rfl ?_); refine box_event ?hg (N := 2) ?hd (cs := #[.complex .f64 a0_0.re a0_0.im, .complex .f64 a0_1.re a0_1.im]) (t := 51) ?hr ?_; (case hd => rfl); (case hg => rfl); (case hr => first | (go_simp; done) | (go_simp; rfl)); intro gb111 hg w13 hbox hb; have n0_ := Aside0.mk (below_step (by repeat (first | (with_reducible first | exact HB.out | apply below_alloc | apply pw_below_drewN | apply below_drew1) | exact HB.out)) hb); have n1_ := Aside0.mk (hbox); have n2_ := Aside0.mk ((by rw [hg]; exact (below_size (by repeat (first | (with_reducible first | exact HB.out | apply below_alloc | apply pw_below_drewN | apply below_drew1) | exact HB.out))) : w.heap.size ≤ gb111)); have n3_ := Aside0.mk ((by rw [hg]; exact (below_size (by repeat (first | (with_reducible first | exact HB.out | apply below_alloc | apply pw_below_drewN | apply below_drew1) | exact HB.out))) : w.heap.size ≤ gb111)); clear HB; have HB := n0_; have BK111 := n1_; have GW111 := n2_; have GE111 := n3_; clear n0_ n1_ n2_ n3_; clear hb hbox hg; have hcz14_0 : w13.cell? ⟨gb111, 0, none⟩ = some (.complex .f64 a0_0.re a0_0.im) := (blk_cell BK111.out 0).trans rfl; have hcz14_1 : w13.cell? ⟨gb111, 1, none⟩ = some (.complex .f64 a0_1.re a0_1.im) := (blk_cell BK111.out 1).trans rfl; have hfz14_0 := blk_frozen BK111.out 0; have hfz14_1 := blk_frozen BK111.out 1) | ((with_reducible refine gate_callee (f := 38) rfl ?_); refine goesL_ (some 20) rfl rfl Try.func38 (by kernel_rfl) rfl #[.complex .f64 a0_0.re a0_0.im, .complex .f64 a0_1.re a0_1.im] rfl (by (try simp only [List.map_toArray, List.map_cons, List.map_nil]); first | done | rfl | (simp only [List.length_drop, List.length_take]; rfl)) ?_; (with_reducible refine (curve_Line.calls a0_0 a0_1 t112 t113 t114 _ A3.out).mono ?_); rintro e w15 ⟨rfl, hb⟩; refine ⟨_, rfl, ?_⟩; have n0_ := Aside0.mk (blk_below (g := gb111) (o := .cells #[.complex .f64 a0_0.re a0_0.im, .complex .f64 a0_1.re a0_1.im] 51 (0, 0)) (by (with_reducible repeat (first | refine blk_drewN ?_ _ | refine blk_drew ?_ | refine blk_alloc ?_ _)); exact BK111.out) hb); have n1_ := Aside0.mk (below_step (by repeat (first | (with_reducible first | exact HB.out | apply below_alloc | apply pw_below_drewN | apply below_drew1 | refine below_set ?_ GE111.out) | exact HB.out)) hb); clear BK111; clear HB; have BK111 := n0_; have HB := n1_; clear n0_ n1_; (try clear hb); (try clear hb2); (try clear hk); (try clear hi)) | ((with_reducible refine gate_dst (N := 5) rfl ?_); refine box_event ?hg (N := 5) ?hd (cs := #[.complex .f64 0 0, .complex .f64 0 0]) (t := 51) ?hr ?_; (case hd => rfl); (case hg => rfl); (case hr => first | (go_simp; done) | (go_simp; rfl)); intro gb115 hg w16 hbox hb; have n0_ := Aside0.mk (blk_below (g := gb111) (o := .cells #[.complex .f64 a0_0.re a0_0.im, .complex .f64 a0_1.re a0_1.im] 51 (0, 0)) (by (with_reducible repeat (first | refine blk_drewN ?_ _ | refine blk_drew ?_ | refine blk_alloc ?_ _)); exact BK111.out) hb); have n1_ := Aside0.mk (below_step (by repeat (first | (with_reducible first | exact HB.out | apply below_alloc | apply pw_below_drewN | apply below_drew1 | refine below_set ?_ GE111.out) | exact HB.out)) hb); have n2_ := Aside0.mk (hbox); have n3_ := Aside0.mk ((by rw [hg]; exact (below_size (by repeat (first | (with_reducible first | exact HB.out | apply below_alloc | apply pw_below_drewN | apply below_drew1 | refine below_set ?_ GE111.out) | exact HB.out))) : w.heap.size ≤ gb115)); have n4_ := Aside0.mk ((by rw [hg]; exact (below_size (by repeat (first | (with_reducible first | exact HB.out | apply below_alloc | apply pw_below_drewN | apply below_drew1 | refine below_set ?_ GE111.out) | exact HB.out))) : w.heap.size ≤ gb115)); have n5_ := Aside0.mk ((by rw [hg]; exact Nat.ne_of_lt (blk_lt (g := gb111) (o := .cells #[.complex .f64 a0_0.re a0_0.im, .complex .f64 a0_1.re a0_1.im] 51 (0, 0)) (by (with_reducible repeat (first | refine blk_drewN ?_ _ | refine blk_drew ?_ | refine blk_alloc ?_ _)); exact BK111.out)) : gb111 ≠ gb115)); have n6_ := Aside0.mk ((by rw [hg]; exact Nat.ne_of_gt (blk_lt (g := gb111) (o := .cells #[.complex .f64 a0_0.re a0_0.im, .complex .f64 a0_1.re a0_1.im] 51 (0, 0)) (by (with_reducible repeat (first | refine blk_drewN ?_ _ | refine blk_drew ?_ | refine blk_alloc ?_ _)); exact BK111.out)) : gb115 ≠ gb111)); clear BK111; clear HB; have BK111 := n0_; have HB := n1_; have BK115 := n2_; have GW115 := n3_; have GE115 := n4_; have NB111_115 := n5_; have NB115_111 := n6_; clear n0_ n1_ n2_ n3_ n4_ n5_ n6_; clear hb hbox hg; have hnb17 := NB115_111.out; have hnc17 := NB111_115.out; have hcz18_0 : w16.cell? ⟨gb115, 0, none⟩ = some (.complex .f64 0 0) := (blk_cell BK115.out 0).trans rfl; have hcz18_1 : w16.cell? ⟨gb115, 1, none⟩ = some (.complex .f64 0 0) := (blk_cell BK115.out 1).trans rfl; have hfz18_0 := blk_frozen BK115.out 0; have hfz18_1 := blk_frozen BK115.out 1; have hcz19_0 : w16.cell? ⟨gb111, 0, none⟩ = some (.complex .f64 a0_0.re a0_0.im) := (blk_cell BK111.out 0).trans rfl; have hcz19_1 : w16.cell? ⟨gb111, 1, none⟩ = some (.complex .f64 a0_1.re a0_1.im) := (blk_cell BK111.out 1).trans rfl; have hfz19_0 := blk_frozen BK111.out 0; have hfz19_1 := blk_frozen BK111.out 1))
                go_ret
                exact ⟨by first | rfl | (simp [errW_none, errW_some] <;> rfl) | (simp only [← hji8, ← hji9]; first | rfl | (simp [errW_none, errW_some] <;> rfl)) | (simp [*, errW_none, errW_some] <;> rfl), by repeat (first | (with_reducible first | exact HB.out | apply below_alloc | apply pw_below_drewN | apply below_drew1 | refine below_set ?_ GE111.out | refine below_set ?_ GE115.out) | exact HB.out)⟩
              · rw [if_neg c12] at H
                exact absurd H (by simp)
            · rw [if_neg c11] at H
              have c11b0 : decide ((wrap64 ((ji9) - (toi a0_0.re))) < 0) = false := decide_eq_false c11
              clear c11
              by_cases c20 : (wrap64 ((ji9) - (toi a0_0.re))) ≥ (toi (cre .sub a0_1.re a0_1.im a0_0.re a0_0.im))
              · rw [if_pos c20] at H
                have c20b0 : decide ((toi (cre .sub a0_1.re a0_1.im a0_0.re a0_0.im)) ≤ (wrap64 ((ji9) - (toi a0_0.re)))) = true := decide_eq_true c20
                clear c20
                by_cases c21 : toki a0_1.im = true
                · rw [if_pos c21] at H
                  have c21b0 : toki a0_1.im = true := c21
                  clear c21
                  obtain rfl := Option.some.inj H
                  go_enter Try.func39, Try.ntmps39
                  go_wp2_with (first | ((with_reducible refine gate_dst (N := 2) rfl ?_); refine box_event ?hg (N := 2) ?hd (cs := #[.complex .f64 a0_0.re a0_0.im, .complex .f64 a0_1.re a0_1.im]) (t := 51) ?hr ?_; (case hd => rfl); (case hg => rfl); (case hr => first | (go_simp; done) | (go_simp; rfl)); intro gb111 hg w22 hbox hb; have n0_ := Aside0.mk (below_step (by repeat (first | (with_reducible first | exact HB.out | apply below_alloc | apply pw_below_drewN | apply below_drew1) | exact HB.out)) hb); have n1_ := Aside0.mk (hbox); have n2_ := Aside0.mk ((by rw [hg]; exact (below_size (by repeat (first | (with_reducible first | exact HB.out | apply below_alloc | apply pw_below_drewN | apply below_drew1) | exact HB.out))) : w.heap.size ≤ gb111)); have n3_ := Aside0.mk ((by rw [hg]; exact (below_size (by repeat (first | (with_reducible first | exact HB.out | apply below_alloc | apply pw_below_drewN | apply below_drew1) | exact HB.out))) : w.heap.size ≤ gb111)); clear HB; have HB := n0_; have BK111 := n1_; have GW111 := n2_; have GE111 := n3_; clear n0_ n1_ n2_ n3_; clear hb hbox hg; have hcz23_0 : w22.cell? ⟨gb111, 0, none⟩ = some (.complex .f64 a0_0.re a0_0.im) := (blk_cell BK111.out 0).trans rfl; have hcz23_1 : w22.cell? ⟨gb111, 1, none⟩ = some (.complex .f64 a0_1.re a0_1.im) := (blk_cell BK111.out 1).trans rfl; have hfz23_0 := blk_frozen BK111.out 0; have hfz23_1 := blk_frozen BK111.out 1) | ((with_reducible refine gate_callee (f := 38) rfl ?_); refine goesL_ (some 20) rfl rfl Try.func38 (by kernel_rfl) rfl #[.complex .f64 a0_0.re a0_0.im, .complex .f64 a0_1.re a0_1.im] rfl (by (try simp only [List.map_toArray, List.map_cons, List.map_nil]); first | done | rfl | (simp only [List.length_drop, List.length_take]; rfl)) ?_; (with_reducible refine (curve_Line.calls a0_0 a0_1 t112 t113 t114 _ A3.out).mono ?_); rintro e w24 ⟨rfl, hb⟩; refine ⟨_, rfl, ?_⟩; have n0_ := Aside0.mk (blk_below (g := gb111) (o := .cells #[.complex .f64 a0_0.re a0_0.im, .complex .f64 a0_1.re a0_1.im] 51 (0, 0)) (by (with_reducible repeat (first | refine blk_drewN ?_ _ | refine blk_drew ?_ | refine blk_alloc ?_ _)); exact BK111.out) hb); have n1_ := Aside0.mk (below_step (by repeat (first | (with_reducible first | exact HB.out | apply below_alloc | apply pw_below_drewN | apply below_drew1 | refine below_set ?_ GE111.out) | exact HB.out)) hb); clear BK111; clear HB; have BK111 := n0_; have HB := n1_; clear n0_ n1_; (try clear hb); (try clear hb2); (try clear hk); (try clear hi)) | ((with_reducible refine gate_dst (N := 5) rfl ?_); refine box_event ?hg (N := 5) ?hd (cs := #[.complex .f64 0 0, .complex .f64 0 0]) (t := 51) ?hr ?_; (case hd => rfl); (case hg => rfl); (case hr => first | (go_simp; done) | (go_simp; rfl)); intro gb115 hg w25 hbox hb; have n0_ := Aside0.mk (blk_below (g := gb111) (o := .cells #[.complex .f64 a0_0.re a0_0.im, .complex .f64 a0_1.re a0_1.im] 51 (0, 0)) (by (with_reducible repeat (first | refine blk_drewN ?_ _ | refine blk_drew ?_ | refine blk_alloc ?_ _)); exact BK111.out) hb); have n1_ := Aside0.mk (below_step (by repeat (first | (with_reducible first | exact HB.out | apply below_alloc | apply pw_below_drewN | apply below_drew1 | refine below_set ?_ GE111.out) | exact HB.out)) hb); have n2_ := Aside0.mk (hbox); have n3_ := Aside0.mk ((by rw [hg]; exact (below_size (by repeat (first | (with_reducible first | exact HB.out | apply below_alloc | apply pw_below_drewN | apply below_drew1 | refine below_set ?_ GE111.out) | exact HB.out))) : w.heap.size ≤ gb115)); have n4_ := Aside0.mk ((by rw [hg]; exact (below_size (by repeat (first | (with_reducible first | exact HB.out | apply below_alloc | apply pw_below_drewN | apply below_drew1 | refine below_set ?_ GE111.out) | exact HB.out))) : w.heap.size ≤ gb115)); have n5_ := Aside0.mk ((by rw [hg]; exact Nat.ne_of_lt (blk_lt (g := gb111) (o := .cells #[.complex .f64 a0_0.re a0_0.im, .complex .f64 a0_1.re a0_1.im] 51 (0, 0)) (by (with_reducible repeat (first | refine blk_drewN ?_ _ | refine blk_drew ?_ | refine blk_alloc ?_ _)); exact BK111.out)) : gb111 ≠ gb115)); have n6_ := Aside0.mk ((by rw [hg]; exact Nat.ne_of_gt (blk_lt (g := gb111) (o := .cells #[.complex .f64 a0_0.re a0_0.im, .complex .f64 a0_1.re a0_1.im] 51 (0, 0)) (by (with_reducible repeat (first | refine blk_drewN ?_ _ | refine blk_drew ?_ | refine blk_alloc ?_ _)); exact BK111.out)) : gb115 ≠ gb111)); clear BK111; clear HB; have BK111 := n0_; have HB := n1_; have BK115 := n2_; have GW115 := n3_; have GE115 := n4_; have NB111_115 := n5_; have NB115_111 := n6_; clear n0_ n1_ n2_ n3_ n4_ n5_ n6_; clear hb hbox hg; have hnb26 := NB115_111.out; have hnc26 := NB111_115.out; have hcz27_0 : w25.cell? ⟨gb115, 0, none⟩ = some (.complex .f64 0 0) := (blk_cell BK115.out 0).trans rfl; have hcz27_1 : w25.cell? ⟨gb115, 1, none⟩ = some (.complex .f64 0 0) := (blk_cell BK115.out 1).trans rfl; have hfz27_0 := blk_frozen BK115.out 0; have hfz27_1 := blk_frozen BK115.out 1; have hcz28_0 : w25.cell? ⟨gb111, 0, none⟩ = some (.complex .f64 a0_0.re a0_0.im) := (blk_cell BK111.out 0).trans rfl; have hcz28_1 : w25.cell? ⟨gb111, 1, none⟩ = some (.complex .f64 a0_1.re a0_1.im) := (blk_cell BK111.out 1).trans rfl; have hfz28_0 := blk_frozen BK111.out 0; have hfz28_1 := blk_frozen BK111.out 1))
                  go_ret
                  exact ⟨by first | rfl | (simp [errW_none, errW_some] <;> rfl) | (simp only [← hji8, ← hji9]; first | rfl | (simp [errW_none, errW_some] <;> rfl)) | (simp [*, errW_none, errW_some] <;> rfl), by repeat (first | (with_reducible first | exact HB.out | apply below_alloc | apply pw_below_drewN | apply below_drew1 | refine below_set ?_ GE111.out | refine below_set ?_ GE115.out) | exact HB.out)⟩
                · rw [if_neg c21] at H
                  exact absurd H (by simp)
              · rw [if_neg c20] at H
                have c20b0 : decide ((toi (cre .sub a0_1.re a0_1.im a0_0.re a0_0.im)) ≤ (wrap64 ((ji9) - (toi a0_0.re)))) = false := decide_eq_false c20
                clear c20
                replace H := Option.bind_eq_some_iff.mp H
                obtain ⟨⟨t116, t117⟩, A290, H⟩ := H
                replace H : ((bits_Div64.f t116 t117 (IntKind.u64.wrap (toi (cre .sub a0_1.re a0_1.im a0_0.re a0_0.im)))).bind fun bt118 => (if toki a0_0.im = true then (some (wrap64 ((toi a0_0.im) + (wrap64 (bt118.1))))) else (none))) = some r := H
                have A29 := Aside0.mk A290
                clear A290
                replace H := Option.bind_eq_some_iff.mp H
                obtain ⟨⟨t118, t119⟩, A300, H⟩ := H
                replace H : (if toki a0_0.im = true then (some (wrap64 ((toi a0_0.im) + (wrap64 (t118))))) else (none)) = some r := H
                have A30 := Aside0.mk A300
                clear A300
                by_cases c31 : toki a0_0.im = true
                · rw [if_pos c31] at H
                  have c31b0 : toki a0_0.im = true := c31
                  clear c31
                  obtain rfl := Option.some.inj H
                  go_enter Try.func39, Try.ntmps39
                  go_wp2_with (first | ((with_reducible refine gate_dst (N := 2) rfl ?_); refine box_event ?hg (N := 2) ?hd (cs := #[.complex .f64 a0_0.re a0_0.im, .complex .f64 a0_1.re a0_1.im]) (t := 51) ?hr ?_; (case hd => rfl); (case hg => rfl); (case hr => first | (go_simp; done) | (go_simp; rfl)); intro gb111 hg w32 hbox hb; have n0_ := Aside0.mk (below_step (by repeat (first | (with_reducible first | exact HB.out | apply below_alloc | apply pw_below_drewN | apply below_drew1) | exact HB.out)) hb); have n1_ := Aside0.mk (hbox); have n2_ := Aside0.mk ((by rw [hg]; exact (below_size (by repeat (first | (with_reducible first | exact HB.out | apply below_alloc | apply pw_below_drewN | apply below_drew1) | exact HB.out))) : w.heap.size ≤ gb111)); have n3_ := Aside0.mk ((by rw [hg]; exact (below_size (by repeat (first | (with_reducible first | exact HB.out | apply below_alloc | apply pw_below_drewN | apply below_drew1) | exact HB.out))) : w.heap.size ≤ gb111)); clear HB; have HB := n0_; have BK111 := n1_; have GW111 := n2_; have GE111 := n3_; clear n0_ n1_ n2_ n3_; clear hb hbox hg; have hcz33_0 : w32.cell? ⟨gb111, 0, none⟩ = some (.complex .f64 a0_0.re a0_0.im) := (blk_cell BK111.out 0).trans rfl; have hcz33_1 : w32.cell? ⟨gb111, 1, none⟩ = some (.complex .f64 a0_1.re a0_1.im) := (blk_cell BK111.out 1).trans rfl; have hfz33_0 := blk_frozen BK111.out 0; have hfz33_1 := blk_frozen BK111.out 1) | ((with_reducible refine gate_callee (f := 38) rfl ?_); refine goesL_ (some 20) rfl rfl Try.func38 (by kernel_rfl) rfl #[.complex .f64 a0_0.re a0_0.im, .complex .f64 a0_1.re a0_1.im] rfl (by (try simp only [List.map_toArray, List.map_cons, List.map_nil]); first | done | rfl | (simp only [List.length_drop, List.length_take]; rfl)) ?_; (with_reducible refine (curve_Line.calls a0_0 a0_1 t112 t113 t114 _ A3.out).mono ?_); rintro e w34 ⟨rfl, hb⟩; refine ⟨_, rfl, ?_⟩; have n0_ := Aside0.mk (blk_below (g := gb111) (o := .cells #[.complex .f64 a0_0.re a0_0.im, .complex .f64 a0_1.re a0_1.im] 51 (0, 0)) (by (with_reducible repeat (first | refine blk_drewN ?_ _ | refine blk_drew ?_ | refine blk_alloc ?_ _)); exact BK111.out) hb); have n1_ := Aside0.mk (below_step (by repeat (first | (with_reducible first | exact HB.out | apply below_alloc | apply pw_below_drewN | apply below_drew1 | refine below_set ?_ GE111.out) | exact HB.out)) hb); clear BK111; clear HB; have BK111 := n0_; have HB := n1_; clear n0_ n1_; (try clear hb); (try clear hb2); (try clear hk); (try clear hi)) | ((with_reducible refine gate_dst (N := 5) rfl ?_); refine box_event ?hg (N := 5) ?hd (cs := #[.complex .f64 0 0, .complex .f64 0 0]) (t := 51) ?hr ?_; (case hd => rfl); (case hg => rfl); (case hr => first | (go_simp; done) | (go_simp; rfl)); intro gb115 hg w35 hbox hb; have n0_ := Aside0.mk (blk_below (g := gb111) (o := .cells #[.complex .f64 a0_0.re a0_0.im, .complex .f64 a0_1.re a0_1.im] 51 (0, 0)) (by (with_reducible repeat (first | refine blk_drewN ?_ _ | refine blk_drew ?_ | refine blk_alloc ?_ _)); exact BK111.out) hb); have n1_ := Aside0.mk (below_step (by repeat (first | (with_reducible first | exact HB.out | apply below_alloc | apply pw_below_drewN | apply below_drew1 | refine below_set ?_ GE111.out) | exact HB.out)) hb); have n2_ := Aside0.mk (hbox); have n3_ := Aside0.mk ((by rw [hg]; exact (below_size (by repeat (first | (with_reducible first | exact HB.out | apply below_alloc | apply pw_below_drewN | apply below_drew1 | refine below_set ?_ GE111.out) | exact HB.out))) : w.heap.size ≤ gb115)); have n4_ := Aside0.mk ((by rw [hg]; exact (below_size (by repeat (first | (with_reducible first | exact HB.out | apply below_alloc | apply pw_below_drewN | apply below_drew1 | refine below_set ?_ GE111.out) | exact HB.out))) : w.heap.size ≤ gb115)); have n5_ := Aside0.mk ((by rw [hg]; exact Nat.ne_of_lt (blk_lt (g := gb111) (o := .cells #[.complex .f64 a0_0.re a0_0.im, .complex .f64 a0_1.re a0_1.im] 51 (0, 0)) (by (with_reducible repeat (first | refine blk_drewN ?_ _ | refine blk_drew ?_ | refine blk_alloc ?_ _)); exact BK111.out)) : gb111 ≠ gb115)); have n6_ := Aside0.mk ((by rw [hg]; exact Nat.ne_of_gt (blk_lt (g := gb111) (o := .cells #[.complex .f64 a0_0.re a0_0.im, .complex .f64 a0_1.re a0_1.im] 51 (0, 0)) (by (with_reducible repeat (first | refine blk_drewN ?_ _ | refine blk_drew ?_ | refine blk_alloc ?_ _)); exact BK111.out)) : gb115 ≠ gb111)); clear BK111; clear HB; have BK111 := n0_; have HB := n1_; have BK115 := n2_; have GW115 := n3_; have GE115 := n4_; have NB111_115 := n5_; have NB115_111 := n6_; clear n0_ n1_ n2_ n3_ n4_ n5_ n6_; clear hb hbox hg; have hnb36 := NB115_111.out; have hnc36 := NB111_115.out; have hcz37_0 : w35.cell? ⟨gb115, 0, none⟩ = some (.complex .f64 0 0) := (blk_cell BK115.out 0).trans rfl; have hcz37_1 : w35.cell? ⟨gb115, 1, none⟩ = some (.complex .f64 0 0) := (blk_cell BK115.out 1).trans rfl; have hfz37_0 := blk_frozen BK115.out 0; have hfz37_1 := blk_frozen BK115.out 1; have hcz38_0 : w35.cell? ⟨gb111, 0, none⟩ = some (.complex .f64 a0_0.re a0_0.im) := (blk_cell BK111.out 0).trans rfl; have hcz38_1 : w35.cell? ⟨gb111, 1, none⟩ = some (.complex .f64 a0_1.re a0_1.im) := (blk_cell BK111.out 1).trans rfl; have hfz38_0 := blk_frozen BK111.out 0; have hfz38_1 := blk_frozen BK111.out 1) | ((with_reducible refine gate_callee (f := 48) rfl ?_); refine goesL_ (some 64) rfl rfl Try.func48 (by kernel_rfl) rfl #[.int .u64 (IntKind.u64.wrap (toi (cim .sub a0_1.re a0_1.im a0_0.re a0_0.im))), .int .u64 (IntKind.u64.wrap (wrap64 ((ji9) - (toi a0_0.re))))] rfl (by (try simp only [List.map_toArray, List.map_cons, List.map_nil]); first | done | (simp only [hji9]; rfl) | rfl | (simp only [List.length_drop, List.length_take]; rfl)) ?_; (with_reducible refine (bits_Mul64.calls (IntKind.u64.wrap (toi (cim .sub a0_1.re a0_1.im a0_0.re a0_0.im))) (IntKind.u64.wrap (wrap64 ((ji9) - (toi a0_0.re)))) t116 t117 _ A29.out).mono ?_); rintro e w' ⟨rfl, ⟨nd, rfl⟩⟩; refine ⟨_, rfl, ?_⟩) | ((with_reducible refine gate_callee (f := 50) rfl ?_); refine goesL_ (some 72) rfl rfl Try.func50 (by kernel_rfl) rfl #[.int .u64 t116, .int .u64 t117, .int .u64 (IntKind.u64.wrap (toi (cre .sub a0_1.re a0_1.im a0_0.re a0_0.im)))] rfl (by (try simp only [List.map_toArray, List.map_cons, List.map_nil]); first | done | rfl | (simp only [List.length_drop, List.length_take]; rfl)) ?_; (with_reducible refine (bits_Div64.calls t116 t117 (IntKind.u64.wrap (toi (cre .sub a0_1.re a0_1.im a0_0.re a0_0.im))) t118 t119 _ A30.out).mono ?_); rintro e w' ⟨rfl, ⟨nd, rfl⟩⟩; refine ⟨_, rfl, ?_⟩))
                  go_ret
                  exact ⟨by first | rfl | (simp [errW_none, errW_some] <;> rfl) | (simp only [← hji8, ← hji9]; first | rfl | (simp [errW_none, errW_some] <;> rfl)) | (simp [*, errW_none, errW_some] <;> rfl), by repeat (first | (with_reducible first | exact HB.out | apply below_alloc | apply pw_below_drewN | apply below_drew1 | refine below_set ?_ GE111.out | refine below_set ?_ GE115.out) | exact HB.out)⟩
                · rw [if_neg c31] at H
                  exact absurd H (by simp)
          · rw [if_neg c10] at H
            exact absurd H (by simp)
        · rw [if_neg c7] at H
          exact absurd H (by simp)
      · rw [if_neg c6] at H
        exact absurd H (by simp)
    · rw [if_neg c5] at H
      exact absurd H (by simp)
  · rw [if_neg c4] at H
    have c4b0 : (t114 == 0) = false := beq_eq_false_iff_ne.mpr c4
    have c4b1 : (t114 != 0) = true := bne_iff_ne.mpr c4
    obtain rfl := Option.some.inj H
    go_enter Try.func39, Try.ntmps39
    go_wp2_with (first | ((with_reducible refine gate_dst (N := 2) rfl ?_); refine box_event ?hg (N := 2) ?hd (cs := #[.complex .f64 a0_0.re a0_0.im, .complex .f64 a0_1.re a0_1.im]) (t := 51) ?hr ?_; (case hd => rfl); (case hg => rfl); (case hr => first | (go_simp; done) | (go_simp; rfl)); intro gb111 hg w39 hbox hb; have n0_ := Aside0.mk (below_step (by repeat (first | (with_reducible first | exact HB.out | apply below_alloc | apply pw_below_drewN | apply below_drew1) | exact HB.out)) hb); have n1_ := Aside0.mk (hbox); have n2_ := Aside0.mk ((by rw [hg]; exact (below_size (by repeat (first | (with_reducible first | exact HB.out | apply below_alloc | apply pw_below_drewN | apply below_drew1) | exact HB.out))) : w.heap.size ≤ gb111)); have n3_ := Aside0.mk ((by rw [hg]; exact (below_size (by repeat (first | (with_reducible first | exact HB.out | apply below_alloc | apply pw_below_drewN | apply below_drew1) | exact HB.out))) : w.heap.size ≤ gb111)); clear HB; have HB := n0_; have BK111 := n1_; have GW111 := n2_; have GE111 := n3_; clear n0_ n1_ n2_ n3_; clear hb hbox hg; have hcz40_0 : w39.cell? ⟨gb111, 0, none⟩ = some (.complex .f64 a0_0.re a0_0.im) := (blk_cell BK111.out 0).trans rfl; have hcz40_1 : w39.cell? ⟨gb111, 1, none⟩ = some (.complex .f64 a0_1.re a0_1.im) := (blk_cell BK111.out 1).trans rfl; have hfz40_0 := blk_frozen BK111.out 0; have hfz40_1 := blk_frozen BK111.out 1) | ((with_reducible refine gate_callee (f := 38) rfl ?_); refine goesL_ (some 20) rfl rfl Try.func38 (by kernel_rfl) rfl #[.complex .f64 a0_0.re a0_0.im, .complex .f64 a0_1.re a0_1.im] rfl (by (try simp only [List.map_toArray, List.map_cons, List.map_nil]); first | done | rfl | (simp only [List.length_drop, List.length_take]; rfl)) ?_; (with_reducible refine (curve_Line.calls a0_0 a0_1 t112 t113 t114 _ A3.out).mono ?_); rintro e w41 ⟨rfl, hb⟩; refine ⟨_, rfl, ?_⟩; have n0_ := Aside0.mk (blk_below (g := gb111) (o := .cells #[.complex .f64 a0_0.re a0_0.im, .complex .f64 a0_1.re a0_1.im] 51 (0, 0)) (by (with_reducible repeat (first | refine blk_drewN ?_ _ | refine blk_drew ?_ | refine blk_alloc ?_ _)); exact BK111.out) hb); have n1_ := Aside0.mk (below_step (by repeat (first | (with_reducible first | exact HB.out | apply below_alloc | apply pw_below_drewN | apply below_drew1 | refine below_set ?_ GE111.out) | exact HB.out)) hb); clear BK111; clear HB; have BK111 := n0_; have HB := n1_; clear n0_ n1_; (try clear hb); (try clear hb2); (try clear hk); (try clear hi)) | ((with_reducible refine gate_dst (N := 5) rfl ?_); refine box_event ?hg (N := 5) ?hd (cs := #[.complex .f64 0 0, .complex .f64 0 0]) (t := 51) ?hr ?_; (case hd => rfl); (case hg => rfl); (case hr => first | (go_simp; done) | (go_simp; rfl)); intro gb115 hg w42 hbox hb; have n0_ := Aside0.mk (blk_below (g := gb111) (o := .cells #[.complex .f64 a0_0.re a0_0.im, .complex .f64 a0_1.re a0_1.im] 51 (0, 0)) (by (with_reducible repeat (first | refine blk_drewN ?_ _ | refine blk_drew ?_ | refine blk_alloc ?_ _)); exact BK111.out) hb); have n1_ := Aside0.mk (below_step (by repeat (first | (with_reducible first | exact HB.out | apply below_alloc | apply pw_below_drewN | apply below_drew1 | refine below_set ?_ GE111.out) | exact HB.out)) hb); have n2_ := Aside0.mk (hbox); have n3_ := Aside0.mk ((by rw [hg]; exact (below_size (by repeat (first | (with_reducible first | exact HB.out | apply below_alloc | apply pw_below_drewN | apply below_drew1 | refine below_set ?_ GE111.out) | exact HB.out))) : w.heap.size ≤ gb115)); have n4_ := Aside0.mk ((by rw [hg]; exact (below_size (by repeat (first | (with_reducible first | exact HB.out | apply below_alloc | apply pw_below_drewN | apply below_drew1 | refine below_set ?_ GE111.out) | exact HB.out))) : w.heap.size ≤ gb115)); have n5_ := Aside0.mk ((by rw [hg]; exact Nat.ne_of_lt (blk_lt (g := gb111) (o := .cells #[.complex .f64 a0_0.re a0_0.im, .complex .f64 a0_1.re a0_1.im] 51 (0, 0)) (by (with_reducible repeat (first | refine blk_drewN ?_ _ | refine blk_drew ?_ | refine blk_alloc ?_ _)); exact BK111.out)) : gb111 ≠ gb115)); have n6_ := Aside0.mk ((by rw [hg]; exact Nat.ne_of_gt (blk_lt (g := gb111) (o := .cells #[.complex .f64 a0_0.re a0_0.im, .complex .f64 a0_1.re a0_1.im] 51 (0, 0)) (by (with_reducible repeat (first | refine blk_drewN ?_ _ | refine blk_drew ?_ | refine blk_alloc ?_ _)); exact BK111.out)) : gb115 ≠ gb111)); clear BK111; clear HB; have BK111 := n0_; have HB := n1_; have BK115 := n2_; have GW115 := n3_; have GE115 := n4_; have NB111_115 := n5_; have NB115_111 := n6_; clear n0_ n1_ n2_ n3_ n4_ n5_ n6_; clear hb hbox hg; have hnb43 := NB115_111.out; have hnc43 := NB111_115.out; have hcz44_0 : w42.cell? ⟨gb115, 0, none⟩ = some (.complex .f64 0 0) := (blk_cell BK115.out 0).trans rfl; have hcz44_1 : w42.cell? ⟨gb115, 1, none⟩ = some (.complex .f64 0 0) := (blk_cell BK115.out 1).trans rfl; have hfz44_0 := blk_frozen BK115.out 0; have hfz44_1 := blk_frozen BK115.out 1))
    go_ret
    exact ⟨by first | rfl | (simp [errW_none, errW_some] <;> rfl) | (simp [*, errW_none, errW_some] <;> rfl), by repeat (first | (with_reducible first | exact HB.out | apply below_alloc | apply pw_below_drewN | apply below_drew1 | refine below_set ?_ GE111.out | refine below_set ?_ GE115.out) | exact HB.out)⟩

-- NOT PRINTED: function 51 (sort_Search)

/-! ### curve_First: function 41 -/
/-- A search by halves, of so many rounds at most. -/
def searchL (g : Int → Option Bool) : Nat → Int → Int → Option Int
  | 0, _, _ => none
  | k + 1, i, j => if i < j then ((g ((i + j) / 2)).bind fun b => if b = true then searchL g k i ((i + j) / 2) else searchL g k ((i + j) / 2 + 1) j) else some i
theorem searchL.mono (g : Int → Option Bool) : ∀ k i j, LeO (searchL g k i j) (searchL g (k + 1) i j)
  | 0 => fun _ _ r h => by simp [searchL] at h
  | k + 1 => fun i j => by
    have ih := searchL.mono g k
    unfold searchL
    refine LeO.ite (LeO.bind (LeO.refl _) (fun _ => LeO.ite (ih _ _) (ih _ _))) (LeO.refl _)
def firstG (a0_0 : C128) (a0_1 : C128) (a1 : Int) (h : Int) : Option Bool := (curve_Curve_At.f a0_0 a0_1 h).bind fun t => some (decide (t ≥ a1))
def curve_First.f (k : Nat) (a0_0 : C128) (a0_1 : C128) (a1 : Int) : Option Int := (searchL (firstG a0_0 a0_1 a1) k 0 1000001).bind fun t => if t > 1000000 then some (-1) else some t
theorem curve_First.mono : ∀ a0_0 a0_1 a1 k, LeO (curve_First.f k a0_0 a0_1 a1) (curve_First.f (k + 1) a0_0 a0_1 a1) := fun a0_0 a0_1 a1 k => by
  unfold curve_First.f
  exact LeO.bind (searchL.mono _ _ _ _) (fun _ => LeO.refl _)
/-- What the function literal of First asks. -/
def FirstMem (w : World) (p q : Nat) (a0_0 : C128) (a0_1 : C128) (a1 : Int) : Prop :=
  w.cell? ⟨p, 0, none⟩ = some (.complex .f64 a0_0.re a0_0.im) ∧ w.cell? ⟨p, 1, none⟩ = some (.complex .f64 a0_1.re a0_1.im) ∧ w.cell? ⟨q, 0, none⟩ = some (.int .i64 a1)
theorem FirstMem.below {w w' : World} {p q : Nat} {a0_0 a0_1 : C128} {a1 : Int} (h : FirstMem w p q a0_0 a0_1 a1) (hb : Below w.heap.size w w') : FirstMem w' p q a0_0 a0_1 a1 :=
  ⟨pw_cell_below hb h.1, pw_cell_below hb h.2.1, pw_cell_below hb h.2.2⟩
set_option maxHeartbeats 4000000 in
set_option maxRecDepth 100000 in
theorem first_lit (a0_0 : C128) (a0_1 : C128) (a1 x : Int) (b : Bool) (p q : Nat) (w : World) (hm : FirstMem w p q a0_0 a0_1 a1) (h : firstG a0_0 a0_1 a1 x = some b) :
    Calls Try.prog 52 #[.int .i64 x, .pointer (some ⟨p, 0, none⟩), .pointer (some ⟨q, 0, none⟩)] w fun e w' => e = .returned (.bool b) ∧ Below w.heap.size w w' := by
  obtain ⟨t, ht0, hb⟩ := Option.bind_eq_some_iff.mp h
  have ht := Aside0.mk ht0
  clear ht0 h
  obtain rfl := Option.some.inj hb
  clear hb
  obtain ⟨h0, h1, h2⟩ := hm
  have W := Aside0.mk (Below.refl w.heap.size w)
  go_enter Try.func52, Try.ntmps52
  go_wp2_with fail
  go_region_held3 (fun w' => w'.cell? ⟨p, 0, none⟩ = some (.complex .f64 a0_0.re a0_0.im) ∧ w'.cell? ⟨p, 1, none⟩ = some (.complex .f64 a0_1.re a0_1.im) ∧ w'.cell? ⟨q, 0, none⟩ = some (.int .i64 a1) ∧ Aside0 (Below w.heap.size w w'))
    ((first | (refine ⟨h0, h1, h2, ⟨below_drew W.out⟩⟩) | (go_split_ands; refine ⟨pw_cell_below hb (by assumption), pw_cell_below hb (by assumption), pw_cell_below hb (by assumption), ⟨below_then (Aside0.out (by assumption)) (Below.size (Aside0.out (by assumption))) hb⟩⟩)))
    (first | (go_at_call 39; refine (curve_Curve_At.calls a0_0 a0_1 x t _ ht.out).mono ?_; rintro e w' ⟨rfl, hb⟩))
  go_wp2
  go_split_ands
  go_ret
  exact ⟨rfl, Aside0.out (by assumption)⟩
set_option maxHeartbeats 4000000 in
set_option maxRecDepth 100000 in
theorem first_search (k : Nat) (a0_0 : C128) (a0_1 : C128) (a1 n0 : Int) (p q : Nat) (w : World) (hm : FirstMem w p q a0_0 a0_1 a1) (h : searchL (firstG a0_0 a0_1 a1) k 0 1000001 = some n0) :
    Calls Try.prog 51 #[.int .i64 1000001, .func (Fn.func 52) #[] #[.pointer (some ⟨p, 0, none⟩), .pointer (some ⟨q, 0, none⟩)]] w fun e w' => e = .returned (.int .i64 n0) ∧ Below w.heap.size w w' := by
  have HM := Aside0.mk hm
  have H' := Aside0.mk h
  have HB := Aside0.mk (Below.refl w.heap.size w)
  clear hm h
  go_enter Try.func51, Try.ntmps51
  go_wp2_with fail
  go_loopg [5, 6] k (fun kq v5 v6 w' => ∃ (i j : Int), v5 = .int .i64 i ∧ v6 = .int .i64 j ∧ Aside0 (0 ≤ i ∧ i ≤ j ∧ j ≤ 1000001) ∧ Aside0 (searchL (firstG a0_0 a0_1 a1) kq i j = some n0) ∧ Aside0 (kq ≤ k) ∧ Aside0 (Below w.heap.size w w'))
  case atStart => exact ⟨0, 1000001, rfl, rfl, ⟨by decide⟩, H', ⟨Nat.le_refl _⟩, HB⟩
  case round =>
    clear H' HB
    obtain ⟨i, j, rfl, rfl, HI, HA, HK1, HB⟩ := hrel
    cases gk with
    | zero => exact absurd HA.out (by simp [searchL])
    | succ k1 =>
      have H := HA.out
      clear HA
      obtain ⟨i0, i1, i2⟩ := HI.out
      simp only [searchL] at H
      by_cases c : i < j
      · rw [if_pos c] at H
        obtain ⟨b, hb0, H⟩ := Option.bind_eq_some_iff.mp H
        have hg := Aside0.mk hb0
        clear hb0
        have hm0 : 0 ≤ (i + j) / 2 := by omega
        have hm1 : (i + j) / 2 < j := by omega
        have hm2 : i ≤ (i + j) / 2 := by omega
        cases b with
        | true =>
          have H' := Aside0.mk ((if_pos rfl).symm.trans H)
          clear H
          go_wp2_with (go_at_call 52; refine (first_lit a0_0 a0_1 a1 ((i + j) / 2) true p q _ (HM.out.below (by (with_reducible repeat (first | apply pw_below_drewN | apply below_drew1)); exact HB.out)) hg.out).mono ?_; rintro e w' ⟨rfl, hb⟩)
          go_roundg k1
          case measure => have := HK1.out; omega
          case rel => exact ⟨i, (i + j) / 2, rfl, rfl, ⟨⟨i0, hm2, by omega⟩⟩, H', ⟨by have := HK1.out; omega⟩, ⟨below_then HB.out (Below.size HB.out) hb⟩⟩
        | false =>
          have H' := Aside0.mk ((if_neg (by simp)).symm.trans H)
          clear H
          go_wp2_with (go_at_call 52; refine (first_lit a0_0 a0_1 a1 ((i + j) / 2) false p q _ (HM.out.below (by (with_reducible repeat (first | apply pw_below_drewN | apply below_drew1)); exact HB.out)) hg.out).mono ?_; rintro e w' ⟨rfl, hb⟩)
          go_roundg k1
          case measure => have := HK1.out; omega
          case rel => exact ⟨(i + j) / 2 + 1, j, rfl, rfl, ⟨⟨by omega, by omega, i2⟩⟩, H', ⟨by have := HK1.out; omega⟩, ⟨below_then HB.out (Below.size HB.out) hb⟩⟩
      · rw [if_neg c] at H
        obtain rfl := Option.some.inj H
        have hc : decide (i < j) = false := decide_eq_false c
        clear c H
        go_wp2
        go_ret
        exact ⟨rfl, HB.out⟩
set_option maxHeartbeats 4000000 in
set_option maxRecDepth 100000 in
theorem curve_First.calls (k : Nat) (a0_0 : C128) (a0_1 : C128) (a1 : Int) (r : Int) (w : World) (h : curve_First.f k a0_0 a0_1 a1 = some r) :
    Calls Try.prog 41 #[.agg #[.complex .f64 a0_0.re a0_0.im, .complex .f64 a0_1.re a0_1.im], .int .i64 a1] w fun e w' => e = .returned (.int .i64 r) ∧ Below w.heap.size w w' := by
  obtain ⟨n0, hs0, H⟩ := Option.bind_eq_some_iff.mp h
  have hs := Aside0.mk hs0
  clear hs0 h
  have HW := Aside0.mk (Below.refl w.heap.size w)
  by_cases c : n0 > 1000000
  · rw [if_pos c] at H
    obtain rfl := Option.some.inj H
    clear H
    go_enter Try.func41, Try.ntmps41
    go_wp2_with (go_at_call 51; refine (first_search k a0_0 a0_1 a1 _ w.heap.size (w.heap.size + 1) _ ?_ hs.out).mono ?_; exact ⟨by go_simp, by go_simp, by go_simp⟩; rintro e w' ⟨rfl, hb⟩)
    go_ret
    exact ⟨rfl, below_then (below_alloc (below_alloc HW.out _) _) (Below.size (below_alloc (below_alloc HW.out _) _)) hb⟩
  · rw [if_neg c] at H
    obtain rfl := Option.some.inj H
    clear H
    go_enter Try.func41, Try.ntmps41
    go_wp2_with (go_at_call 51; refine (first_search k a0_0 a0_1 a1 _ w.heap.size (w.heap.size + 1) _ ?_ hs.out).mono ?_; exact ⟨by go_simp, by go_simp, by go_simp⟩; rintro e w' ⟨rfl, hb⟩)
    go_ret
    exact ⟨rfl, below_then (below_alloc (below_alloc HW.out _) _) (Below.size (below_alloc (below_alloc HW.out _) _)) hb⟩

end Go.Proofs.Ytfoahgdaigfhoaa.QCur
