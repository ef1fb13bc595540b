/- Functions of the program as plain Lean functions, and that its calls come to what these tell: written by a program of this session; Lean checks it. -/
import Derived.Test.YtiodebjjbgcbhaaQBatx3
namespace Go.Proofs.Ytiodebjjbgcbhaa.QBat
open Go.RowKit Go.Proofs.Ytiodebjjbgcbhaa.Hand Go.Proofs.YtiodebjjbgcbhaaW.PrintWords Go.Proofs.YtiodebjjbgcbhaaW.PrintLast Go.Proofs.YtiodebjjbgcbhaaW.PrintMore Go.Proofs.Ytiodebjjbgcbhaa.QLef
attribute [local go_sem] max2_int min2_int max_two min_two max_three min_three max_four min_four run_equalIn_c run_fop run_feq run_fne run_flt run_fle run_fgt run_fge run_fint run_toi run_real' run_imag' run_complex' run_ceq run_cne run_cadd run_csub Wide.cellsAt_drewN Wide.cellsAt_drew Wide.lw32 Wide.lw33 Wide.lw37 Wide.lw38 Wide.lw39 Wide.lw44
attribute [local go_sem ↓ high] Wide.hv32 Wide.hv33 Wide.hv37 Wide.hv38 Wide.hv39 Wide.hv44
set_option linter.unusedVariables false
set_option linter.unusedSimpArgs false
/-! ### coraclelaw17_BatchWaits: function 8 -/
theorem wide_from {w : World} {g t : Nat} {l : List Value} (h : w.heap[g]? = some (.cells l.toArray t (0, 0))) : ∀ n i, i + n = l.length → Wide.cellsFrom w ⟨g, 0, none⟩ i n = some (l.drop i)
 | 0, i, hi => by rw [List.drop_of_length_le (by omega)]; rfl
 | n + 1, i, hi => by
  have h1 : w.cell? ((⟨g, 0, none⟩ : Addr).add i) = some l[i] := by
   rw [Addr.add_lit, Nat.zero_add]
   refine (blk_cell h i).trans ?_
   rw [List.getElem?_toArray, List.getElem?_eq_getElem (by omega)]
  rw [Wide.cf_step h1 (wide_from h n (i + 1) (by omega)), ← List.drop_eq_getElem_cons (i := i) (by omega)]
theorem wide_at {w : World} {g t n : Nat} {l : List Value} (h : w.heap[g]? = some (.cells l.toArray t (0, 0))) (hl : l.length = n) : Wide.cellsAt w ⟨g, 0, none⟩ n = some l := by
 subst hl
 exact wide_from h l.length 0 (by omega)
mutual
def coraclelaw17_BatchWaits.j0 : Nat → List Int → List Int → Int → Int → Bool → Option (Bool)
 | 0, _, _, _, _, _ => none
 | k + 1, x0, x1, x2, x7, x29 => if x29 = true then ((coraclelaw17_awake.f).bind fun t172 => (some t172)) else (coraclelaw17_BatchWaits.l0 k x0 x1 x2 x7 ([] : List (S68)) 0 0 0)
def coraclelaw17_BatchWaits.l0 : Nat → List Int → List Int → Int → Int → List (S68) → Int → Int → Int → Option (Bool)
 | 0, _, _, _, _, _, _, _, _ => none
 | k + 1, x0, x1, x2, x7, x8, x9, x10, x11 => if x11 < x7 then ((coraclelaw17_one.f x11 100000 50000).bind fun bt173 => (if 0 ≤ x11 then (if x11 < (x0.length : Int) then (if x11 < (x1.length : Int) then (if x8.length < 1034834473200 then ((some (x8 ++ [(⟨(⟨(⟨bt173.1, bt173.2.1, bt173.2.2.1, bt173.2.2.2.1, bt173.2.2.2.2.1, bt173.2.2.2.2.2.1, bt173.2.2.2.2.2.2.1, bt173.2.2.2.2.2.2.2.1, bt173.2.2.2.2.2.2.2.2.1, bt173.2.2.2.2.2.2.2.2.2.1, bt173.2.2.2.2.2.2.2.2.2.2.1, bt173.2.2.2.2.2.2.2.2.2.2.2.1, bt173.2.2.2.2.2.2.2.2.2.2.2.2.1, bt173.2.2.2.2.2.2.2.2.2.2.2.2.2.1, bt173.2.2.2.2.2.2.2.2.2.2.2.2.2.2.1, bt173.2.2.2.2.2.2.2.2.2.2.2.2.2.2.2.1, bt173.2.2.2.2.2.2.2.2.2.2.2.2.2.2.2.2.1, bt173.2.2.2.2.2.2.2.2.2.2.2.2.2.2.2.2.2.1, bt173.2.2.2.2.2.2.2.2.2.2.2.2.2.2.2.2.2.2.1, bt173.2.2.2.2.2.2.2.2.2.2.2.2.2.2.2.2.2.2.2.1, bt173.2.2.2.2.2.2.2.2.2.2.2.2.2.2.2.2.2.2.2.2.1, bt173.2.2.2.2.2.2.2.2.2.2.2.2.2.2.2.2.2.2.2.2.2.1, bt173.2.2.2.2.2.2.2.2.2.2.2.2.2.2.2.2.2.2.2.2.2.2.1, bt173.2.2.2.2.2.2.2.2.2.2.2.2.2.2.2.2.2.2.2.2.2.2.2.1, bt173.2.2.2.2.2.2.2.2.2.2.2.2.2.2.2.2.2.2.2.2.2.2.2.2.1, bt173.2.2.2.2.2.2.2.2.2.2.2.2.2.2.2.2.2.2.2.2.2.2.2.2.2.1, bt173.2.2.2.2.2.2.2.2.2.2.2.2.2.2.2.2.2.2.2.2.2.2.2.2.2.2.1, bt173.2.2.2.2.2.2.2.2.2.2.2.2.2.2.2.2.2.2.2.2.2.2.2.2.2.2.2.1, bt173.2.2.2.2.2.2.2.2.2.2.2.2.2.2.2.2.2.2.2.2.2.2.2.2.2.2.2.2.1, bt173.2.2.2.2.2.2.2.2.2.2.2.2.2.2.2.2.2.2.2.2.2.2.2.2.2.2.2.2.2.1, bt173.2.2.2.2.2.2.2.2.2.2.2.2.2.2.2.2.2.2.2.2.2.2.2.2.2.2.2.2.2.2.1, bt173.2.2.2.2.2.2.2.2.2.2.2.2.2.2.2.2.2.2.2.2.2.2.2.2.2.2.2.2.2.2.2.1⟩ : S32), bt173.2.2.2.2.2.2.2.2.2.2.2.2.2.2.2.2.2.2.2.2.2.2.2.2.2.2.2.2.2.2.2.2.1⟩ : S34), bt173.2.2.2.2.2.2.2.2.2.2.2.2.2.2.2.2.2.2.2.2.2.2.2.2.2.2.2.2.2.2.2.2.2.1, (⟨(⟨bt173.2.2.2.2.2.2.2.2.2.2.2.2.2.2.2.2.2.2.2.2.2.2.2.2.2.2.2.2.2.2.2.2.2.2.1, bt173.2.2.2.2.2.2.2.2.2.2.2.2.2.2.2.2.2.2.2.2.2.2.2.2.2.2.2.2.2.2.2.2.2.2.2.1, bt173.2.2.2.2.2.2.2.2.2.2.2.2.2.2.2.2.2.2.2.2.2.2.2.2.2.2.2.2.2.2.2.2.2.2.2.2.1⟩ : S36), bt173.2.2.2.2.2.2.2.2.2.2.2.2.2.2.2.2.2.2.2.2.2.2.2.2.2.2.2.2.2.2.2.2.2.2.2.2.2.1, Int.tmod (wrap64 ((Int.tmod (rd x0 x11) 50) + 50)) 50, Int.tmod (wrap64 ((Int.tmod (rd x1 x11) 50) + 50)) 50⟩ : S66), bt173.2.2.2.2.2.2.2.2.2.2.2.2.2.2.2.2.2.2.2.2.2.2.2.2.2.2.2.2.2.2.2.2.2.2.2.2.2.2.2.2.1, bt173.2.2.2.2.2.2.2.2.2.2.2.2.2.2.2.2.2.2.2.2.2.2.2.2.2.2.2.2.2.2.2.2.2.2.2.2.2.2.2.2.2.1, 100, bt173.2.2.2.2.2.2.2.2.2.2.2.2.2.2.2.2.2.2.2.2.2.2.2.2.2.2.2.2.2.2.2.2.2.2.2.2.2.2.2.2.2.2.2⟩ : S68)] : List (S68))).bind fun y220 => (if x2 ≥ (mx (mx (Int.tmod (wrap64 ((Int.tmod (rd x0 x11) 50) + 50)) 50) (Int.tmod (wrap64 ((Int.tmod (rd x1 x11) 50) + 50)) 50)) 1) then (coraclelaw17_BatchWaits.l0 k x0 x1 x2 x7 y220 (wrap64 (x9 + 1)) (mx x10 (Int.tmod (wrap64 ((Int.tmod (rd x0 x11) 50) + 50)) 50)) (wrap64 (x11 + 1))) else (coraclelaw17_BatchWaits.l0 k x0 x1 x2 x7 y220 x9 x10 (wrap64 (x11 + 1))))) else (none)) else (none)) else (none)) else (none))) else ((coraclelaw17_mades.f k x8).bind fun t223 => ((batch_All.f t223 x2 400000 1).bind fun bt226 => (if bt226.2 = 0 then (coraclelaw17_BatchWaits.j2 k x2 x8 x9 x10 bt226.1 ((bt226.1.length : Int) != (mn x9 1))) else (coraclelaw17_BatchWaits.j2 k x2 x8 x9 x10 bt226.1 true))))
def coraclelaw17_BatchWaits.j2 : Nat → Int → List (S68) → Int → Int → List (S39) → Bool → Option (Bool)
 | 0, _, _, _, _, _, _ => none
 | k + 1, x2, x8, x9, x10, x13, x92 => if x92 = true then (some false) else (if x9 = 0 then ((coraclelaw17_mades.f k x8).bind fun t230 => ((batch_Order.f t230 x2).bind fun t233 => (if (t233.length : Int) = x9 then ((coraclelaw17_awake.f).bind fun t236 => (some t236)) else (some false)))) else (if 0 < (x13.length : Int) then (if (((rd_T39 x13 0).f0.f0).length : Int) = x9 then (if ((rd_T39 x13 0).f0.f2) = x10 then ((coraclelaw17_mades.f k x8).bind fun t239 => ((batch_Order.f t239 x2).bind fun t242 => (if (t242.length : Int) = x9 then ((coraclelaw17_awake.f).bind fun t245 => (some t245)) else (some false)))) else (some false)) else (some false)) else (none)))
end
def coraclelaw17_BatchWaits.f (k : Nat) (l0 : List Int) (l1 : List Int) (a2 : Int) : Option (Bool) := if (mn (l0.length : Int) (l1.length : Int)) > 20 then (coraclelaw17_BatchWaits.j0 k l0 l1 a2 (mn (l0.length : Int) (l1.length : Int)) true) else (if a2 < 1 then (coraclelaw17_BatchWaits.j0 k l0 l1 a2 (mn (l0.length : Int) (l1.length : Int)) true) else (coraclelaw17_BatchWaits.j0 k l0 l1 a2 (mn (l0.length : Int) (l1.length : Int)) (decide (a2 > 60))))
set_option maxHeartbeats 8000000 in
set_option maxRecDepth 100000 in
theorem coraclelaw17_BatchWaits.calls (k : Nat) (A0 : Option Addr) (c0 : Nat) (l0 : List Int) (A1 : Option Addr) (c1 : Nat) (l1 : List Int) (a2 : Int) (r : Bool) (w : World) (hr0 : Kd.C (Kd.int .i64) w A0 l0.length l0) (hc0 : l0.length ≤ c0) (hr1 : Kd.C (Kd.int .i64) w A1 l1.length l1) (hc1 : l1.length ≤ c1) (h : coraclelaw17_BatchWaits.f k l0 l1 a2 = some r) :
 Calls Try.prog 8 #[.slice A0 l0.length c0, .slice A1 l1.length c1, .int .i64 a2] w fun e w' => e = .returned (.bool r) ∧ Below w.heap.size w w' := by
 have hu68 := Try.underlying68
 have HR0 := Aside0.mk hr0
 have HC0 := Aside0.mk hc0
 clear hr0 hc0
 have HR1 := Aside0.mk hr1
 have HC1 := Aside0.mk hc1
 clear hr1 hc1
 have HB := Aside0.mk (Below.refl w.heap.size w)
 have H : (if (mn (l0.length : Int) (l1.length : Int)) > 20 then (coraclelaw17_BatchWaits.j0 k l0 l1 a2 (mn (l0.length : Int) (l1.length : Int)) true) else (if a2 < 1 then (coraclelaw17_BatchWaits.j0 k l0 l1 a2 (mn (l0.length : Int) (l1.length : Int)) true) else (coraclelaw17_BatchWaits.j0 k l0 l1 a2 (mn (l0.length : Int) (l1.length : Int)) (decide (a2 > 60))))) = some r := h
 clear h
 obtain ⟨ji4, hji4⟩ : ∃ j_ : Int, (mn (l0.length : Int) (l1.length : Int)) = j_ := ⟨_, rfl⟩
 replace H : (if (ji4) > 20 then (coraclelaw17_BatchWaits.j0 k l0 l1 a2 ji4 true) else (if a2 < 1 then (coraclelaw17_BatchWaits.j0 k l0 l1 a2 ji4 true) else (coraclelaw17_BatchWaits.j0 k l0 l1 a2 ji4 (decide (a2 > 60))))) = some r := by first | (rw [hji4] at H; exact H) | (simp only [hji4] at H ⊢; exact H)
 (try (have hji4l : 0 ≤ ji4 := by (rw [← hji4]; unfold mn; (repeat' split) <;> omega)))
 (try (have hji4m : 0 ≤ ji4 := by omega))
 have hji4_ : (if (l1.length : Int) < (l0.length : Int) then (l1.length : Int) else (l0.length : Int)) = ji4 := hji4
 have hji4N : (if l1.length < l0.length then (l1.length : Int) else (l0.length : Int)) = ji4 := by have h_ := hji4_; simp only [Int.ofNat_lt] at h_; exact h_
 have HC5 := Aside0.mk H
 clear H
 go_enter Try.func8, Try.ntmps8
 go_upto_region 2 with (fail)
 go_cut [29] (fun v29 wc => ∃ (kq : Nat) (x29_4 : Bool), v29 = .bool x29_4 ∧ Aside0 (coraclelaw17_BatchWaits.j0 kq l0 l1 a2 ji4 x29_4 = some r) ∧ Aside0 (kq ≤ k) ∧ Aside0 (Below w.heap.size w wc))
 case first =>
  have H := HC5.out
  clear HC5
  by_cases c6 : (ji4) > 20
  ·rw [if_pos c6] at H
   have c6b0 : decide (20 < (ji4)) = true := decide_eq_true c6
   clear c6
   (first | rw [c6b0] | (simp only [i64_w, i32_w]; rw [c6b0]) | skip)
   have H' := Aside0.mk H
   clear H
   go_wp2
   go_meet
   case rel => exact ⟨_, (true), (by first | rfl | (simp; done) | (simp [*]; done)), H', ⟨by first | omega | exact Nat.le_refl _⟩, ⟨by repeat (first | (with_reducible first | exact HB.out | apply below_alloc | apply pw_below_drewN | apply below_drew1) | exact HB.out)⟩⟩
  ·rw [if_neg c6] at H
   have c6b0 : decide (20 < (ji4)) = false := decide_eq_false c6
   clear c6
   (first | rw [c6b0] | (simp only [i64_w, i32_w]; rw [c6b0]) | skip)
   by_cases c7 : a2 < 1
   ·rw [if_pos c7] at H
    have c7b0 : decide (a2 < 1) = true := decide_eq_true c7
    clear c7
    have H' := Aside0.mk H
    clear H
    go_wp2
    go_meet
    case rel => exact ⟨_, (true), (by first | rfl | (simp; done) | (simp [*]; done)), H', ⟨by first | omega | exact Nat.le_refl _⟩, ⟨by repeat (first | (with_reducible first | exact HB.out | apply below_alloc | apply pw_below_drewN | apply below_drew1) | exact HB.out)⟩⟩
   ·rw [if_neg c7] at H
    have c7b0 : decide (a2 < 1) = false := decide_eq_false c7
    clear c7
    have H' := Aside0.mk H
    clear H
    go_wp2
    go_meet
    case rel => exact ⟨_, (decide (a2 > 60)), (by first | rfl | (simp; done) | (simp [*]; done)), H', ⟨by first | omega | exact Nat.le_refl _⟩, ⟨by repeat (first | (with_reducible first | exact HB.out | apply below_alloc | apply pw_below_drewN | apply below_drew1) | exact HB.out)⟩⟩
 case rest =>
  clear HC5
  try clear c1
  try clear p2
  try clear c6
  try clear c6b0
  try clear c7
  try clear c7b0
  obtain ⟨kq, x29_4, rfl, HA, HJ4, HB⟩ := hcut
  cases kq with
  | zero => exact absurd HA.out (by simp [coraclelaw17_BatchWaits.j0])
  | succ kj4 =>
   have H := HA.out
   clear HA
   simp only [coraclelaw17_BatchWaits.j0] at H
   by_cases c8 : x29_4 = true
   ·subst c8
    have H1 : ((coraclelaw17_awake.f).bind fun t172 => (some t172)) = some r := by rw [if_pos rfl] at H; exact H
    clear H
    have H := H1
    clear H1
    replace H := Option.bind_eq_some_iff.mp H
    obtain ⟨t172, A90, H⟩ := H
    replace H : (some t172) = some r := H
    have A9 := Aside0.mk A90
    clear A90
    obtain rfl := Option.some.inj H
    go_wp2_with (first | ((with_reducible refine gate_callee (f := 18) rfl ?_); refine goesL_ (some 30) rfl rfl Try.func18 (by kernel_rfl) rfl #[] rfl (by (try simp only [List.map_toArray, List.map_cons, List.map_nil]); first | done | rfl | (simp only [List.length_drop, List.length_take]; rfl)) ?_; (with_reducible refine (coraclelaw17_awake.calls  t172 _ A9.out).mono ?_); rintro e w10 ⟨rfl, hb⟩; refine ⟨_, rfl, ?_⟩; have n0_ := Aside0.mk (below_step (by repeat (first | (with_reducible first | exact HB.out | apply below_alloc | apply pw_below_drewN | apply below_drew1) | exact HB.out)) hb); clear HB; have HB := n0_; clear n0_; (try clear hb); (try clear hb2); (try clear hk); (try clear hi)))
    go_ret
    exact ⟨by first | rfl | (simp [errW_none, errW_some] <;> rfl) | (simp only [← hji4]; first | rfl | (simp [errW_none, errW_some] <;> rfl)) | (simp [*, errW_none, errW_some] <;> rfl), by repeat (first | (with_reducible first | exact HB.out | apply below_alloc | apply pw_below_drewN | apply below_drew1) | exact HB.out)⟩
   ·replace c8 := Bool.eq_false_iff.mpr c8
    subst c8
    have H1 : (coraclelaw17_BatchWaits.l0 kj4 l0 l1 a2 ji4 ([] : List (S68)) 0 0 0) = some r := by rw [if_neg (show ¬ (false = true) by decide)] at H; exact H
    clear H
    have H := H1
    clear H1
    have H' := Aside0.mk H
    clear H
    go_wp2
    go_loopg [8, 9, 10, 11] kj4 (fun kq v8 v9 v10 v11 w' => ∃ (x8_2 : List (S68)) (x9_2 : Int) (x10_2 : Int) (x11_2 : Int), v9 = .int .i64 x9_2 ∧ v10 = .int .i64 x10_2 ∧ v11 = .int .i64 x11_2 ∧ Aside0 (coraclelaw17_BatchWaits.l0 kq l0 l1 a2 ji4 x8_2 x9_2 x10_2 x11_2 = some r) ∧ Aside0 (kq ≤ kj4) ∧ Aside0 (Kd.R k68 68 w' w.heap.size (fun _ => True) v8 x8_2) ∧ Aside0 (Below w.heap.size w w'))
    case atStart => exact ⟨(([] : List (S68))), (0), (0), (0), (by first | rfl | (simp; done) | (simp [*]; done)), (by first | rfl | (simp; done) | (simp [*]; done)), (by first | rfl | (simp; done) | (simp [*]; done)), H', ⟨Nat.le_refl _⟩, ⟨by first | exact Kd.R_nil _ _ _ _ _ | exact Kd.N_nil _ _ _ _ _ | exact Kd.V_nil _ _ _ _ _ | exact Kd.Q_nil _ _ _ _ _ | exact Kd.S_nil _ _ _ _ _⟩, ⟨by repeat (first | (with_reducible first | exact HB.out | apply below_alloc | apply pw_below_drewN | apply below_drew1) | exact HB.out)⟩⟩
    case round =>
     clear H'
     try clear c1
     try clear p2
     try clear c6
     try clear c6b0
     try clear c7
     try clear c7b0
     try clear c8
     try clear p2
     obtain ⟨x8_2, x9_2, x10_2, x11_2, rfl, rfl, rfl, HA, HK2, HO_8, HB⟩ := hrel
     cases gk with
     | zero => exact absurd HA.out (by simp [coraclelaw17_BatchWaits.l0])
     | succ k2 =>
      have H := HA.out
      clear HA
      simp only [coraclelaw17_BatchWaits.l0] at H
      by_cases c11 : x11_2 < ji4
      ·rw [if_pos c11] at H
       have c11b0 : decide (x11_2 < ji4) = true := decide_eq_true c11
       clear c11
       replace H := Option.bind_eq_some_iff.mp H
       obtain ⟨⟨t173, t174, t175, t176, t177, t178, t179, t180, t181, t182, t183, t184, t185, t186, t187, t188, t189, t190, t191, t192, t193, t194, t195, t196, t197, t198, t199, t200, t201, t202, t203, t204, t205, t206, t207, t208, t209, t210, t211, t212, t213, t214, t215, t216⟩, A120, H⟩ := H
       replace H : (if 0 ≤ x11_2 then (if x11_2 < (l0.length : Int) then (if x11_2 < (l1.length : Int) then (if x8_2.length < 1034834473200 then ((some (x8_2 ++ [(⟨(⟨(⟨t173, t174, t175, t176, t177, t178, t179, t180, t181, t182, t183, t184, t185, t186, t187, t188, t189, t190, t191, t192, t193, t194, t195, t196, t197, t198, t199, t200, t201, t202, t203, t204⟩ : S32), t205⟩ : S34), t206, (⟨(⟨t207, t208, t209⟩ : S36), t210, Int.tmod (wrap64 ((Int.tmod (rd l0 x11_2) 50) + 50)) 50, Int.tmod (wrap64 ((Int.tmod (rd l1 x11_2) 50) + 50)) 50⟩ : S66), t213, t214, 100, t216⟩ : S68)] : List (S68))).bind fun y220 => (if a2 ≥ (mx (mx (Int.tmod (wrap64 ((Int.tmod (rd l0 x11_2) 50) + 50)) 50) (Int.tmod (wrap64 ((Int.tmod (rd l1 x11_2) 50) + 50)) 50)) 1) then (coraclelaw17_BatchWaits.l0 k2 l0 l1 a2 ji4 y220 (wrap64 (x9_2 + 1)) (mx x10_2 (Int.tmod (wrap64 ((Int.tmod (rd l0 x11_2) 50) + 50)) 50)) (wrap64 (x11_2 + 1))) else (coraclelaw17_BatchWaits.l0 k2 l0 l1 a2 ji4 y220 x9_2 x10_2 (wrap64 (x11_2 + 1))))) else (none)) else (none)) else (none)) else (none)) = some r := H
       have A12 := Aside0.mk A120
       clear A120
       by_cases c13 : 0 ≤ x11_2
       ·rw [if_pos c13] at H
        have c13b0 : decide (0 ≤ x11_2) = true := decide_eq_true c13
        clear c13
        by_cases c14 : x11_2 < (l0.length : Int)
        ·rw [if_pos c14] at H
         have c14b0 : decide (x11_2 < (l0.length : Int)) = true := decide_eq_true c14
         clear c14
         by_cases c15 : x11_2 < (l1.length : Int)
         ·rw [if_pos c15] at H
          have c15b0 : decide (x11_2 < (l1.length : Int)) = true := decide_eq_true c15
          clear c15
          by_cases c16 : x8_2.length < 1034834473200
          ·rw [if_pos c16] at H
           have LMc16 := Aside0.mk c16
           clear c16
           obtain ⟨y220, hy220⟩ : ∃ y_ : List (S68), y_ = (x8_2 ++ [(⟨(⟨(⟨t173, t174, t175, t176, t177, t178, t179, t180, t181, t182, t183, t184, t185, t186, t187, t188, t189, t190, t191, t192, t193, t194, t195, t196, t197, t198, t199, t200, t201, t202, t203, t204⟩ : S32), t205⟩ : S34), t206, (⟨(⟨t207, t208, t209⟩ : S36), t210, Int.tmod (wrap64 ((Int.tmod (rd l0 x11_2) 50) + 50)) 50, Int.tmod (wrap64 ((Int.tmod (rd l1 x11_2) 50) + 50)) 50⟩ : S66), t213, t214, 100, t216⟩ : S68)]) := ⟨_, rfl⟩
           replace H : (if a2 ≥ (mx (mx (Int.tmod (wrap64 ((Int.tmod (rd l0 x11_2) 50) + 50)) 50) (Int.tmod (wrap64 ((Int.tmod (rd l1 x11_2) 50) + 50)) 50)) 1) then (coraclelaw17_BatchWaits.l0 k2 l0 l1 a2 ji4 y220 (wrap64 (x9_2 + 1)) (mx x10_2 (Int.tmod (wrap64 ((Int.tmod (rd l0 x11_2) 50) + 50)) 50)) (wrap64 (x11_2 + 1))) else (coraclelaw17_BatchWaits.l0 k2 l0 l1 a2 ji4 y220 x9_2 x10_2 (wrap64 (x11_2 + 1)))) = some r := by first | (rw [hy220]; with_reducible exact H) | (have H2_ := (Option.bind_some _ _).symm.trans H; rw [hy220]; with_reducible exact H2_) | (have H2_ := (Option.bind_some _ _).symm.trans H; with_reducible exact H2_) | with_reducible exact H | (rw [hy220]; exact H) | exact H
           have Ny220 := Aside0.mk hy220
           clear hy220
           obtain ⟨ji17, hji17⟩ : ∃ j_ : Int, (mx (Int.tmod (wrap64 ((Int.tmod (rd l0 x11_2) 50) + 50)) 50) (Int.tmod (wrap64 ((Int.tmod (rd l1 x11_2) 50) + 50)) 50)) = j_ := ⟨_, rfl⟩
           replace H : (if a2 ≥ (mx (ji17) 1) then (coraclelaw17_BatchWaits.l0 k2 l0 l1 a2 ji4 y220 (wrap64 (x9_2 + 1)) (mx x10_2 (Int.tmod (wrap64 ((Int.tmod (rd l0 x11_2) 50) + 50)) 50)) (wrap64 (x11_2 + 1))) else (coraclelaw17_BatchWaits.l0 k2 l0 l1 a2 ji4 y220 x9_2 x10_2 (wrap64 (x11_2 + 1)))) = some r := by first | (rw [hji17] at H; exact H) | (simp only [hji17] at H ⊢; exact H)
           (try rw [hji17] at A12)
           have hji17_ : (if (Int.tmod (wrap64 ((Int.tmod (rd l0 x11_2) 50) + 50)) 50) < (Int.tmod (wrap64 ((Int.tmod (rd l1 x11_2) 50) + 50)) 50) then (Int.tmod (wrap64 ((Int.tmod (rd l1 x11_2) 50) + 50)) 50) else (Int.tmod (wrap64 ((Int.tmod (rd l0 x11_2) 50) + 50)) 50)) = ji17 := hji17
           obtain ⟨ji18, hji18⟩ : ∃ j_ : Int, (mx (ji17) 1) = j_ := ⟨_, rfl⟩
           replace H : (if a2 ≥ (ji18) then (coraclelaw17_BatchWaits.l0 k2 l0 l1 a2 ji4 y220 (wrap64 (x9_2 + 1)) (mx x10_2 (Int.tmod (wrap64 ((Int.tmod (rd l0 x11_2) 50) + 50)) 50)) (wrap64 (x11_2 + 1))) else (coraclelaw17_BatchWaits.l0 k2 l0 l1 a2 ji4 y220 x9_2 x10_2 (wrap64 (x11_2 + 1)))) = some r := by first | (rw [hji18] at H; exact H) | (simp only [hji18] at H ⊢; exact H)
           (try rw [hji18] at A12)
           have hji18_ : (if (ji17) < 1 then 1 else (ji17)) = ji18 := hji18
           go_upto_region 14 with (first | ((with_reducible refine gate_callee (f := 25) rfl ?_); refine goesL_ (some 37) rfl rfl Try.func25 (by kernel_rfl) rfl #[.int .i64 x11_2, .int .i64 100000, .int .i64 50000] rfl (by (try simp only [List.map_toArray, List.map_cons, List.map_nil]); first | done | rfl | (simp only [List.length_drop, List.length_take]; rfl)) ?_; (with_reducible refine (coraclelaw17_one.calls x11_2 100000 50000 t173 t174 t175 t176 t177 t178 t179 t180 t181 t182 t183 t184 t185 t186 t187 t188 t189 t190 t191 t192 t193 t194 t195 t196 t197 t198 t199 t200 t201 t202 t203 t204 t205 t206 t207 t208 t209 t210 t211 t212 t213 t214 t215 t216 _ A12.out).mono ?_); rintro e w21 ⟨rfl, hb⟩; refine ⟨_, rfl, ?_⟩; have n0_ := Aside0.mk (Kd.R_below (by (with_reducible repeat (first | apply Kd.R_alloc | apply Kd.R_drewN | apply Kd.R_drew)); exact HO_8.out) hb); have n1_ := Aside0.mk (below_step (by repeat (first | (with_reducible first | exact HB.out | apply below_alloc | apply pw_below_drewN | apply below_drew1) | exact HB.out)) hb); clear HO_8; clear HB; have HO_8 := n0_; have HB := n1_; clear n0_ n1_; (try clear hb); (try clear hb2); (try clear hk); (try clear hi)) | ((with_reducible refine gate_dst (N := 12) rfl ?_); (try (refine gate_guard (by rfl) ?_; dsimp only)); refine Fill.fill_event (N := 12) (x := 37) (cs := #[.int .u8 t173, .int .u8 t174, .int .u8 t175, .int .u8 t176, .int .u8 t177, .int .u8 t178, .int .u8 t179, .int .u8 t180, .int .u8 t181, .int .u8 t182, .int .u8 t183, .int .u8 t184, .int .u8 t185, .int .u8 t186, .int .u8 t187, .int .u8 t188, .int .u8 t189, .int .u8 t190, .int .u8 t191, .int .u8 t192, .int .u8 t193, .int .u8 t194, .int .u8 t195, .int .u8 t196, .int .u8 t197, .int .u8 t198, .int .u8 t199, .int .u8 t200, .int .u8 t201, .int .u8 t202, .int .u8 t203, .int .u8 t204, .int .i64 t205, .int .i64 t206, .int .i64 t207, .int .i64 t208, .string t209, .int .i64 t210, .int .i64 t211, .int .i64 t212, .int .i64 t213, .int .i64 t214, .int .i64 t215, .int .i64 t216]) (t := 68) rfl rfl rfl rfl rfl rfl Try.zeroValue68 Try.sizeOf68 rfl rfl (fun _ => rfl) (fun _ => rfl) ?_; intro gb217 hg w22 hbox hb; have n0_ := Aside0.mk (Kd.R_below (Kd.R_elderB (by (with_reducible repeat (first | apply Kd.R_alloc | apply Kd.R_drewN | apply Kd.R_drew)); exact HO_8.out) gb217 (Nat.le_of_eq hg.symm)) hb); have n1_ := Aside0.mk (below_step (by repeat (first | (with_reducible first | exact HB.out | apply below_alloc | apply pw_below_drewN | apply below_drew1) | exact HB.out)) hb); have n2_ := Aside0.mk (hbox); have n3_ := Aside0.mk ((by rw [hg]; exact (below_size (by repeat (first | (with_reducible first | exact HB.out | apply below_alloc | apply pw_below_drewN | apply below_drew1) | exact HB.out))) : w.heap.size ≤ gb217)); have n4_ := Aside0.mk ((by rw [hg]; exact (below_size (by repeat (first | (with_reducible first | exact HB.out | apply below_alloc | apply pw_below_drewN | apply below_drew1) | exact HB.out))) : w.heap.size ≤ gb217)); clear HO_8; clear HB; have HO_8 := n0_; have HB := n1_; have BK217 := n2_; have GW217 := n3_; have GE217 := n4_; clear n0_ n1_ n2_ n3_ n4_; clear hb hbox hg; have hq3_ : ∀ a_ b_ c_ : Value, Wide.cellsAt (((w22.setCell ⟨gb217, 42, none⟩ a_).setCell ⟨gb217, 38, none⟩ b_).setCell ⟨gb217, 39, none⟩ c_) ⟨gb217, 0, none⟩ 44 = some [.int .u8 t173, .int .u8 t174, .int .u8 t175, .int .u8 t176, .int .u8 t177, .int .u8 t178, .int .u8 t179, .int .u8 t180, .int .u8 t181, .int .u8 t182, .int .u8 t183, .int .u8 t184, .int .u8 t185, .int .u8 t186, .int .u8 t187, .int .u8 t188, .int .u8 t189, .int .u8 t190, .int .u8 t191, .int .u8 t192, .int .u8 t193, .int .u8 t194, .int .u8 t195, .int .u8 t196, .int .u8 t197, .int .u8 t198, .int .u8 t199, .int .u8 t200, .int .u8 t201, .int .u8 t202, .int .u8 t203, .int .u8 t204, .int .i64 t205, .int .i64 t206, .int .i64 t207, .int .i64 t208, .string t209, .int .i64 t210, b_, c_, .int .i64 t213, .int .i64 t214, a_, .int .i64 t216] := fun a_ b_ c_ => wide_at (blk_put (blk_put (blk_put BK217.out 42 a_ rfl) 38 b_ rfl) 39 c_ rfl) rfl; have hcz23_0 : w22.cell? ⟨gb217, 0, none⟩ = some (.int .u8 t173) := (blk_cell BK217.out 0).trans rfl; have hcz23_1 : w22.cell? ⟨gb217, 1, none⟩ = some (.int .u8 t174) := (blk_cell BK217.out 1).trans rfl; have hcz23_2 : w22.cell? ⟨gb217, 2, none⟩ = some (.int .u8 t175) := (blk_cell BK217.out 2).trans rfl; have hcz23_3 : w22.cell? ⟨gb217, 3, none⟩ = some (.int .u8 t176) := (blk_cell BK217.out 3).trans rfl; have hcz23_4 : w22.cell? ⟨gb217, 4, none⟩ = some (.int .u8 t177) := (blk_cell BK217.out 4).trans rfl; have hcz23_5 : w22.cell? ⟨gb217, 5, none⟩ = some (.int .u8 t178) := (blk_cell BK217.out 5).trans rfl; have hcz23_6 : w22.cell? ⟨gb217, 6, none⟩ = some (.int .u8 t179) := (blk_cell BK217.out 6).trans rfl; have hcz23_7 : w22.cell? ⟨gb217, 7, none⟩ = some (.int .u8 t180) := (blk_cell BK217.out 7).trans rfl; have hcz23_8 : w22.cell? ⟨gb217, 8, none⟩ = some (.int .u8 t181) := (blk_cell BK217.out 8).trans rfl; have hcz23_9 : w22.cell? ⟨gb217, 9, none⟩ = some (.int .u8 t182) := (blk_cell BK217.out 9).trans rfl; have hcz23_10 : w22.cell? ⟨gb217, 10, none⟩ = some (.int .u8 t183) := (blk_cell BK217.out 10).trans rfl; have hcz23_11 : w22.cell? ⟨gb217, 11, none⟩ = some (.int .u8 t184) := (blk_cell BK217.out 11).trans rfl; have hcz23_12 : w22.cell? ⟨gb217, 12, none⟩ = some (.int .u8 t185) := (blk_cell BK217.out 12).trans rfl; have hcz23_13 : w22.cell? ⟨gb217, 13, none⟩ = some (.int .u8 t186) := (blk_cell BK217.out 13).trans rfl; have hcz23_14 : w22.cell? ⟨gb217, 14, none⟩ = some (.int .u8 t187) := (blk_cell BK217.out 14).trans rfl; have hcz23_15 : w22.cell? ⟨gb217, 15, none⟩ = some (.int .u8 t188) := (blk_cell BK217.out 15).trans rfl; have hcz23_16 : w22.cell? ⟨gb217, 16, none⟩ = some (.int .u8 t189) := (blk_cell BK217.out 16).trans rfl; have hcz23_17 : w22.cell? ⟨gb217, 17, none⟩ = some (.int .u8 t190) := (blk_cell BK217.out 17).trans rfl; have hcz23_18 : w22.cell? ⟨gb217, 18, none⟩ = some (.int .u8 t191) := (blk_cell BK217.out 18).trans rfl; have hcz23_19 : w22.cell? ⟨gb217, 19, none⟩ = some (.int .u8 t192) := (blk_cell BK217.out 19).trans rfl; have hcz23_20 : w22.cell? ⟨gb217, 20, none⟩ = some (.int .u8 t193) := (blk_cell BK217.out 20).trans rfl; have hcz23_21 : w22.cell? ⟨gb217, 21, none⟩ = some (.int .u8 t194) := (blk_cell BK217.out 21).trans rfl; have hcz23_22 : w22.cell? ⟨gb217, 22, none⟩ = some (.int .u8 t195) := (blk_cell BK217.out 22).trans rfl; have hcz23_23 : w22.cell? ⟨gb217, 23, none⟩ = some (.int .u8 t196) := (blk_cell BK217.out 23).trans rfl; have hcz23_24 : w22.cell? ⟨gb217, 24, none⟩ = some (.int .u8 t197) := (blk_cell BK217.out 24).trans rfl; have hcz23_25 : w22.cell? ⟨gb217, 25, none⟩ = some (.int .u8 t198) := (blk_cell BK217.out 25).trans rfl; have hcz23_26 : w22.cell? ⟨gb217, 26, none⟩ = some (.int .u8 t199) := (blk_cell BK217.out 26).trans rfl; have hcz23_27 : w22.cell? ⟨gb217, 27, none⟩ = some (.int .u8 t200) := (blk_cell BK217.out 27).trans rfl; have hcz23_28 : w22.cell? ⟨gb217, 28, none⟩ = some (.int .u8 t201) := (blk_cell BK217.out 28).trans rfl; have hcz23_29 : w22.cell? ⟨gb217, 29, none⟩ = some (.int .u8 t202) := (blk_cell BK217.out 29).trans rfl; have hcz23_30 : w22.cell? ⟨gb217, 30, none⟩ = some (.int .u8 t203) := (blk_cell BK217.out 30).trans rfl; have hcz23_31 : w22.cell? ⟨gb217, 31, none⟩ = some (.int .u8 t204) := (blk_cell BK217.out 31).trans rfl; have hcz23_32 : w22.cell? ⟨gb217, 32, none⟩ = some (.int .i64 t205) := (blk_cell BK217.out 32).trans rfl; have hcz23_33 : w22.cell? ⟨gb217, 33, none⟩ = some (.int .i64 t206) := (blk_cell BK217.out 33).trans rfl; have hcz23_34 : w22.cell? ⟨gb217, 34, none⟩ = some (.int .i64 t207) := (blk_cell BK217.out 34).trans rfl; have hcz23_35 : w22.cell? ⟨gb217, 35, none⟩ = some (.int .i64 t208) := (blk_cell BK217.out 35).trans rfl; have hcz23_36 : w22.cell? ⟨gb217, 36, none⟩ = some (.string t209) := (blk_cell BK217.out 36).trans rfl; have hcz23_37 : w22.cell? ⟨gb217, 37, none⟩ = some (.int .i64 t210) := (blk_cell BK217.out 37).trans rfl; have hcz23_38 : w22.cell? ⟨gb217, 38, none⟩ = some (.int .i64 t211) := (blk_cell BK217.out 38).trans rfl; have hcz23_39 : w22.cell? ⟨gb217, 39, none⟩ = some (.int .i64 t212) := (blk_cell BK217.out 39).trans rfl; have hcz23_40 : w22.cell? ⟨gb217, 40, none⟩ = some (.int .i64 t213) := (blk_cell BK217.out 40).trans rfl; have hcz23_41 : w22.cell? ⟨gb217, 41, none⟩ = some (.int .i64 t214) := (blk_cell BK217.out 41).trans rfl; have hcz23_42 : w22.cell? ⟨gb217, 42, none⟩ = some (.int .i64 t215) := (blk_cell BK217.out 42).trans rfl; have hcz23_43 : w22.cell? ⟨gb217, 43, none⟩ = some (.int .i64 t216) := (blk_cell BK217.out 43).trans rfl; have hwz23_0_32 := Wide.mk32 (a := ⟨gb217, 0, none⟩) hcz23_0 hcz23_1 hcz23_2 hcz23_3 hcz23_4 hcz23_5 hcz23_6 hcz23_7 hcz23_8 hcz23_9 hcz23_10 hcz23_11 hcz23_12 hcz23_13 hcz23_14 hcz23_15 hcz23_16 hcz23_17 hcz23_18 hcz23_19 hcz23_20 hcz23_21 hcz23_22 hcz23_23 hcz23_24 hcz23_25 hcz23_26 hcz23_27 hcz23_28 hcz23_29 hcz23_30 hcz23_31; have hwz23_0_33 := Wide.mk33 (a := ⟨gb217, 0, none⟩) hcz23_0 hcz23_1 hcz23_2 hcz23_3 hcz23_4 hcz23_5 hcz23_6 hcz23_7 hcz23_8 hcz23_9 hcz23_10 hcz23_11 hcz23_12 hcz23_13 hcz23_14 hcz23_15 hcz23_16 hcz23_17 hcz23_18 hcz23_19 hcz23_20 hcz23_21 hcz23_22 hcz23_23 hcz23_24 hcz23_25 hcz23_26 hcz23_27 hcz23_28 hcz23_29 hcz23_30 hcz23_31 hcz23_32; have hwz23_0_44 := Wide.mk44 (a := ⟨gb217, 0, none⟩) hcz23_0 hcz23_1 hcz23_2 hcz23_3 hcz23_4 hcz23_5 hcz23_6 hcz23_7 hcz23_8 hcz23_9 hcz23_10 hcz23_11 hcz23_12 hcz23_13 hcz23_14 hcz23_15 hcz23_16 hcz23_17 hcz23_18 hcz23_19 hcz23_20 hcz23_21 hcz23_22 hcz23_23 hcz23_24 hcz23_25 hcz23_26 hcz23_27 hcz23_28 hcz23_29 hcz23_30 hcz23_31 hcz23_32 hcz23_33 hcz23_34 hcz23_35 hcz23_36 hcz23_37 hcz23_38 hcz23_39 hcz23_40 hcz23_41 hcz23_42 hcz23_43; have hfz23_0 := blk_frozen BK217.out 0; have hfz23_1 := blk_frozen BK217.out 1; have hfz23_2 := blk_frozen BK217.out 2; have hfz23_3 := blk_frozen BK217.out 3; have hfz23_4 := blk_frozen BK217.out 4; have hfz23_5 := blk_frozen BK217.out 5; have hfz23_6 := blk_frozen BK217.out 6; have hfz23_7 := blk_frozen BK217.out 7; have hfz23_8 := blk_frozen BK217.out 8; have hfz23_9 := blk_frozen BK217.out 9; have hfz23_10 := blk_frozen BK217.out 10; have hfz23_11 := blk_frozen BK217.out 11; have hfz23_12 := blk_frozen BK217.out 12; have hfz23_13 := blk_frozen BK217.out 13; have hfz23_14 := blk_frozen BK217.out 14; have hfz23_15 := blk_frozen BK217.out 15; have hfz23_16 := blk_frozen BK217.out 16; have hfz23_17 := blk_frozen BK217.out 17; have hfz23_18 := blk_frozen BK217.out 18; have hfz23_19 := blk_frozen BK217.out 19; have hfz23_20 := blk_frozen BK217.out 20; have hfz23_21 := blk_frozen BK217.out 21; have hfz23_22 := blk_frozen BK217.out 22; have hfz23_23 := blk_frozen BK217.out 23; have hfz23_24 := blk_frozen BK217.out 24; have hfz23_25 := blk_frozen BK217.out 25; have hfz23_26 := blk_frozen BK217.out 26; have hfz23_27 := blk_frozen BK217.out 27; have hfz23_28 := blk_frozen BK217.out 28; have hfz23_29 := blk_frozen BK217.out 29; have hfz23_30 := blk_frozen BK217.out 30; have hfz23_31 := blk_frozen BK217.out 31; have hfz23_32 := blk_frozen BK217.out 32; have hfz23_33 := blk_frozen BK217.out 33; have hfz23_34 := blk_frozen BK217.out 34; have hfz23_35 := blk_frozen BK217.out 35; have hfz23_36 := blk_frozen BK217.out 36; have hfz23_37 := blk_frozen BK217.out 37; have hfz23_38 := blk_frozen BK217.out 38; have hfz23_39 := blk_frozen BK217.out 39; have hfz23_40 := blk_frozen BK217.out 40; have hfz23_41 := blk_frozen BK217.out 41; have hfz23_42 := blk_frozen BK217.out 42; have hfz23_43 := blk_frozen BK217.out 43; have p218 : 0 ≤ (x11_2 : Int) := of_decide_eq_true (by first | (with_reducible assumption) | assumption); have q218 : x11_2 < (l0.length : Int) := of_decide_eq_true (by first | (with_reducible assumption) | assumption); obtain ⟨ad218, e218, hx218_0⟩ := Kd.at_int HR0.out x11_2 p218 q218; cases e218; have hn218_0 : ad218.block ≠ gb217 := Nat.ne_of_lt (Nat.lt_of_lt_of_le (by have := World.block_lt_of_cell? _ _ hx218_0; first | rwa [add_block] at this | exact this) GW217.out); replace hx218_0 := (HB.out.cell (World.block_lt_of_cell? w _ hx218_0)).trans hx218_0; replace hx218_0 := (cell_far (p := ⟨gb217, 42, none⟩) (by first | (rw [add_block]; exact hn218_0) | (show (Addr.add _ _).block ≠ _; rw [add_block]; exact hn218_0) | exact hn218_0) (.int .i64 100)).trans hx218_0; clear hn218_0; replace p218 := eq_true p218; replace q218 := eq_true q218; have p219 : 0 ≤ (x11_2 : Int) := of_decide_eq_true (by first | (with_reducible assumption) | assumption); have q219 : x11_2 < (l1.length : Int) := of_decide_eq_true (by first | (with_reducible assumption) | assumption); obtain ⟨ad219, e219, hx219_0⟩ := Kd.at_int HR1.out x11_2 p219 q219; cases e219; have hn219_0 : ad219.block ≠ gb217 := Nat.ne_of_lt (Nat.lt_of_lt_of_le (by have := World.block_lt_of_cell? _ _ hx219_0; first | rwa [add_block] at this | exact this) GW217.out); have hn219_1 : ad219.block ≠ gb217 := Nat.ne_of_lt (Nat.lt_of_lt_of_le (by have := World.block_lt_of_cell? _ _ hx219_0; first | rwa [add_block] at this | exact this) GW217.out); replace hx219_0 := (HB.out.cell (World.block_lt_of_cell? w _ hx219_0)).trans hx219_0; replace hx219_0 := (cell_far (p := ⟨gb217, 42, none⟩) (by first | (rw [add_block]; exact hn219_0) | (show (Addr.add _ _).block ≠ _; rw [add_block]; exact hn219_0) | exact hn219_0) (.int .i64 100)).trans hx219_0; replace hx219_0 := (cell_far (p := ⟨gb217, 38, none⟩) (by first | (rw [add_block]; exact hn219_1) | (show (Addr.add _ _).block ≠ _; rw [add_block]; exact hn219_1) | exact hn219_1) (.int .i64 (Int.tmod (wrap64 ((Int.tmod (rd l0 x11_2) 50) + 50)) 50))).trans hx219_0; clear hn219_0; clear hn219_1; replace p219 := eq_true p219; replace q219 := eq_true q219) | ((with_reducible refine gate_builtin (b := .append) (xs := #[.tmp 57, .tmp 59]) rfl ?_); (try (refine gate_guard (by rfl) ?_; dsimp only)); at_builtin; refine Kd.R_append k68 (w0 := w) w.heap.size rfl (.tmp 57) (.tmp 59) 52 68 (.agg #[(.int .u8 0), (.int .u8 0), (.int .u8 0), (.int .u8 0), (.int .u8 0), (.int .u8 0), (.int .u8 0), (.int .u8 0), (.int .u8 0), (.int .u8 0), (.int .u8 0), (.int .u8 0), (.int .u8 0), (.int .u8 0), (.int .u8 0), (.int .u8 0), (.int .u8 0), (.int .u8 0), (.int .u8 0), (.int .u8 0), (.int .u8 0), (.int .u8 0), (.int .u8 0), (.int .u8 0), (.int .u8 0), (.int .u8 0), (.int .u8 0), (.int .u8 0), (.int .u8 0), (.int .u8 0), (.int .u8 0), (.int .u8 0), (.int .i64 0), (.int .i64 0), (.int .i64 0), (.int .i64 0), (.string ⟨#[]⟩), (.int .i64 0), (.int .i64 0), (.int .i64 0), (.int .i64 0), (.int .i64 0), (.int .i64 0), (.int .i64 0)]) 136 rfl Try.underlying52 info68 rfl (by decide) (by omega) u8 x8_2 (⟨(⟨(⟨t173, t174, t175, t176, t177, t178, t179, t180, t181, t182, t183, t184, t185, t186, t187, t188, t189, t190, t191, t192, t193, t194, t195, t196, t197, t198, t199, t200, t201, t202, t203, t204⟩ : S32), t205⟩ : S34), t206, (⟨(⟨t207, t208, t209⟩ : S36), t210, Int.tmod (wrap64 ((Int.tmod (rd l0 x11_2) 50) + 50)) 50, Int.tmod (wrap64 ((Int.tmod (rd l1 x11_2) 50) + 50)) 50⟩ : S66), t213, t214, 100, t216⟩ : S68) (.int .u8 t173 :: .int .u8 t174 :: .int .u8 t175 :: .int .u8 t176 :: .int .u8 t177 :: .int .u8 t178 :: .int .u8 t179 :: .int .u8 t180 :: .int .u8 t181 :: .int .u8 t182 :: .int .u8 t183 :: .int .u8 t184 :: .int .u8 t185 :: .int .u8 t186 :: .int .u8 t187 :: .int .u8 t188 :: .int .u8 t189 :: .int .u8 t190 :: .int .u8 t191 :: .int .u8 t192 :: .int .u8 t193 :: .int .u8 t194 :: .int .u8 t195 :: .int .u8 t196 :: .int .u8 t197 :: .int .u8 t198 :: .int .u8 t199 :: .int .u8 t200 :: .int .u8 t201 :: .int .u8 t202 :: .int .u8 t203 :: .int .u8 t204 :: .int .i64 t205 :: .int .i64 t206 :: .int .i64 t207 :: .int .i64 t208 :: .string t209 :: .int .i64 t210 :: .int .i64 (Int.tmod (wrap64 ((Int.tmod (rd l0 x11_2) 50) + 50)) 50) :: .int .i64 (Int.tmod (wrap64 ((Int.tmod (rd l1 x11_2) 50) + 50)) 50) :: .int .i64 t213 :: .int .i64 t214 :: .int .i64 100 :: .int .i64 t216 :: []) (fun k_ => k_ ≠ gb217) (fun _ => False) rfl (by first | (go_simp; done) | (go_simp; rfl)) ?aP (fun _ hk => hk.elim) ?aF ?aO ?aB ?aS ?aL ?_; (case aP => exact k68_mkM _ _ _ (⟨(⟨(⟨t173, t174, t175, t176, t177, t178, t179, t180, t181, t182, t183, t184, t185, t186, t187, t188, t189, t190, t191, t192, t193, t194, t195, t196, t197, t198, t199, t200, t201, t202, t203, t204⟩ : S32), t205⟩ : S34), t206, (⟨(⟨t207, t208, t209⟩ : S36), t210, Int.tmod (wrap64 ((Int.tmod (rd l0 x11_2) 50) + 50)) 50, Int.tmod (wrap64 ((Int.tmod (rd l1 x11_2) 50) + 50)) 50⟩ : S66), t213, t214, 100, t216⟩ : S68)); (case aB => exact (by repeat (first | (with_reducible first | exact HB.out | apply below_alloc | apply pw_below_drewN | apply below_drew1 | refine below_set ?_ GE217.out) | exact HB.out))); (case aF => exact (fun k_ hk => Kd.freshB (g := gb217) (o := .cells #[.int .u8 t173, .int .u8 t174, .int .u8 t175, .int .u8 t176, .int .u8 t177, .int .u8 t178, .int .u8 t179, .int .u8 t180, .int .u8 t181, .int .u8 t182, .int .u8 t183, .int .u8 t184, .int .u8 t185, .int .u8 t186, .int .u8 t187, .int .u8 t188, .int .u8 t189, .int .u8 t190, .int .u8 t191, .int .u8 t192, .int .u8 t193, .int .u8 t194, .int .u8 t195, .int .u8 t196, .int .u8 t197, .int .u8 t198, .int .u8 t199, .int .u8 t200, .int .u8 t201, .int .u8 t202, .int .u8 t203, .int .u8 t204, .int .i64 t205, .int .i64 t206, .int .i64 t207, .int .i64 t208, .string t209, .int .i64 t210, .int .i64 (Int.tmod (wrap64 ((Int.tmod (rd l0 x11_2) 50) + 50)) 50), .int .i64 (Int.tmod (wrap64 ((Int.tmod (rd l1 x11_2) 50) + 50)) 50), .int .i64 t213, .int .i64 t214, .int .i64 100, .int .i64 t216] 68 (0, 0)) (by (with_reducible repeat (first | refine blk_drewN ?_ _ | refine blk_drew ?_ | refine blk_alloc ?_ _)); refine blk_put (cs := #[.int .u8 t173, .int .u8 t174, .int .u8 t175, .int .u8 t176, .int .u8 t177, .int .u8 t178, .int .u8 t179, .int .u8 t180, .int .u8 t181, .int .u8 t182, .int .u8 t183, .int .u8 t184, .int .u8 t185, .int .u8 t186, .int .u8 t187, .int .u8 t188, .int .u8 t189, .int .u8 t190, .int .u8 t191, .int .u8 t192, .int .u8 t193, .int .u8 t194, .int .u8 t195, .int .u8 t196, .int .u8 t197, .int .u8 t198, .int .u8 t199, .int .u8 t200, .int .u8 t201, .int .u8 t202, .int .u8 t203, .int .u8 t204, .int .i64 t205, .int .i64 t206, .int .i64 t207, .int .i64 t208, .string t209, .int .i64 t210, .int .i64 (Int.tmod (wrap64 ((Int.tmod (rd l0 x11_2) 50) + 50)) 50), .int .i64 t212, .int .i64 t213, .int .i64 t214, .int .i64 100, .int .i64 t216]) ?_ 39 _ rfl; (with_reducible repeat (first | refine blk_drewN ?_ _ | refine blk_drew ?_ | refine blk_alloc ?_ _)); refine blk_put (cs := #[.int .u8 t173, .int .u8 t174, .int .u8 t175, .int .u8 t176, .int .u8 t177, .int .u8 t178, .int .u8 t179, .int .u8 t180, .int .u8 t181, .int .u8 t182, .int .u8 t183, .int .u8 t184, .int .u8 t185, .int .u8 t186, .int .u8 t187, .int .u8 t188, .int .u8 t189, .int .u8 t190, .int .u8 t191, .int .u8 t192, .int .u8 t193, .int .u8 t194, .int .u8 t195, .int .u8 t196, .int .u8 t197, .int .u8 t198, .int .u8 t199, .int .u8 t200, .int .u8 t201, .int .u8 t202, .int .u8 t203, .int .u8 t204, .int .i64 t205, .int .i64 t206, .int .i64 t207, .int .i64 t208, .string t209, .int .i64 t210, .int .i64 t211, .int .i64 t212, .int .i64 t213, .int .i64 t214, .int .i64 100, .int .i64 t216]) ?_ 38 _ rfl; (with_reducible repeat (first | refine blk_drewN ?_ _ | refine blk_drew ?_ | refine blk_alloc ?_ _)); refine blk_put (cs := #[.int .u8 t173, .int .u8 t174, .int .u8 t175, .int .u8 t176, .int .u8 t177, .int .u8 t178, .int .u8 t179, .int .u8 t180, .int .u8 t181, .int .u8 t182, .int .u8 t183, .int .u8 t184, .int .u8 t185, .int .u8 t186, .int .u8 t187, .int .u8 t188, .int .u8 t189, .int .u8 t190, .int .u8 t191, .int .u8 t192, .int .u8 t193, .int .u8 t194, .int .u8 t195, .int .u8 t196, .int .u8 t197, .int .u8 t198, .int .u8 t199, .int .u8 t200, .int .u8 t201, .int .u8 t202, .int .u8 t203, .int .u8 t204, .int .i64 t205, .int .i64 t206, .int .i64 t207, .int .i64 t208, .string t209, .int .i64 t210, .int .i64 t211, .int .i64 t212, .int .i64 t213, .int .i64 t214, .int .i64 t215, .int .i64 t216]) ?_ 42 _ rfl; (with_reducible repeat (first | refine blk_drewN ?_ _ | refine blk_drew ?_ | refine blk_alloc ?_ _)); exact BK217.out) k_ hk)); (case aO => exact (by (with_reducible repeat (first | apply Kd.R_alloc | apply Kd.R_drewN | apply Kd.R_drew)); exact Kd.R_mono (Kd.R_far (p := ⟨gb217, 39, none⟩) (Kd.R_far (p := ⟨gb217, 38, none⟩) (Kd.R_far (p := ⟨gb217, 42, none⟩) (Kd.R_mono HO_8.out (fun k_ hk => (⟨hk, hk.2⟩ : _ ∧ k_ ≠ gb217))) (fun _ hk => hk.2) (.int .i64 100)) (fun _ hk => hk.2) (.int .i64 (Int.tmod (wrap64 ((Int.tmod (rd l0 x11_2) 50) + 50)) 50))) (fun _ hk => hk.2) (.int .i64 (Int.tmod (wrap64 ((Int.tmod (rd l1 x11_2) 50) + 50)) 50))) (fun _ hk => hk.1.2))); (case aS => exact (below_size (by repeat (first | (with_reducible first | exact HB.out | apply below_alloc | apply pw_below_drewN | apply below_drew1 | refine below_set ?_ GE217.out) | exact HB.out)))); (case aL => have := LMc16.out; omega); intro v221 w24 ho hb hg hat; rw [← Ny220.out] at ho; have n0_ := Aside0.mk (blk_grown (g := gb217) (o := .cells #[.int .u8 t173, .int .u8 t174, .int .u8 t175, .int .u8 t176, .int .u8 t177, .int .u8 t178, .int .u8 t179, .int .u8 t180, .int .u8 t181, .int .u8 t182, .int .u8 t183, .int .u8 t184, .int .u8 t185, .int .u8 t186, .int .u8 t187, .int .u8 t188, .int .u8 t189, .int .u8 t190, .int .u8 t191, .int .u8 t192, .int .u8 t193, .int .u8 t194, .int .u8 t195, .int .u8 t196, .int .u8 t197, .int .u8 t198, .int .u8 t199, .int .u8 t200, .int .u8 t201, .int .u8 t202, .int .u8 t203, .int .u8 t204, .int .i64 t205, .int .i64 t206, .int .i64 t207, .int .i64 t208, .string t209, .int .i64 t210, .int .i64 (Int.tmod (wrap64 ((Int.tmod (rd l0 x11_2) 50) + 50)) 50), .int .i64 (Int.tmod (wrap64 ((Int.tmod (rd l1 x11_2) 50) + 50)) 50), .int .i64 t213, .int .i64 t214, .int .i64 100, .int .i64 t216] 68 (0, 0)) (by (with_reducible repeat (first | refine blk_drewN ?_ _ | refine blk_drew ?_ | refine blk_alloc ?_ _)); refine blk_put (cs := #[.int .u8 t173, .int .u8 t174, .int .u8 t175, .int .u8 t176, .int .u8 t177, .int .u8 t178, .int .u8 t179, .int .u8 t180, .int .u8 t181, .int .u8 t182, .int .u8 t183, .int .u8 t184, .int .u8 t185, .int .u8 t186, .int .u8 t187, .int .u8 t188, .int .u8 t189, .int .u8 t190, .int .u8 t191, .int .u8 t192, .int .u8 t193, .int .u8 t194, .int .u8 t195, .int .u8 t196, .int .u8 t197, .int .u8 t198, .int .u8 t199, .int .u8 t200, .int .u8 t201, .int .u8 t202, .int .u8 t203, .int .u8 t204, .int .i64 t205, .int .i64 t206, .int .i64 t207, .int .i64 t208, .string t209, .int .i64 t210, .int .i64 (Int.tmod (wrap64 ((Int.tmod (rd l0 x11_2) 50) + 50)) 50), .int .i64 t212, .int .i64 t213, .int .i64 t214, .int .i64 100, .int .i64 t216]) ?_ 39 _ rfl; (with_reducible repeat (first | refine blk_drewN ?_ _ | refine blk_drew ?_ | refine blk_alloc ?_ _)); refine blk_put (cs := #[.int .u8 t173, .int .u8 t174, .int .u8 t175, .int .u8 t176, .int .u8 t177, .int .u8 t178, .int .u8 t179, .int .u8 t180, .int .u8 t181, .int .u8 t182, .int .u8 t183, .int .u8 t184, .int .u8 t185, .int .u8 t186, .int .u8 t187, .int .u8 t188, .int .u8 t189, .int .u8 t190, .int .u8 t191, .int .u8 t192, .int .u8 t193, .int .u8 t194, .int .u8 t195, .int .u8 t196, .int .u8 t197, .int .u8 t198, .int .u8 t199, .int .u8 t200, .int .u8 t201, .int .u8 t202, .int .u8 t203, .int .u8 t204, .int .i64 t205, .int .i64 t206, .int .i64 t207, .int .i64 t208, .string t209, .int .i64 t210, .int .i64 t211, .int .i64 t212, .int .i64 t213, .int .i64 t214, .int .i64 100, .int .i64 t216]) ?_ 38 _ rfl; (with_reducible repeat (first | refine blk_drewN ?_ _ | refine blk_drew ?_ | refine blk_alloc ?_ _)); refine blk_put (cs := #[.int .u8 t173, .int .u8 t174, .int .u8 t175, .int .u8 t176, .int .u8 t177, .int .u8 t178, .int .u8 t179, .int .u8 t180, .int .u8 t181, .int .u8 t182, .int .u8 t183, .int .u8 t184, .int .u8 t185, .int .u8 t186, .int .u8 t187, .int .u8 t188, .int .u8 t189, .int .u8 t190, .int .u8 t191, .int .u8 t192, .int .u8 t193, .int .u8 t194, .int .u8 t195, .int .u8 t196, .int .u8 t197, .int .u8 t198, .int .u8 t199, .int .u8 t200, .int .u8 t201, .int .u8 t202, .int .u8 t203, .int .u8 t204, .int .i64 t205, .int .i64 t206, .int .i64 t207, .int .i64 t208, .string t209, .int .i64 t210, .int .i64 t211, .int .i64 t212, .int .i64 t213, .int .i64 t214, .int .i64 t215, .int .i64 t216]) ?_ 42 _ rfl; (with_reducible repeat (first | refine blk_drewN ?_ _ | refine blk_drew ?_ | refine blk_alloc ?_ _)); exact BK217.out) hg (Kd.R_away HO_8.out (fun _ hk => hk.2))); have n1_ := Aside0.mk (hb); have n2_ := Aside0.mk (ho); clear BK217; clear HB; clear HO_8; have BK217 := n0_; have HB := n1_; have HO222 := n2_; clear n0_ n1_ n2_; clear ho hb hg hat; have hcz25_0 : w24.cell? ⟨gb217, 0, none⟩ = some (.int .u8 t173) := (blk_cell BK217.out 0).trans rfl; have hcz25_1 : w24.cell? ⟨gb217, 1, none⟩ = some (.int .u8 t174) := (blk_cell BK217.out 1).trans rfl; have hcz25_2 : w24.cell? ⟨gb217, 2, none⟩ = some (.int .u8 t175) := (blk_cell BK217.out 2).trans rfl; have hcz25_3 : w24.cell? ⟨gb217, 3, none⟩ = some (.int .u8 t176) := (blk_cell BK217.out 3).trans rfl; have hcz25_4 : w24.cell? ⟨gb217, 4, none⟩ = some (.int .u8 t177) := (blk_cell BK217.out 4).trans rfl; have hcz25_5 : w24.cell? ⟨gb217, 5, none⟩ = some (.int .u8 t178) := (blk_cell BK217.out 5).trans rfl; have hcz25_6 : w24.cell? ⟨gb217, 6, none⟩ = some (.int .u8 t179) := (blk_cell BK217.out 6).trans rfl; have hcz25_7 : w24.cell? ⟨gb217, 7, none⟩ = some (.int .u8 t180) := (blk_cell BK217.out 7).trans rfl; have hcz25_8 : w24.cell? ⟨gb217, 8, none⟩ = some (.int .u8 t181) := (blk_cell BK217.out 8).trans rfl; have hcz25_9 : w24.cell? ⟨gb217, 9, none⟩ = some (.int .u8 t182) := (blk_cell BK217.out 9).trans rfl; have hcz25_10 : w24.cell? ⟨gb217, 10, none⟩ = some (.int .u8 t183) := (blk_cell BK217.out 10).trans rfl; have hcz25_11 : w24.cell? ⟨gb217, 11, none⟩ = some (.int .u8 t184) := (blk_cell BK217.out 11).trans rfl; have hcz25_12 : w24.cell? ⟨gb217, 12, none⟩ = some (.int .u8 t185) := (blk_cell BK217.out 12).trans rfl; have hcz25_13 : w24.cell? ⟨gb217, 13, none⟩ = some (.int .u8 t186) := (blk_cell BK217.out 13).trans rfl; have hcz25_14 : w24.cell? ⟨gb217, 14, none⟩ = some (.int .u8 t187) := (blk_cell BK217.out 14).trans rfl; have hcz25_15 : w24.cell? ⟨gb217, 15, none⟩ = some (.int .u8 t188) := (blk_cell BK217.out 15).trans rfl; have hcz25_16 : w24.cell? ⟨gb217, 16, none⟩ = some (.int .u8 t189) := (blk_cell BK217.out 16).trans rfl; have hcz25_17 : w24.cell? ⟨gb217, 17, none⟩ = some (.int .u8 t190) := (blk_cell BK217.out 17).trans rfl; have hcz25_18 : w24.cell? ⟨gb217, 18, none⟩ = some (.int .u8 t191) := (blk_cell BK217.out 18).trans rfl; have hcz25_19 : w24.cell? ⟨gb217, 19, none⟩ = some (.int .u8 t192) := (blk_cell BK217.out 19).trans rfl; have hcz25_20 : w24.cell? ⟨gb217, 20, none⟩ = some (.int .u8 t193) := (blk_cell BK217.out 20).trans rfl; have hcz25_21 : w24.cell? ⟨gb217, 21, none⟩ = some (.int .u8 t194) := (blk_cell BK217.out 21).trans rfl; have hcz25_22 : w24.cell? ⟨gb217, 22, none⟩ = some (.int .u8 t195) := (blk_cell BK217.out 22).trans rfl; have hcz25_23 : w24.cell? ⟨gb217, 23, none⟩ = some (.int .u8 t196) := (blk_cell BK217.out 23).trans rfl; have hcz25_24 : w24.cell? ⟨gb217, 24, none⟩ = some (.int .u8 t197) := (blk_cell BK217.out 24).trans rfl; have hcz25_25 : w24.cell? ⟨gb217, 25, none⟩ = some (.int .u8 t198) := (blk_cell BK217.out 25).trans rfl; have hcz25_26 : w24.cell? ⟨gb217, 26, none⟩ = some (.int .u8 t199) := (blk_cell BK217.out 26).trans rfl; have hcz25_27 : w24.cell? ⟨gb217, 27, none⟩ = some (.int .u8 t200) := (blk_cell BK217.out 27).trans rfl; have hcz25_28 : w24.cell? ⟨gb217, 28, none⟩ = some (.int .u8 t201) := (blk_cell BK217.out 28).trans rfl; have hcz25_29 : w24.cell? ⟨gb217, 29, none⟩ = some (.int .u8 t202) := (blk_cell BK217.out 29).trans rfl; have hcz25_30 : w24.cell? ⟨gb217, 30, none⟩ = some (.int .u8 t203) := (blk_cell BK217.out 30).trans rfl; have hcz25_31 : w24.cell? ⟨gb217, 31, none⟩ = some (.int .u8 t204) := (blk_cell BK217.out 31).trans rfl; have hcz25_32 : w24.cell? ⟨gb217, 32, none⟩ = some (.int .i64 t205) := (blk_cell BK217.out 32).trans rfl; have hcz25_33 : w24.cell? ⟨gb217, 33, none⟩ = some (.int .i64 t206) := (blk_cell BK217.out 33).trans rfl; have hcz25_34 : w24.cell? ⟨gb217, 34, none⟩ = some (.int .i64 t207) := (blk_cell BK217.out 34).trans rfl; have hcz25_35 : w24.cell? ⟨gb217, 35, none⟩ = some (.int .i64 t208) := (blk_cell BK217.out 35).trans rfl; have hcz25_36 : w24.cell? ⟨gb217, 36, none⟩ = some (.string t209) := (blk_cell BK217.out 36).trans rfl; have hcz25_37 : w24.cell? ⟨gb217, 37, none⟩ = some (.int .i64 t210) := (blk_cell BK217.out 37).trans rfl; have hcz25_38 : w24.cell? ⟨gb217, 38, none⟩ = some (.int .i64 (Int.tmod (wrap64 ((Int.tmod (rd l0 x11_2) 50) + 50)) 50)) := (blk_cell BK217.out 38).trans rfl; have hcz25_39 : w24.cell? ⟨gb217, 39, none⟩ = some (.int .i64 (Int.tmod (wrap64 ((Int.tmod (rd l1 x11_2) 50) + 50)) 50)) := (blk_cell BK217.out 39).trans rfl; have hcz25_40 : w24.cell? ⟨gb217, 40, none⟩ = some (.int .i64 t213) := (blk_cell BK217.out 40).trans rfl; have hcz25_41 : w24.cell? ⟨gb217, 41, none⟩ = some (.int .i64 t214) := (blk_cell BK217.out 41).trans rfl; have hcz25_42 : w24.cell? ⟨gb217, 42, none⟩ = some (.int .i64 100) := (blk_cell BK217.out 42).trans rfl; have hcz25_43 : w24.cell? ⟨gb217, 43, none⟩ = some (.int .i64 t216) := (blk_cell BK217.out 43).trans rfl; have hwz25_0_32 := Wide.mk32 (a := ⟨gb217, 0, none⟩) hcz25_0 hcz25_1 hcz25_2 hcz25_3 hcz25_4 hcz25_5 hcz25_6 hcz25_7 hcz25_8 hcz25_9 hcz25_10 hcz25_11 hcz25_12 hcz25_13 hcz25_14 hcz25_15 hcz25_16 hcz25_17 hcz25_18 hcz25_19 hcz25_20 hcz25_21 hcz25_22 hcz25_23 hcz25_24 hcz25_25 hcz25_26 hcz25_27 hcz25_28 hcz25_29 hcz25_30 hcz25_31; have hwz25_0_33 := Wide.mk33 (a := ⟨gb217, 0, none⟩) hcz25_0 hcz25_1 hcz25_2 hcz25_3 hcz25_4 hcz25_5 hcz25_6 hcz25_7 hcz25_8 hcz25_9 hcz25_10 hcz25_11 hcz25_12 hcz25_13 hcz25_14 hcz25_15 hcz25_16 hcz25_17 hcz25_18 hcz25_19 hcz25_20 hcz25_21 hcz25_22 hcz25_23 hcz25_24 hcz25_25 hcz25_26 hcz25_27 hcz25_28 hcz25_29 hcz25_30 hcz25_31 hcz25_32; have hwz25_0_44 := Wide.mk44 (a := ⟨gb217, 0, none⟩) hcz25_0 hcz25_1 hcz25_2 hcz25_3 hcz25_4 hcz25_5 hcz25_6 hcz25_7 hcz25_8 hcz25_9 hcz25_10 hcz25_11 hcz25_12 hcz25_13 hcz25_14 hcz25_15 hcz25_16 hcz25_17 hcz25_18 hcz25_19 hcz25_20 hcz25_21 hcz25_22 hcz25_23 hcz25_24 hcz25_25 hcz25_26 hcz25_27 hcz25_28 hcz25_29 hcz25_30 hcz25_31 hcz25_32 hcz25_33 hcz25_34 hcz25_35 hcz25_36 hcz25_37 hcz25_38 hcz25_39 hcz25_40 hcz25_41 hcz25_42 hcz25_43; have hfz25_0 := blk_frozen BK217.out 0; have hfz25_1 := blk_frozen BK217.out 1; have hfz25_2 := blk_frozen BK217.out 2; have hfz25_3 := blk_frozen BK217.out 3; have hfz25_4 := blk_frozen BK217.out 4; have hfz25_5 := blk_frozen BK217.out 5; have hfz25_6 := blk_frozen BK217.out 6; have hfz25_7 := blk_frozen BK217.out 7; have hfz25_8 := blk_frozen BK217.out 8; have hfz25_9 := blk_frozen BK217.out 9; have hfz25_10 := blk_frozen BK217.out 10; have hfz25_11 := blk_frozen BK217.out 11; have hfz25_12 := blk_frozen BK217.out 12; have hfz25_13 := blk_frozen BK217.out 13; have hfz25_14 := blk_frozen BK217.out 14; have hfz25_15 := blk_frozen BK217.out 15; have hfz25_16 := blk_frozen BK217.out 16; have hfz25_17 := blk_frozen BK217.out 17; have hfz25_18 := blk_frozen BK217.out 18; have hfz25_19 := blk_frozen BK217.out 19; have hfz25_20 := blk_frozen BK217.out 20; have hfz25_21 := blk_frozen BK217.out 21; have hfz25_22 := blk_frozen BK217.out 22; have hfz25_23 := blk_frozen BK217.out 23; have hfz25_24 := blk_frozen BK217.out 24; have hfz25_25 := blk_frozen BK217.out 25; have hfz25_26 := blk_frozen BK217.out 26; have hfz25_27 := blk_frozen BK217.out 27; have hfz25_28 := blk_frozen BK217.out 28; have hfz25_29 := blk_frozen BK217.out 29; have hfz25_30 := blk_frozen BK217.out 30; have hfz25_31 := blk_frozen BK217.out 31; have hfz25_32 := blk_frozen BK217.out 32; have hfz25_33 := blk_frozen BK217.out 33; have hfz25_34 := blk_frozen BK217.out 34; have hfz25_35 := blk_frozen BK217.out 35; have hfz25_36 := blk_frozen BK217.out 36; have hfz25_37 := blk_frozen BK217.out 37; have hfz25_38 := blk_frozen BK217.out 38; have hfz25_39 := blk_frozen BK217.out 39; have hfz25_40 := blk_frozen BK217.out 40; have hfz25_41 := blk_frozen BK217.out 41; have hfz25_42 := blk_frozen BK217.out 42; have hfz25_43 := blk_frozen BK217.out 43))
           by_cases c19 : a2 ≥ (ji18)
           ·rw [if_pos c19] at H
            have c19b0 : decide ((ji18) ≤ a2) = true := decide_eq_true c19
            clear c19
            obtain ⟨ji20, hji20⟩ : ∃ j_ : Int, (mx x10_2 (Int.tmod (wrap64 ((Int.tmod (rd l0 x11_2) 50) + 50)) 50)) = j_ := ⟨_, rfl⟩
            replace H : (coraclelaw17_BatchWaits.l0 k2 l0 l1 a2 ji4 y220 (wrap64 (x9_2 + 1)) ji20 (wrap64 (x11_2 + 1))) = some r := by first | (rw [hji20] at H; exact H) | (simp only [hji20] at H ⊢; exact H)
            (try rw [hji20] at A12)
            have hji20_ : (if x10_2 < (Int.tmod (wrap64 ((Int.tmod (rd l0 x11_2) 50) + 50)) 50) then (Int.tmod (wrap64 ((Int.tmod (rd l0 x11_2) 50) + 50)) 50) else x10_2) = ji20 := hji20
            have H' := Aside0.mk H
            clear H
            go_wp2
            go_roundg k2
            case measure => have := HJ4.out; have := HK2.out; omega
            case rel => exact ⟨(y220), (wrap64 (x9_2 + 1)), (ji20), (wrap64 (x11_2 + 1)), (by first | rfl | (simp; done) | (simp [*]; done)), (by first | rfl | (simp; done) | (simp only [← hji20] <;> (first | rfl | simp)) | (simp [*]; done)), (by first | rfl | (simp; done) | (simp [*]; done)), H', ⟨by have := HJ4.out; have := HK2.out; omega⟩, ⟨by (with_reducible repeat (first | apply Kd.R_alloc | apply Kd.R_drewN | apply Kd.R_drew)); exact Kd.R_mono HO222.out (fun _ hk => trivial)⟩, ⟨by repeat (first | (with_reducible first | exact HB.out | apply below_alloc | apply pw_below_drewN | apply below_drew1 | refine below_set ?_ GE217.out) | exact HB.out)⟩⟩
           ·rw [if_neg c19] at H
            have c19b0 : decide ((ji18) ≤ a2) = false := decide_eq_false c19
            clear c19
            have H' := Aside0.mk H
            clear H
            go_wp2
            go_roundg k2
            case measure => have := HJ4.out; have := HK2.out; omega
            case rel => exact ⟨(y220), (x9_2), (x10_2), (wrap64 (x11_2 + 1)), (by first | rfl | (simp; done) | (simp [*]; done)), (by first | rfl | (simp; done) | (simp [*]; done)), (by first | rfl | (simp; done) | (simp [*]; done)), H', ⟨by have := HJ4.out; have := HK2.out; omega⟩, ⟨by (with_reducible repeat (first | apply Kd.R_alloc | apply Kd.R_drewN | apply Kd.R_drew)); exact Kd.R_mono HO222.out (fun _ hk => trivial)⟩, ⟨by repeat (first | (with_reducible first | exact HB.out | apply below_alloc | apply pw_below_drewN | apply below_drew1 | refine below_set ?_ GE217.out) | exact HB.out)⟩⟩
          ·rw [if_neg c16] at H
           exact absurd H (by simp)
         ·rw [if_neg c15] at H
          exact absurd H (by simp)
        ·rw [if_neg c14] at H
         exact absurd H (by simp)
       ·rw [if_neg c13] at H
        exact absurd H (by simp)
      ·rw [if_neg c11] at H
       have c11b0 : decide (x11_2 < ji4) = false := decide_eq_false c11
       clear c11
       replace H := Option.bind_eq_some_iff.mp H
       obtain ⟨t223, A310, H⟩ := H
       replace H : ((batch_All.f t223 a2 400000 1).bind fun bt226 => (if bt226.2 = 0 then (coraclelaw17_BatchWaits.j2 k2 a2 x8_2 x9_2 x10_2 bt226.1 ((bt226.1.length : Int) != (mn x9_2 1))) else (coraclelaw17_BatchWaits.j2 k2 a2 x8_2 x9_2 x10_2 bt226.1 true))) = some r := H
       have A31 := Aside0.mk A310
       clear A310
       replace H := Option.bind_eq_some_iff.mp H
       obtain ⟨⟨t226, t227⟩, A320, H⟩ := H
       replace H : (if t227 = 0 then (coraclelaw17_BatchWaits.j2 k2 a2 x8_2 x9_2 x10_2 t226 ((t226.length : Int) != (mn x9_2 1))) else (coraclelaw17_BatchWaits.j2 k2 a2 x8_2 x9_2 x10_2 t226 true)) = some r := H
       have A32 := Aside0.mk A320
       clear A320
       have HC33 := Aside0.mk H
       clear H
       obtain ⟨Ao34, co34, eo34⟩ := Kd.R_slice HO_8.out
       subst eo34
       go_upto_region 18 with (first | ((with_reducible refine gate_callee (f := 20) rfl ?_); refine goesL_ (some 79) rfl rfl Try.func20 (by kernel_rfl) rfl #[.slice Ao34 x8_2.length co34] rfl (by (try simp only [List.map_toArray, List.map_cons, List.map_nil]); first | done | rfl | (simp only [List.length_drop, List.length_take]; rfl)) ?_; (with_reducible refine (coraclelaw17_mades.calls k2 _ _ x8_2 t223 _ ?side1 ?side2 A31.out).mono ?_); (case side1 => repeat (first | exact (Kd.R_reads' HO_8.out).2.2 | (with_reducible refine Kd.C_alloc ?_ _) | (with_reducible refine Kd.C_drewN ?_ _) | (with_reducible refine Kd.C_drew ?_))); (case side2 => exact (Kd.R_reads' HO_8.out).2.1); rintro e w35 ⟨v224, rfl, ho0, hb⟩; refine ⟨_, rfl, ?_⟩; have n0_ := Aside0.mk (Kd.R_below (by (with_reducible repeat (first | apply Kd.R_alloc | apply Kd.R_drewN | apply Kd.R_drew)); exact HO_8.out) hb); have n1_ := Aside0.mk (Kd.R_lower ho0 (below_size (by repeat (first | (with_reducible first | exact HB.out | apply below_alloc | apply pw_below_drewN | apply below_drew1) | exact HB.out)))); have n2_ := Aside0.mk (below_step (by repeat (first | (with_reducible first | exact HB.out | apply below_alloc | apply pw_below_drewN | apply below_drew1) | exact HB.out)) hb); clear HO_8; clear HB; have HO_8 := n0_; have HO225 := n1_; have HB := n2_; clear n0_ n1_ n2_; (try clear hb); (try clear hb2); (try clear hk); (try clear hi); (try clear ho0); obtain ⟨Ao36, co36, eo36⟩ := Kd.R_slice HO225.out; subst eo36) | ((with_reducible refine gate_callee (f := 19) rfl ?_); refine goesL_ (some 81) rfl rfl Try.func19 (by kernel_rfl) rfl #[.slice Ao36 t223.length co36, .int .i64 a2, .int .i64 400000, .int .i64 1] rfl (by (try simp only [List.map_toArray, List.map_cons, List.map_nil]); first | done | rfl | (simp only [List.length_drop, List.length_take]; rfl)) ?_; (with_reducible refine (batch_All.calls _ _ t223 a2 400000 1 t226 t227 _ ?side1 ?side2 A32.out).mono ?_); (case side1 => repeat (first | exact (Kd.R_reads' HO225.out).2.2 | (with_reducible refine Kd.C_alloc ?_ _) | (with_reducible refine Kd.C_drewN ?_ _) | (with_reducible refine Kd.C_drew ?_))); (case side2 => exact (Kd.R_reads' HO225.out).2.1); rintro e w37 ⟨v228, rfl, ho0, hb⟩; refine ⟨_, rfl, ?_⟩; have n0_ := Aside0.mk (Kd.R_below (by (with_reducible repeat (first | apply Kd.R_alloc | apply Kd.R_drewN | apply Kd.R_drew)); exact HO_8.out) hb); have n1_ := Aside0.mk (Kd.R_below (by (with_reducible repeat (first | apply Kd.R_alloc | apply Kd.R_drewN | apply Kd.R_drew)); exact HO225.out) hb); have n2_ := Aside0.mk (Kd.N_lower (Kd.N_mono (ok' := fun k_ => some k_ ≠ (.slice Ao34 x8_2.length co34 : Value).ownBlock ∧ some k_ ≠ (.slice Ao36 t223.length co36 : Value).ownBlock) (Kd.R_N (Kd.R_bound ho0)) (fun k_ hk_ => ⟨(Kd.fresh' (Kd.R_lt (by (with_reducible repeat (first | apply Kd.R_alloc | apply Kd.R_drewN | apply Kd.R_drew)); exact HO_8.out)) k_ hk_.2.1), (Kd.fresh' (Kd.R_lt (by (with_reducible repeat (first | apply Kd.R_alloc | apply Kd.R_drewN | apply Kd.R_drew)); exact HO225.out)) k_ hk_.2.1)⟩)) (below_size (by repeat (first | (with_reducible first | exact HB.out | apply below_alloc | apply pw_below_drewN | apply below_drew1) | exact HB.out)))); have n3_ := Aside0.mk (below_step (by repeat (first | (with_reducible first | exact HB.out | apply below_alloc | apply pw_below_drewN | apply below_drew1) | exact HB.out)) hb); clear HO_8; clear HO225; clear HB; have HO_8 := n0_; have HO225 := n1_; have HO229 := n2_; have HB := n3_; clear n0_ n1_ n2_ n3_; (try clear hb); (try clear hb2); (try clear hk); (try clear hi); (try clear ho0)))
       (try simp only [Act.put, List.setIfInBounds_toArray, List.set_cons_zero, List.set_cons_succ])
       go_cut [92] (fun v92 wc => ∃ (kq : Nat) (x92_32 : Bool), v92 = .bool x92_32 ∧ Aside0 (coraclelaw17_BatchWaits.j2 kq a2 x8_2 x9_2 x10_2 t226 x92_32 = some r) ∧ Aside0 (kq ≤ k2) ∧ Aside0 (Kd.R k68 68 wc w.heap.size (fun _ => True) (.slice Ao34 x8_2.length co34) x8_2) ∧ Aside0 (Kd.N k39 39 wc w.heap.size (fun k_ => some k_ ≠ ((.slice Ao34 x8_2.length co34) : Value).ownBlock) v228 t226) ∧ Aside0 (Below w.heap.size w wc))
       case first =>
        have H := HC33.out
        clear HC33
        by_cases c38 : t227 = 0
        ·rw [if_pos c38] at H
         have c38b0 : (t227 == 0) = true := beq_iff_eq.mpr c38
         have c38b1 : (t227 != 0) = false := bne_eq_false_iff_eq.mpr c38
         clear c38
         (first | rw [c38b0] | (simp only [i64_w, i32_w]; rw [c38b0]) | skip)
         obtain ⟨ji39, hji39⟩ : ∃ j_ : Int, (mn x9_2 1) = j_ := ⟨_, rfl⟩
         replace H : (coraclelaw17_BatchWaits.j2 k2 a2 x8_2 x9_2 x10_2 t226 ((t226.length : Int) != (ji39))) = some r := by first | (rw [hji39] at H; exact H) | (simp only [hji39] at H ⊢; exact H)
         have hji39_ : (if 1 < x9_2 then 1 else x9_2) = ji39 := hji39
         have H' := Aside0.mk H
         clear H
         obtain ⟨Ao40, co40, eo40⟩ := Kd.N_slice HO229.out
         subst eo40
         go_wp2
         go_meet
         case rel => exact ⟨_, (((t226.length : Int) != (ji39))), (by first | rfl | (simp; done) | (simp only [← hji39] <;> (first | rfl | simp)) | (simp [*]; done)), H', ⟨by have := HJ4.out; have := HK2.out; first | omega | exact Nat.le_refl _⟩, ⟨by (with_reducible repeat (first | apply Kd.R_alloc | apply Kd.R_drewN | apply Kd.R_drew)); exact HO_8.out⟩, ⟨by (with_reducible repeat (first | apply Kd.N_alloc | apply Kd.N_drewN | apply Kd.N_drew)); exact Kd.N_mono HO229.out (fun _ hk => hk.1)⟩, ⟨by repeat (first | (with_reducible first | exact HB.out | apply below_alloc | apply pw_below_drewN | apply below_drew1) | exact HB.out)⟩⟩
        ·rw [if_neg c38] at H
         have c38b0 : (t227 == 0) = false := beq_eq_false_iff_ne.mpr c38
         have c38b1 : (t227 != 0) = true := bne_iff_ne.mpr c38
         (first | rw [c38b0] | (simp only [i64_w, i32_w]; rw [c38b0]) | skip)
         have H' := Aside0.mk H
         clear H
         go_wp2
         go_meet
         case rel => exact ⟨_, (true), (by first | rfl | (simp; done) | (simp [*]; done)), H', ⟨by have := HJ4.out; have := HK2.out; first | omega | exact Nat.le_refl _⟩, ⟨by (with_reducible repeat (first | apply Kd.R_alloc | apply Kd.R_drewN | apply Kd.R_drew)); exact HO_8.out⟩, ⟨by (with_reducible repeat (first | apply Kd.N_alloc | apply Kd.N_drewN | apply Kd.N_drew)); exact Kd.N_mono HO229.out (fun _ hk => hk.1)⟩, ⟨by repeat (first | (with_reducible first | exact HB.out | apply below_alloc | apply pw_below_drewN | apply below_drew1) | exact HB.out)⟩⟩
       case rest =>
        clear HC33
        try clear c1
        try clear c2
        try clear p2
        try clear q2
        try clear hx2
        try clear c3
        try clear c6
        try clear c6b0
        try clear p6
        try clear c7
        try clear c7b0
        try clear c8
        try clear c11
        try clear c11b0
        try clear c13
        try clear c13b0
        try clear c14
        try clear c14b0
        try clear c15
        try clear c15b0
        try clear c16
        try clear c18
        try clear c19
        try clear c19b0
        try clear c20
        try clear p21
        try clear q21
        try clear hx21
        try clear c25
        try clear c38
        try clear c38b0
        try clear c38b1
        try clear hcz23_0
        try clear hcz23_1
        try clear hcz23_10
        try clear hcz23_11
        try clear hcz23_12
        try clear hcz23_13
        try clear hcz23_14
        try clear hcz23_15
        try clear hcz23_16
        try clear hcz23_17
        try clear hcz23_18
        try clear hcz23_19
        try clear hcz23_2
        try clear hcz23_20
        try clear hcz23_21
        try clear hcz23_22
        try clear hcz23_23
        try clear hcz23_24
        try clear hcz23_25
        try clear hcz23_26
        try clear hcz23_27
        try clear hcz23_28
        try clear hcz23_29
        try clear hcz23_3
        try clear hcz23_30
        try clear hcz23_31
        try clear hcz23_32
        try clear hcz23_33
        try clear hcz23_34
        try clear hcz23_35
        try clear hcz23_36
        try clear hcz23_37
        try clear hcz23_38
        try clear hcz23_39
        try clear hcz23_4
        try clear hcz23_40
        try clear hcz23_41
        try clear hcz23_42
        try clear hcz23_43
        try clear hcz23_5
        try clear hcz23_6
        try clear hcz23_7
        try clear hcz23_8
        try clear hcz23_9
        try clear hcz25_0
        try clear hcz25_1
        try clear hcz25_10
        try clear hcz25_11
        try clear hcz25_12
        try clear hcz25_13
        try clear hcz25_14
        try clear hcz25_15
        try clear hcz25_16
        try clear hcz25_17
        try clear hcz25_18
        try clear hcz25_19
        try clear hcz25_2
        try clear hcz25_20
        try clear hcz25_21
        try clear hcz25_22
        try clear hcz25_23
        try clear hcz25_24
        try clear hcz25_25
        try clear hcz25_26
        try clear hcz25_27
        try clear hcz25_28
        try clear hcz25_29
        try clear hcz25_3
        try clear hcz25_30
        try clear hcz25_31
        try clear hcz25_32
        try clear hcz25_33
        try clear hcz25_34
        try clear hcz25_35
        try clear hcz25_36
        try clear hcz25_37
        try clear hcz25_38
        try clear hcz25_39
        try clear hcz25_4
        try clear hcz25_40
        try clear hcz25_41
        try clear hcz25_42
        try clear hcz25_43
        try clear hcz25_5
        try clear hcz25_6
        try clear hcz25_7
        try clear hcz25_8
        try clear hcz25_9
        try clear hcz28_0
        try clear hcz28_1
        try clear hcz28_10
        try clear hcz28_11
        try clear hcz28_12
        try clear hcz28_13
        try clear hcz28_14
        try clear hcz28_15
        try clear hcz28_16
        try clear hcz28_17
        try clear hcz28_18
        try clear hcz28_19
        try clear hcz28_2
        try clear hcz28_20
        try clear hcz28_21
        try clear hcz28_22
        try clear hcz28_23
        try clear hcz28_24
        try clear hcz28_25
        try clear hcz28_26
        try clear hcz28_27
        try clear hcz28_28
        try clear hcz28_29
        try clear hcz28_3
        try clear hcz28_30
        try clear hcz28_31
        try clear hcz28_32
        try clear hcz28_33
        try clear hcz28_34
        try clear hcz28_35
        try clear hcz28_36
        try clear hcz28_37
        try clear hcz28_38
        try clear hcz28_39
        try clear hcz28_4
        try clear hcz28_40
        try clear hcz28_41
        try clear hcz28_42
        try clear hcz28_43
        try clear hcz28_5
        try clear hcz28_6
        try clear hcz28_7
        try clear hcz28_8
        try clear hcz28_9
        try clear hcz30_0
        try clear hcz30_1
        try clear hcz30_10
        try clear hcz30_11
        try clear hcz30_12
        try clear hcz30_13
        try clear hcz30_14
        try clear hcz30_15
        try clear hcz30_16
        try clear hcz30_17
        try clear hcz30_18
        try clear hcz30_19
        try clear hcz30_2
        try clear hcz30_20
        try clear hcz30_21
        try clear hcz30_22
        try clear hcz30_23
        try clear hcz30_24
        try clear hcz30_25
        try clear hcz30_26
        try clear hcz30_27
        try clear hcz30_28
        try clear hcz30_29
        try clear hcz30_3
        try clear hcz30_30
        try clear hcz30_31
        try clear hcz30_32
        try clear hcz30_33
        try clear hcz30_34
        try clear hcz30_35
        try clear hcz30_36
        try clear hcz30_37
        try clear hcz30_38
        try clear hcz30_39
        try clear hcz30_4
        try clear hcz30_40
        try clear hcz30_41
        try clear hcz30_42
        try clear hcz30_43
        try clear hcz30_5
        try clear hcz30_6
        try clear hcz30_7
        try clear hcz30_8
        try clear hcz30_9
        try clear hfz23_0
        try clear hfz23_1
        try clear hfz23_10
        try clear hfz23_11
        try clear hfz23_12
        try clear hfz23_13
        try clear hfz23_14
        try clear hfz23_15
        try clear hfz23_16
        try clear hfz23_17
        try clear hfz23_18
        try clear hfz23_19
        try clear hfz23_2
        try clear hfz23_20
        try clear hfz23_21
        try clear hfz23_22
        try clear hfz23_23
        try clear hfz23_24
        try clear hfz23_25
        try clear hfz23_26
        try clear hfz23_27
        try clear hfz23_28
        try clear hfz23_29
        try clear hfz23_3
        try clear hfz23_30
        try clear hfz23_31
        try clear hfz23_32
        try clear hfz23_33
        try clear hfz23_34
        try clear hfz23_35
        try clear hfz23_36
        try clear hfz23_37
        try clear hfz23_38
        try clear hfz23_39
        try clear hfz23_4
        try clear hfz23_40
        try clear hfz23_41
        try clear hfz23_42
        try clear hfz23_43
        try clear hfz23_5
        try clear hfz23_6
        try clear hfz23_7
        try clear hfz23_8
        try clear hfz23_9
        try clear hfz25_0
        try clear hfz25_1
        try clear hfz25_10
        try clear hfz25_11
        try clear hfz25_12
        try clear hfz25_13
        try clear hfz25_14
        try clear hfz25_15
        try clear hfz25_16
        try clear hfz25_17
        try clear hfz25_18
        try clear hfz25_19
        try clear hfz25_2
        try clear hfz25_20
        try clear hfz25_21
        try clear hfz25_22
        try clear hfz25_23
        try clear hfz25_24
        try clear hfz25_25
        try clear hfz25_26
        try clear hfz25_27
        try clear hfz25_28
        try clear hfz25_29
        try clear hfz25_3
        try clear hfz25_30
        try clear hfz25_31
        try clear hfz25_32
        try clear hfz25_33
        try clear hfz25_34
        try clear hfz25_35
        try clear hfz25_36
        try clear hfz25_37
        try clear hfz25_38
        try clear hfz25_39
        try clear hfz25_4
        try clear hfz25_40
        try clear hfz25_41
        try clear hfz25_42
        try clear hfz25_43
        try clear hfz25_5
        try clear hfz25_6
        try clear hfz25_7
        try clear hfz25_8
        try clear hfz25_9
        try clear hfz28_0
        try clear hfz28_1
        try clear hfz28_10
        try clear hfz28_11
        try clear hfz28_12
        try clear hfz28_13
        try clear hfz28_14
        try clear hfz28_15
        try clear hfz28_16
        try clear hfz28_17
        try clear hfz28_18
        try clear hfz28_19
        try clear hfz28_2
        try clear hfz28_20
        try clear hfz28_21
        try clear hfz28_22
        try clear hfz28_23
        try clear hfz28_24
        try clear hfz28_25
        try clear hfz28_26
        try clear hfz28_27
        try clear hfz28_28
        try clear hfz28_29
        try clear hfz28_3
        try clear hfz28_30
        try clear hfz28_31
        try clear hfz28_32
        try clear hfz28_33
        try clear hfz28_34
        try clear hfz28_35
        try clear hfz28_36
        try clear hfz28_37
        try clear hfz28_38
        try clear hfz28_39
        try clear hfz28_4
        try clear hfz28_40
        try clear hfz28_41
        try clear hfz28_42
        try clear hfz28_43
        try clear hfz28_5
        try clear hfz28_6
        try clear hfz28_7
        try clear hfz28_8
        try clear hfz28_9
        try clear hfz30_0
        try clear hfz30_1
        try clear hfz30_10
        try clear hfz30_11
        try clear hfz30_12
        try clear hfz30_13
        try clear hfz30_14
        try clear hfz30_15
        try clear hfz30_16
        try clear hfz30_17
        try clear hfz30_18
        try clear hfz30_19
        try clear hfz30_2
        try clear hfz30_20
        try clear hfz30_21
        try clear hfz30_22
        try clear hfz30_23
        try clear hfz30_24
        try clear hfz30_25
        try clear hfz30_26
        try clear hfz30_27
        try clear hfz30_28
        try clear hfz30_29
        try clear hfz30_3
        try clear hfz30_30
        try clear hfz30_31
        try clear hfz30_32
        try clear hfz30_33
        try clear hfz30_34
        try clear hfz30_35
        try clear hfz30_36
        try clear hfz30_37
        try clear hfz30_38
        try clear hfz30_39
        try clear hfz30_4
        try clear hfz30_40
        try clear hfz30_41
        try clear hfz30_42
        try clear hfz30_43
        try clear hfz30_5
        try clear hfz30_6
        try clear hfz30_7
        try clear hfz30_8
        try clear hfz30_9
        try clear hx218_0
        try clear hx219_0
        try clear p2
        try clear p218
        try clear p219
        try clear q218
        try clear q219
        obtain ⟨kq, x92_32, rfl, HA, HJ32, HO_8, HO_13, HB⟩ := hcut
        cases kq with
        | zero => exact absurd HA.out (by simp [coraclelaw17_BatchWaits.j2])
        | succ kj32 =>
         have H := HA.out
         clear HA
         simp only [coraclelaw17_BatchWaits.j2] at H
         by_cases c41 : x92_32 = true
         ·subst c41
          have H1 : (some false) = some r := by rw [if_pos rfl] at H; exact H
          clear H
          have H := H1
          clear H1
          obtain rfl := Option.some.inj H
          go_wp2
          go_ret
          exact ⟨by first | rfl | (simp [errW_none, errW_some] <;> rfl) | (simp only [← hji4]; first | rfl | (simp [errW_none, errW_some] <;> rfl)) | (simp [*, errW_none, errW_some] <;> rfl), by repeat (first | (with_reducible first | exact HB.out | apply below_alloc | apply pw_below_drewN | apply below_drew1) | exact HB.out)⟩
         ·replace c41 := Bool.eq_false_iff.mpr c41
          subst c41
          have H1 : (if x9_2 = 0 then ((coraclelaw17_mades.f kj32 x8_2).bind fun t230 => ((batch_Order.f t230 a2).bind fun t233 => (if (t233.length : Int) = x9_2 then ((coraclelaw17_awake.f).bind fun t236 => (some t236)) else (some false)))) else (if 0 < (t226.length : Int) then (if (((rd_T39 t226 0).f0.f0).length : Int) = x9_2 then (if ((rd_T39 t226 0).f0.f2) = x10_2 then ((coraclelaw17_mades.f kj32 x8_2).bind fun t239 => ((batch_Order.f t239 a2).bind fun t242 => (if (t242.length : Int) = x9_2 then ((coraclelaw17_awake.f).bind fun t245 => (some t245)) else (some false)))) else (some false)) else (some false)) else (none))) = some r := by rw [if_neg (show ¬ (false = true) by decide)] at H; exact H
          clear H
          have H := H1
          clear H1
          by_cases c42 : x9_2 = 0
          ·rw [if_pos c42] at H
           have c42b0 : (x9_2 == 0) = true := beq_iff_eq.mpr c42
           have c42b1 : (x9_2 != 0) = false := bne_eq_false_iff_eq.mpr c42
           clear c42
           replace H := Option.bind_eq_some_iff.mp H
           obtain ⟨t230, A430, H⟩ := H
           replace H : ((batch_Order.f t230 a2).bind fun t233 => (if (t233.length : Int) = x9_2 then ((coraclelaw17_awake.f).bind fun t236 => (some t236)) else (some false))) = some r := H
           have A43 := Aside0.mk A430
           clear A430
           replace H := Option.bind_eq_some_iff.mp H
           obtain ⟨t233, A440, H⟩ := H
           replace H : (if (t233.length : Int) = x9_2 then ((coraclelaw17_awake.f).bind fun t236 => (some t236)) else (some false)) = some r := H
           have A44 := Aside0.mk A440
           clear A440
           by_cases c45 : (t233.length : Int) = x9_2
           ·rw [if_pos c45] at H
            have c45b0 : ((t233.length : Int) == x9_2) = true := beq_iff_eq.mpr c45
            have c45b1 : ((t233.length : Int) != x9_2) = false := bne_eq_false_iff_eq.mpr c45
            clear c45
            replace H := Option.bind_eq_some_iff.mp H
            obtain ⟨t236, A460, H⟩ := H
            replace H : (some t236) = some r := H
            have A46 := Aside0.mk A460
            clear A460
            obtain rfl := Option.some.inj H
            go_wp2_with (first | (go_at_call 20; (with_reducible refine (coraclelaw17_mades.calls kj32 _ _ x8_2 t230 _ ?side1 ?side2 A43.out).mono ?_); (case side1 => repeat (first | exact (Kd.R_reads' HO_8.out).2.2 | (with_reducible refine Kd.C_alloc ?_ _) | (with_reducible refine Kd.C_drewN ?_ _) | (with_reducible refine Kd.C_drew ?_))); (case side2 => exact (Kd.R_reads' HO_8.out).2.1); rintro e w47 ⟨v231, rfl, ho0, hb⟩; have n0_ := Aside0.mk (Kd.R_below (by (with_reducible repeat (first | apply Kd.R_alloc | apply Kd.R_drewN | apply Kd.R_drew)); exact HO_8.out) hb); have n1_ := Aside0.mk (Kd.N_elder' (by (with_reducible repeat (first | apply Kd.N_alloc | apply Kd.N_drewN | apply Kd.N_drew)); exact HO_13.out) (Kd.R_base ho0) hb); have n2_ := Aside0.mk (Kd.R_lower ho0 (below_size (by repeat (first | (with_reducible first | exact HB.out | apply below_alloc | apply pw_below_drewN | apply below_drew1) | exact HB.out)))); have n3_ := Aside0.mk (below_step (by repeat (first | (with_reducible first | exact HB.out | apply below_alloc | apply pw_below_drewN | apply below_drew1) | exact HB.out)) hb); clear HO_8; clear HO_13; clear HB; have HO_8 := n0_; have HO_13 := n1_; have HO232 := n2_; have HB := n3_; clear n0_ n1_ n2_ n3_; (try clear hb); (try clear hb2); (try clear hk); (try clear hi); (try clear ho0); obtain ⟨Ao48, co48, eo48⟩ := Kd.R_slice HO232.out; subst eo48) | (go_at_call 27; (with_reducible refine (batch_Order.calls _ _ t230 a2 t233 _ ?side1 ?side2 A44.out).mono ?_); (case side1 => repeat (first | exact (Kd.R_reads' HO232.out).2.2 | (with_reducible refine Kd.C_alloc ?_ _) | (with_reducible refine Kd.C_drewN ?_ _) | (with_reducible refine Kd.C_drew ?_))); (case side2 => exact (Kd.R_reads' HO232.out).2.1); rintro e w49 ⟨v234, rfl, ho0, hb⟩; have n0_ := Aside0.mk (Kd.R_below (by (with_reducible repeat (first | apply Kd.R_alloc | apply Kd.R_drewN | apply Kd.R_drew)); exact HO_8.out) hb); have n1_ := Aside0.mk (Kd.N_elder' (by (with_reducible repeat (first | apply Kd.N_alloc | apply Kd.N_drewN | apply Kd.N_drew)); exact HO_13.out) (Kd.R_base ho0) hb); have n2_ := Aside0.mk (Kd.R_elder' (by (with_reducible repeat (first | apply Kd.R_alloc | apply Kd.R_drewN | apply Kd.R_drew)); exact HO232.out) (Kd.R_base ho0) hb); have n3_ := Aside0.mk (Kd.R_lower (Kd.R_new' ho0 (Kd.R_lt (by (with_reducible repeat (first | apply Kd.R_alloc | apply Kd.R_drewN | apply Kd.R_drew)); exact HO232.out))) (below_size (by repeat (first | (with_reducible first | exact HB.out | apply below_alloc | apply pw_below_drewN | apply below_drew1) | exact HB.out)))); have n4_ := Aside0.mk (below_step (by repeat (first | (with_reducible first | exact HB.out | apply below_alloc | apply pw_below_drewN | apply below_drew1) | exact HB.out)) hb); clear HO_8; clear HO_13; clear HO232; clear HB; have HO_8 := n0_; have HO_13 := n1_; have HO232 := n2_; have HO235 := n3_; have HB := n4_; clear n0_ n1_ n2_ n3_ n4_; (try clear hb); (try clear hb2); (try clear hk); (try clear hi); (try clear ho0); obtain ⟨Ao50, co50, eo50⟩ := Kd.R_slice HO235.out; subst eo50) | (go_at_call 18; (with_reducible refine (coraclelaw17_awake.calls  t236 _ A46.out).mono ?_); rintro e w51 ⟨rfl, hb⟩; have n0_ := Aside0.mk (Kd.R_below (by (with_reducible repeat (first | apply Kd.R_alloc | apply Kd.R_drewN | apply Kd.R_drew)); exact HO_8.out) hb); have n1_ := Aside0.mk (Kd.N_below (by (with_reducible repeat (first | apply Kd.N_alloc | apply Kd.N_drewN | apply Kd.N_drew)); exact HO_13.out) hb); have n2_ := Aside0.mk (Kd.R_below (by (with_reducible repeat (first | apply Kd.R_alloc | apply Kd.R_drewN | apply Kd.R_drew)); exact HO232.out) hb); have n3_ := Aside0.mk (Kd.R_below (by (with_reducible repeat (first | apply Kd.R_alloc | apply Kd.R_drewN | apply Kd.R_drew)); exact HO235.out) hb); have n4_ := Aside0.mk (below_step (by repeat (first | (with_reducible first | exact HB.out | apply below_alloc | apply pw_below_drewN | apply below_drew1) | exact HB.out)) hb); clear HO_8; clear HO_13; clear HO232; clear HO235; clear HB; have HO_8 := n0_; have HO_13 := n1_; have HO232 := n2_; have HO235 := n3_; have HB := n4_; clear n0_ n1_ n2_ n3_ n4_; (try clear hb); (try clear hb2); (try clear hk); (try clear hi)))
            go_ret
            exact ⟨by first | rfl | (simp [errW_none, errW_some] <;> rfl) | (simp only [← hji4]; first | rfl | (simp [errW_none, errW_some] <;> rfl)) | (simp [*, errW_none, errW_some] <;> rfl), by repeat (first | (with_reducible first | exact HB.out | apply below_alloc | apply pw_below_drewN | apply below_drew1) | exact HB.out)⟩
           ·rw [if_neg c45] at H
            have c45b0 : ((t233.length : Int) == x9_2) = false := beq_eq_false_iff_ne.mpr c45
            have c45b1 : ((t233.length : Int) != x9_2) = true := bne_iff_ne.mpr c45
            obtain rfl := Option.some.inj H
            go_wp2_with (first | (go_at_call 20; (with_reducible refine (coraclelaw17_mades.calls kj32 _ _ x8_2 t230 _ ?side1 ?side2 A43.out).mono ?_); (case side1 => repeat (first | exact (Kd.R_reads' HO_8.out).2.2 | (with_reducible refine Kd.C_alloc ?_ _) | (with_reducible refine Kd.C_drewN ?_ _) | (with_reducible refine Kd.C_drew ?_))); (case side2 => exact (Kd.R_reads' HO_8.out).2.1); rintro e w52 ⟨v231, rfl, ho0, hb⟩; have n0_ := Aside0.mk (Kd.R_below (by (with_reducible repeat (first | apply Kd.R_alloc | apply Kd.R_drewN | apply Kd.R_drew)); exact HO_8.out) hb); have n1_ := Aside0.mk (Kd.N_elder' (by (with_reducible repeat (first | apply Kd.N_alloc | apply Kd.N_drewN | apply Kd.N_drew)); exact HO_13.out) (Kd.R_base ho0) hb); have n2_ := Aside0.mk (Kd.R_lower ho0 (below_size (by repeat (first | (with_reducible first | exact HB.out | apply below_alloc | apply pw_below_drewN | apply below_drew1) | exact HB.out)))); have n3_ := Aside0.mk (below_step (by repeat (first | (with_reducible first | exact HB.out | apply below_alloc | apply pw_below_drewN | apply below_drew1) | exact HB.out)) hb); clear HO_8; clear HO_13; clear HB; have HO_8 := n0_; have HO_13 := n1_; have HO232 := n2_; have HB := n3_; clear n0_ n1_ n2_ n3_; (try clear hb); (try clear hb2); (try clear hk); (try clear hi); (try clear ho0); obtain ⟨Ao53, co53, eo53⟩ := Kd.R_slice HO232.out; subst eo53) | (go_at_call 27; (with_reducible refine (batch_Order.calls _ _ t230 a2 t233 _ ?side1 ?side2 A44.out).mono ?_); (case side1 => repeat (first | exact (Kd.R_reads' HO232.out).2.2 | (with_reducible refine Kd.C_alloc ?_ _) | (with_reducible refine Kd.C_drewN ?_ _) | (with_reducible refine Kd.C_drew ?_))); (case side2 => exact (Kd.R_reads' HO232.out).2.1); rintro e w54 ⟨v234, rfl, ho0, hb⟩; have n0_ := Aside0.mk (Kd.R_below (by (with_reducible repeat (first | apply Kd.R_alloc | apply Kd.R_drewN | apply Kd.R_drew)); exact HO_8.out) hb); have n1_ := Aside0.mk (Kd.N_elder' (by (with_reducible repeat (first | apply Kd.N_alloc | apply Kd.N_drewN | apply Kd.N_drew)); exact HO_13.out) (Kd.R_base ho0) hb); have n2_ := Aside0.mk (Kd.R_elder' (by (with_reducible repeat (first | apply Kd.R_alloc | apply Kd.R_drewN | apply Kd.R_drew)); exact HO232.out) (Kd.R_base ho0) hb); have n3_ := Aside0.mk (Kd.R_lower (Kd.R_new' ho0 (Kd.R_lt (by (with_reducible repeat (first | apply Kd.R_alloc | apply Kd.R_drewN | apply Kd.R_drew)); exact HO232.out))) (below_size (by repeat (first | (with_reducible first | exact HB.out | apply below_alloc | apply pw_below_drewN | apply below_drew1) | exact HB.out)))); have n4_ := Aside0.mk (below_step (by repeat (first | (with_reducible first | exact HB.out | apply below_alloc | apply pw_below_drewN | apply below_drew1) | exact HB.out)) hb); clear HO_8; clear HO_13; clear HO232; clear HB; have HO_8 := n0_; have HO_13 := n1_; have HO232 := n2_; have HO235 := n3_; have HB := n4_; clear n0_ n1_ n2_ n3_ n4_; (try clear hb); (try clear hb2); (try clear hk); (try clear hi); (try clear ho0); obtain ⟨Ao55, co55, eo55⟩ := Kd.R_slice HO235.out; subst eo55))
            go_ret
            exact ⟨by first | rfl | (simp [errW_none, errW_some] <;> rfl) | (simp only [← hji4]; first | rfl | (simp [errW_none, errW_some] <;> rfl)) | (simp [*, errW_none, errW_some] <;> rfl), by repeat (first | (with_reducible first | exact HB.out | apply below_alloc | apply pw_below_drewN | apply below_drew1) | exact HB.out)⟩
          ·rw [if_neg c42] at H
           have c42b0 : (x9_2 == 0) = false := beq_eq_false_iff_ne.mpr c42
           have c42b1 : (x9_2 != 0) = true := bne_iff_ne.mpr c42
           by_cases c56 : 0 < (t226.length : Int)
           ·rw [if_pos c56] at H
            have c56b0 : decide (0 < (t226.length : Int)) = true := decide_eq_true c56
            have c56b1 : decide (0 < t226.length) = true := decide_eq_true (by omega)
            clear c56
            by_cases c57 : (((rd_T39 t226 0).f0.f0).length : Int) = x9_2
            ·rw [if_pos c57] at H
             have c57b0 : ((((rd_T39 t226 0).f0.f0).length : Int) == x9_2) = true := beq_iff_eq.mpr c57
             have c57b1 : ((((rd_T39 t226 0).f0.f0).length : Int) != x9_2) = false := bne_eq_false_iff_eq.mpr c57
             clear c57
             by_cases c58 : ((rd_T39 t226 0).f0.f2) = x10_2
             ·rw [if_pos c58] at H
              have c58b0 : (((rd_T39 t226 0).f0.f2) == x10_2) = true := beq_iff_eq.mpr c58
              have c58b1 : (((rd_T39 t226 0).f0.f2) != x10_2) = false := bne_eq_false_iff_eq.mpr c58
              clear c58
              replace H := Option.bind_eq_some_iff.mp H
              obtain ⟨t239, A590, H⟩ := H
              replace H : ((batch_Order.f t239 a2).bind fun t242 => (if (t242.length : Int) = x9_2 then ((coraclelaw17_awake.f).bind fun t245 => (some t245)) else (some false))) = some r := H
              have A59 := Aside0.mk A590
              clear A590
              replace H := Option.bind_eq_some_iff.mp H
              obtain ⟨t242, A600, H⟩ := H
              replace H : (if (t242.length : Int) = x9_2 then ((coraclelaw17_awake.f).bind fun t245 => (some t245)) else (some false)) = some r := H
              have A60 := Aside0.mk A600
              clear A600
              by_cases c61 : (t242.length : Int) = x9_2
              ·rw [if_pos c61] at H
               have c61b0 : ((t242.length : Int) == x9_2) = true := beq_iff_eq.mpr c61
               have c61b1 : ((t242.length : Int) != x9_2) = false := bne_eq_false_iff_eq.mpr c61
               clear c61
               replace H := Option.bind_eq_some_iff.mp H
               obtain ⟨t245, A620, H⟩ := H
               replace H : (some t245) = some r := H
               have A62 := Aside0.mk A620
               clear A620
               obtain rfl := Option.some.inj H
               obtain ⟨Ao63, co63, eo63⟩ := Kd.N_slice HO_13.out
               subst eo63
               have p237 : 0 ≤ (0 : Int) := (by omega)
               have q237 : 0 < (t226.length : Int) := of_decide_eq_true (by first | (with_reducible assumption) | assumption)
               obtain ⟨ad237, A237_0, c237_0, A237_1, c237_1, e237, hx237_0, hx237_1, hx237_2, hx237_3, hx237_4, hl237_0, hi237_0, hl237_1, hi237_1⟩ := at_T39 (Kd.N_reads' HO_13.out).2.2 0 p237 q237
               cases e237
               obtain ⟨ce237, hce237, hMe237, hcc237⟩ := Kd.N_get HO_13.out z39 0 p237 (by first | exact q237 | exact of_decide_eq_true (by first | (with_reducible assumption) | assumption) | (have e_ := (Kd.N_reads' HO_13.out).1; omega))
               obtain ⟨ua237_0, uc237_0, ua237_1, uc237_1, rfl, ul237_0, ge237_0, ul237_1, ge237_1⟩ := k39_openF hMe237
               have hv237_0 := hcc237 0 _ rfl
               rw [Nat.add_zero] at hv237_0
               replace hv237_0 := Option.some.inj (hv237_0.symm.trans hx237_0)
               injection hv237_0 with hva_ hvn_ hvc_
               rw [hva_] at ge237_0
               rw [hvc_] at ul237_0
               have HL237_0 := Aside0.mk (show Kd.V k38 38 _ w.heap.size _ _ ((rd_T39 t226 0).f0.f0) from Kd.V_mk ul237_0 ge237_0)
               clear hva_ hvn_ hvc_ ge237_0 ul237_0
               have hv237_1 := hcc237 1 _ rfl
               rw [add_field _ _ 1 (by omega)] at hv237_1
               replace hv237_1 := Option.some.inj (hv237_1.symm.trans hx237_1)
               injection hv237_1 with hva_ hvn_ hvc_
               rw [hva_] at ge237_1
               rw [hvc_] at ul237_1
               have HL237_1 := Aside0.mk (show Kd.V k64 64 _ w.heap.size _ _ ((rd_T39 t226 0).f0.f1) from Kd.V_mk ul237_1 ge237_1)
               clear hva_ hvn_ hvc_ ge237_1 ul237_1
               clear hcc237 hce237
               have qi237 : (0 < t226.length) = True := eq_true (by omega)
               (try rw [show ((0 : Int)).toNat = 0 from rfl] at hx237_0)
               (try rw [show 0 * 5 = 0 from rfl] at hx237_0)
               (try rw [Addr.add_zero'] at hx237_0)
               (try rw [show ((0 : Int)).toNat = 0 from rfl] at hx237_1)
               (try rw [show 0 * 5 = 0 from rfl] at hx237_1)
               (try rw [Addr.add_zero'] at hx237_1)
               (try rw [show ((0 : Int)).toNat = 0 from rfl] at hx237_2)
               (try rw [show 0 * 5 = 0 from rfl] at hx237_2)
               (try rw [Addr.add_zero'] at hx237_2)
               (try rw [show ((0 : Int)).toNat = 0 from rfl] at hx237_3)
               (try rw [show 0 * 5 = 0 from rfl] at hx237_3)
               (try rw [Addr.add_zero'] at hx237_3)
               (try rw [show ((0 : Int)).toNat = 0 from rfl] at hx237_4)
               (try rw [show 0 * 5 = 0 from rfl] at hx237_4)
               (try rw [Addr.add_zero'] at hx237_4)
               have HR237_0 := Aside0.mk hi237_0
               have HC237_0 := Aside0.mk hl237_0
               clear hi237_0 hl237_0
               have HR237_1 := Aside0.mk hi237_1
               have HC237_1 := Aside0.mk hl237_1
               clear hi237_1 hl237_1
               replace p237 := eq_true p237
               replace q237 := eq_true q237
               have p238 : 0 ≤ (0 : Int) := (by omega)
               have q238 : 0 < (t226.length : Int) := of_decide_eq_true (by first | (with_reducible assumption) | assumption)
               obtain ⟨ad238, A238_0, c238_0, A238_1, c238_1, e238, hx238_0, hx238_1, hx238_2, hx238_3, hx238_4, hl238_0, hi238_0, hl238_1, hi238_1⟩ := at_T39 (Kd.N_reads' HO_13.out).2.2 0 p238 q238
               obtain rfl : ad237 = ad238 := (by injection e238)
               obtain ⟨ce238, hce238, hMe238, hcc238⟩ := Kd.N_get HO_13.out z39 0 p238 (by first | exact q238 | exact of_decide_eq_true (by first | (with_reducible assumption) | assumption) | (have e_ := (Kd.N_reads' HO_13.out).1; omega))
               obtain ⟨ua238_0, uc238_0, ua238_1, uc238_1, rfl, ul238_0, ge238_0, ul238_1, ge238_1⟩ := k39_openF hMe238
               have hv238_0 := hcc238 0 _ rfl
               rw [Nat.add_zero] at hv238_0
               replace hv238_0 := Option.some.inj (hv238_0.symm.trans hx238_0)
               injection hv238_0 with hva_ hvn_ hvc_
               rw [hva_] at ge238_0
               rw [hvc_] at ul238_0
               have HL238_0 := Aside0.mk (show Kd.V k38 38 _ w.heap.size _ _ ((rd_T39 t226 0).f0.f0) from Kd.V_mk ul238_0 ge238_0)
               clear hva_ hvn_ hvc_ ge238_0 ul238_0
               have hv238_1 := hcc238 1 _ rfl
               rw [add_field _ _ 1 (by omega)] at hv238_1
               replace hv238_1 := Option.some.inj (hv238_1.symm.trans hx238_1)
               injection hv238_1 with hva_ hvn_ hvc_
               rw [hva_] at ge238_1
               rw [hvc_] at ul238_1
               have HL238_1 := Aside0.mk (show Kd.V k64 64 _ w.heap.size _ _ ((rd_T39 t226 0).f0.f1) from Kd.V_mk ul238_1 ge238_1)
               clear hva_ hvn_ hvc_ ge238_1 ul238_1
               clear hcc238 hce238
               have qi238 : (0 < t226.length) = True := eq_true (by omega)
               (try rw [show ((0 : Int)).toNat = 0 from rfl] at hx238_0)
               (try rw [show 0 * 5 = 0 from rfl] at hx238_0)
               (try rw [Addr.add_zero'] at hx238_0)
               (try rw [show ((0 : Int)).toNat = 0 from rfl] at hx238_1)
               (try rw [show 0 * 5 = 0 from rfl] at hx238_1)
               (try rw [Addr.add_zero'] at hx238_1)
               (try rw [show ((0 : Int)).toNat = 0 from rfl] at hx238_2)
               (try rw [show 0 * 5 = 0 from rfl] at hx238_2)
               (try rw [Addr.add_zero'] at hx238_2)
               (try rw [show ((0 : Int)).toNat = 0 from rfl] at hx238_3)
               (try rw [show 0 * 5 = 0 from rfl] at hx238_3)
               (try rw [Addr.add_zero'] at hx238_3)
               (try rw [show ((0 : Int)).toNat = 0 from rfl] at hx238_4)
               (try rw [show 0 * 5 = 0 from rfl] at hx238_4)
               (try rw [Addr.add_zero'] at hx238_4)
               have HR238_0 := Aside0.mk hi238_0
               have HC238_0 := Aside0.mk hl238_0
               clear hi238_0 hl238_0
               have HR238_1 := Aside0.mk hi238_1
               have HC238_1 := Aside0.mk hl238_1
               clear hi238_1 hl238_1
               replace p238 := eq_true p238
               replace q238 := eq_true q238
               have ea_ := Option.some.inj (hx237_0.symm.trans hx238_0)
               injection ea_ with ea_ en_ ec_
               subst ea_
               subst ec_
               clear en_
               have ea_ := Option.some.inj (hx237_1.symm.trans hx238_1)
               injection ea_ with ea_ en_ ec_
               subst ea_
               subst ec_
               clear en_
               go_wp2_with (first | (go_at_call 20; (with_reducible refine (coraclelaw17_mades.calls kj32 _ _ x8_2 t239 _ ?side1 ?side2 A59.out).mono ?_); (case side1 => repeat (first | exact (Kd.R_reads' HO_8.out).2.2 | (with_reducible refine Kd.C_alloc ?_ _) | (with_reducible refine Kd.C_drewN ?_ _) | (with_reducible refine Kd.C_drew ?_))); (case side2 => exact (Kd.R_reads' HO_8.out).2.1); rintro e w64 ⟨v240, rfl, ho0, hb⟩; have n0_ := Aside0.mk (Kd.R_below (by (with_reducible repeat (first | apply Kd.R_alloc | apply Kd.R_drewN | apply Kd.R_drew)); exact HO_8.out) hb); have n1_ := Aside0.mk (Kd.N_elder' (by (with_reducible repeat (first | apply Kd.N_alloc | apply Kd.N_drewN | apply Kd.N_drew)); exact HO_13.out) (Kd.R_base ho0) hb); have n2_ := Aside0.mk (Kd.V_elder' (by (with_reducible repeat (first | apply Kd.V_alloc | apply Kd.V_drewN | apply Kd.V_drew)); exact HL237_0.out) (Kd.R_base ho0) hb); have n3_ := Aside0.mk (Kd.V_elder' (by (with_reducible repeat (first | apply Kd.V_alloc | apply Kd.V_drewN | apply Kd.V_drew)); exact HL237_1.out) (Kd.R_base ho0) hb); have n4_ := Aside0.mk (Kd.V_elder' (by (with_reducible repeat (first | apply Kd.V_alloc | apply Kd.V_drewN | apply Kd.V_drew)); exact HL238_0.out) (Kd.R_base ho0) hb); have n5_ := Aside0.mk (Kd.V_elder' (by (with_reducible repeat (first | apply Kd.V_alloc | apply Kd.V_drewN | apply Kd.V_drew)); exact HL238_1.out) (Kd.R_base ho0) hb); have n6_ := Aside0.mk (Kd.R_lower ho0 (below_size (by repeat (first | (with_reducible first | exact HB.out | apply below_alloc | apply pw_below_drewN | apply below_drew1) | exact HB.out)))); have n7_ := Aside0.mk (Kd.C_below (by repeat (first | (with_reducible exact HR237_0.out) | (with_reducible refine Kd.C_alloc ?_ _) | (with_reducible refine Kd.C_drewN ?_ _) | (with_reducible refine Kd.C_drew ?_) | exact HR237_0.out)) hb); have n8_ := Aside0.mk (Kd.C_below (by repeat (first | (with_reducible exact HR237_1.out) | (with_reducible refine Kd.C_alloc ?_ _) | (with_reducible refine Kd.C_drewN ?_ _) | (with_reducible refine Kd.C_drew ?_) | exact HR237_1.out)) hb); have n9_ := Aside0.mk (Kd.C_below (by repeat (first | (with_reducible exact HR238_0.out) | (with_reducible refine Kd.C_alloc ?_ _) | (with_reducible refine Kd.C_drewN ?_ _) | (with_reducible refine Kd.C_drew ?_) | exact HR238_0.out)) hb); have n10_ := Aside0.mk (Kd.C_below (by repeat (first | (with_reducible exact HR238_1.out) | (with_reducible refine Kd.C_alloc ?_ _) | (with_reducible refine Kd.C_drewN ?_ _) | (with_reducible refine Kd.C_drew ?_) | exact HR238_1.out)) hb); have n11_ := Aside0.mk (below_step (by repeat (first | (with_reducible first | exact HB.out | apply below_alloc | apply pw_below_drewN | apply below_drew1) | exact HB.out)) hb); clear HO_8; clear HO_13; clear HL237_0; clear HL237_1; clear HL238_0; clear HL238_1; clear HR237_0; clear HR237_1; clear HR238_0; clear HR238_1; clear HB; have HO_8 := n0_; have HO_13 := n1_; have HL237_0 := n2_; have HL237_1 := n3_; have HL238_0 := n4_; have HL238_1 := n5_; have HO241 := n6_; have HR237_0 := n7_; have HR237_1 := n8_; have HR238_0 := n9_; have HR238_1 := n10_; have HB := n11_; clear n0_ n1_ n2_ n3_ n4_ n5_ n6_ n7_ n8_ n9_ n10_ n11_; (try clear hb); (try clear hb2); (try clear hk); (try clear hi); (try clear ho0); obtain ⟨Ao65, co65, eo65⟩ := Kd.R_slice HO241.out; subst eo65) | (go_at_call 27; (with_reducible refine (batch_Order.calls _ _ t239 a2 t242 _ ?side1 ?side2 A60.out).mono ?_); (case side1 => repeat (first | exact (Kd.R_reads' HO241.out).2.2 | (with_reducible refine Kd.C_alloc ?_ _) | (with_reducible refine Kd.C_drewN ?_ _) | (with_reducible refine Kd.C_drew ?_))); (case side2 => exact (Kd.R_reads' HO241.out).2.1); rintro e w66 ⟨v243, rfl, ho0, hb⟩; have n0_ := Aside0.mk (Kd.R_below (by (with_reducible repeat (first | apply Kd.R_alloc | apply Kd.R_drewN | apply Kd.R_drew)); exact HO_8.out) hb); have n1_ := Aside0.mk (Kd.N_elder' (by (with_reducible repeat (first | apply Kd.N_alloc | apply Kd.N_drewN | apply Kd.N_drew)); exact HO_13.out) (Kd.R_base ho0) hb); have n2_ := Aside0.mk (Kd.V_elder' (by (with_reducible repeat (first | apply Kd.V_alloc | apply Kd.V_drewN | apply Kd.V_drew)); exact HL237_0.out) (Kd.R_base ho0) hb); have n3_ := Aside0.mk (Kd.V_elder' (by (with_reducible repeat (first | apply Kd.V_alloc | apply Kd.V_drewN | apply Kd.V_drew)); exact HL237_1.out) (Kd.R_base ho0) hb); have n4_ := Aside0.mk (Kd.V_elder' (by (with_reducible repeat (first | apply Kd.V_alloc | apply Kd.V_drewN | apply Kd.V_drew)); exact HL238_0.out) (Kd.R_base ho0) hb); have n5_ := Aside0.mk (Kd.V_elder' (by (with_reducible repeat (first | apply Kd.V_alloc | apply Kd.V_drewN | apply Kd.V_drew)); exact HL238_1.out) (Kd.R_base ho0) hb); have n6_ := Aside0.mk (Kd.R_elder' (by (with_reducible repeat (first | apply Kd.R_alloc | apply Kd.R_drewN | apply Kd.R_drew)); exact HO241.out) (Kd.R_base ho0) hb); have n7_ := Aside0.mk (Kd.R_lower (Kd.R_new' ho0 (Kd.R_lt (by (with_reducible repeat (first | apply Kd.R_alloc | apply Kd.R_drewN | apply Kd.R_drew)); exact HO241.out))) (below_size (by repeat (first | (with_reducible first | exact HB.out | apply below_alloc | apply pw_below_drewN | apply below_drew1) | exact HB.out)))); have n8_ := Aside0.mk (Kd.C_below (by repeat (first | (with_reducible exact HR237_0.out) | (with_reducible refine Kd.C_alloc ?_ _) | (with_reducible refine Kd.C_drewN ?_ _) | (with_reducible refine Kd.C_drew ?_) | exact HR237_0.out)) hb); have n9_ := Aside0.mk (Kd.C_below (by repeat (first | (with_reducible exact HR237_1.out) | (with_reducible refine Kd.C_alloc ?_ _) | (with_reducible refine Kd.C_drewN ?_ _) | (with_reducible refine Kd.C_drew ?_) | exact HR237_1.out)) hb); have n10_ := Aside0.mk (Kd.C_below (by repeat (first | (with_reducible exact HR238_0.out) | (with_reducible refine Kd.C_alloc ?_ _) | (with_reducible refine Kd.C_drewN ?_ _) | (with_reducible refine Kd.C_drew ?_) | exact HR238_0.out)) hb); have n11_ := Aside0.mk (Kd.C_below (by repeat (first | (with_reducible exact HR238_1.out) | (with_reducible refine Kd.C_alloc ?_ _) | (with_reducible refine Kd.C_drewN ?_ _) | (with_reducible refine Kd.C_drew ?_) | exact HR238_1.out)) hb); have n12_ := Aside0.mk (below_step (by repeat (first | (with_reducible first | exact HB.out | apply below_alloc | apply pw_below_drewN | apply below_drew1) | exact HB.out)) hb); clear HO_8; clear HO_13; clear HL237_0; clear HL237_1; clear HL238_0; clear HL238_1; clear HO241; clear HR237_0; clear HR237_1; clear HR238_0; clear HR238_1; clear HB; have HO_8 := n0_; have HO_13 := n1_; have HL237_0 := n2_; have HL237_1 := n3_; have HL238_0 := n4_; have HL238_1 := n5_; have HO241 := n6_; have HO244 := n7_; have HR237_0 := n8_; have HR237_1 := n9_; have HR238_0 := n10_; have HR238_1 := n11_; have HB := n12_; clear n0_ n1_ n2_ n3_ n4_ n5_ n6_ n7_ n8_ n9_ n10_ n11_ n12_; (try clear hb); (try clear hb2); (try clear hk); (try clear hi); (try clear ho0); obtain ⟨Ao67, co67, eo67⟩ := Kd.R_slice HO244.out; subst eo67) | (go_at_call 18; (with_reducible refine (coraclelaw17_awake.calls  t245 _ A62.out).mono ?_); rintro e w68 ⟨rfl, hb⟩; have n0_ := Aside0.mk (Kd.R_below (by (with_reducible repeat (first | apply Kd.R_alloc | apply Kd.R_drewN | apply Kd.R_drew)); exact HO_8.out) hb); have n1_ := Aside0.mk (Kd.N_below (by (with_reducible repeat (first | apply Kd.N_alloc | apply Kd.N_drewN | apply Kd.N_drew)); exact HO_13.out) hb); have n2_ := Aside0.mk (Kd.V_below (by (with_reducible repeat (first | apply Kd.V_alloc | apply Kd.V_drewN | apply Kd.V_drew)); exact HL237_0.out) hb); have n3_ := Aside0.mk (Kd.V_below (by (with_reducible repeat (first | apply Kd.V_alloc | apply Kd.V_drewN | apply Kd.V_drew)); exact HL237_1.out) hb); have n4_ := Aside0.mk (Kd.V_below (by (with_reducible repeat (first | apply Kd.V_alloc | apply Kd.V_drewN | apply Kd.V_drew)); exact HL238_0.out) hb); have n5_ := Aside0.mk (Kd.V_below (by (with_reducible repeat (first | apply Kd.V_alloc | apply Kd.V_drewN | apply Kd.V_drew)); exact HL238_1.out) hb); have n6_ := Aside0.mk (Kd.R_below (by (with_reducible repeat (first | apply Kd.R_alloc | apply Kd.R_drewN | apply Kd.R_drew)); exact HO241.out) hb); have n7_ := Aside0.mk (Kd.R_below (by (with_reducible repeat (first | apply Kd.R_alloc | apply Kd.R_drewN | apply Kd.R_drew)); exact HO244.out) hb); have n8_ := Aside0.mk (Kd.C_below (by repeat (first | (with_reducible exact HR237_0.out) | (with_reducible refine Kd.C_alloc ?_ _) | (with_reducible refine Kd.C_drewN ?_ _) | (with_reducible refine Kd.C_drew ?_) | exact HR237_0.out)) hb); have n9_ := Aside0.mk (Kd.C_below (by repeat (first | (with_reducible exact HR237_1.out) | (with_reducible refine Kd.C_alloc ?_ _) | (with_reducible refine Kd.C_drewN ?_ _) | (with_reducible refine Kd.C_drew ?_) | exact HR237_1.out)) hb); have n10_ := Aside0.mk (Kd.C_below (by repeat (first | (with_reducible exact HR238_0.out) | (with_reducible refine Kd.C_alloc ?_ _) | (with_reducible refine Kd.C_drewN ?_ _) | (with_reducible refine Kd.C_drew ?_) | exact HR238_0.out)) hb); have n11_ := Aside0.mk (Kd.C_below (by repeat (first | (with_reducible exact HR238_1.out) | (with_reducible refine Kd.C_alloc ?_ _) | (with_reducible refine Kd.C_drewN ?_ _) | (with_reducible refine Kd.C_drew ?_) | exact HR238_1.out)) hb); have n12_ := Aside0.mk (below_step (by repeat (first | (with_reducible first | exact HB.out | apply below_alloc | apply pw_below_drewN | apply below_drew1) | exact HB.out)) hb); clear HO_8; clear HO_13; clear HL237_0; clear HL237_1; clear HL238_0; clear HL238_1; clear HO241; clear HO244; clear HR237_0; clear HR237_1; clear HR238_0; clear HR238_1; clear HB; have HO_8 := n0_; have HO_13 := n1_; have HL237_0 := n2_; have HL237_1 := n3_; have HL238_0 := n4_; have HL238_1 := n5_; have HO241 := n6_; have HO244 := n7_; have HR237_0 := n8_; have HR237_1 := n9_; have HR238_0 := n10_; have HR238_1 := n11_; have HB := n12_; clear n0_ n1_ n2_ n3_ n4_ n5_ n6_ n7_ n8_ n9_ n10_ n11_ n12_; (try clear hb); (try clear hb2); (try clear hk); (try clear hi)))
               go_ret
               exact ⟨by first | rfl | (simp [errW_none, errW_some] <;> rfl) | (simp only [← hji4]; first | rfl | (simp [errW_none, errW_some] <;> rfl)) | (simp [*, errW_none, errW_some] <;> rfl), by repeat (first | (with_reducible first | exact HB.out | apply below_alloc | apply pw_below_drewN | apply below_drew1) | exact HB.out)⟩
              ·rw [if_neg c61] at H
               have c61b0 : ((t242.length : Int) == x9_2) = false := beq_eq_false_iff_ne.mpr c61
               have c61b1 : ((t242.length : Int) != x9_2) = true := bne_iff_ne.mpr c61
               obtain rfl := Option.some.inj H
               obtain ⟨Ao69, co69, eo69⟩ := Kd.N_slice HO_13.out
               subst eo69
               have p237 : 0 ≤ (0 : Int) := (by omega)
               have q237 : 0 < (t226.length : Int) := of_decide_eq_true (by first | (with_reducible assumption) | assumption)
               obtain ⟨ad237, A237_0, c237_0, A237_1, c237_1, e237, hx237_0, hx237_1, hx237_2, hx237_3, hx237_4, hl237_0, hi237_0, hl237_1, hi237_1⟩ := at_T39 (Kd.N_reads' HO_13.out).2.2 0 p237 q237
               cases e237
               obtain ⟨ce237, hce237, hMe237, hcc237⟩ := Kd.N_get HO_13.out z39 0 p237 (by first | exact q237 | exact of_decide_eq_true (by first | (with_reducible assumption) | assumption) | (have e_ := (Kd.N_reads' HO_13.out).1; omega))
               obtain ⟨ua237_0, uc237_0, ua237_1, uc237_1, rfl, ul237_0, ge237_0, ul237_1, ge237_1⟩ := k39_openF hMe237
               have hv237_0 := hcc237 0 _ rfl
               rw [Nat.add_zero] at hv237_0
               replace hv237_0 := Option.some.inj (hv237_0.symm.trans hx237_0)
               injection hv237_0 with hva_ hvn_ hvc_
               rw [hva_] at ge237_0
               rw [hvc_] at ul237_0
               have HL237_0 := Aside0.mk (show Kd.V k38 38 _ w.heap.size _ _ ((rd_T39 t226 0).f0.f0) from Kd.V_mk ul237_0 ge237_0)
               clear hva_ hvn_ hvc_ ge237_0 ul237_0
               have hv237_1 := hcc237 1 _ rfl
               rw [add_field _ _ 1 (by omega)] at hv237_1
               replace hv237_1 := Option.some.inj (hv237_1.symm.trans hx237_1)
               injection hv237_1 with hva_ hvn_ hvc_
               rw [hva_] at ge237_1
               rw [hvc_] at ul237_1
               have HL237_1 := Aside0.mk (show Kd.V k64 64 _ w.heap.size _ _ ((rd_T39 t226 0).f0.f1) from Kd.V_mk ul237_1 ge237_1)
               clear hva_ hvn_ hvc_ ge237_1 ul237_1
               clear hcc237 hce237
               have qi237 : (0 < t226.length) = True := eq_true (by omega)
               (try rw [show ((0 : Int)).toNat = 0 from rfl] at hx237_0)
               (try rw [show 0 * 5 = 0 from rfl] at hx237_0)
               (try rw [Addr.add_zero'] at hx237_0)
               (try rw [show ((0 : Int)).toNat = 0 from rfl] at hx237_1)
               (try rw [show 0 * 5 = 0 from rfl] at hx237_1)
               (try rw [Addr.add_zero'] at hx237_1)
               (try rw [show ((0 : Int)).toNat = 0 from rfl] at hx237_2)
               (try rw [show 0 * 5 = 0 from rfl] at hx237_2)
               (try rw [Addr.add_zero'] at hx237_2)
               (try rw [show ((0 : Int)).toNat = 0 from rfl] at hx237_3)
               (try rw [show 0 * 5 = 0 from rfl] at hx237_3)
               (try rw [Addr.add_zero'] at hx237_3)
               (try rw [show ((0 : Int)).toNat = 0 from rfl] at hx237_4)
               (try rw [show 0 * 5 = 0 from rfl] at hx237_4)
               (try rw [Addr.add_zero'] at hx237_4)
               have HR237_0 := Aside0.mk hi237_0
               have HC237_0 := Aside0.mk hl237_0
               clear hi237_0 hl237_0
               have HR237_1 := Aside0.mk hi237_1
               have HC237_1 := Aside0.mk hl237_1
               clear hi237_1 hl237_1
               replace p237 := eq_true p237
               replace q237 := eq_true q237
               have p238 : 0 ≤ (0 : Int) := (by omega)
               have q238 : 0 < (t226.length : Int) := of_decide_eq_true (by first | (with_reducible assumption) | assumption)
               obtain ⟨ad238, A238_0, c238_0, A238_1, c238_1, e238, hx238_0, hx238_1, hx238_2, hx238_3, hx238_4, hl238_0, hi238_0, hl238_1, hi238_1⟩ := at_T39 (Kd.N_reads' HO_13.out).2.2 0 p238 q238
               obtain rfl : ad237 = ad238 := (by injection e238)
               obtain ⟨ce238, hce238, hMe238, hcc238⟩ := Kd.N_get HO_13.out z39 0 p238 (by first | exact q238 | exact of_decide_eq_true (by first | (with_reducible assumption) | assumption) | (have e_ := (Kd.N_reads' HO_13.out).1; omega))
               obtain ⟨ua238_0, uc238_0, ua238_1, uc238_1, rfl, ul238_0, ge238_0, ul238_1, ge238_1⟩ := k39_openF hMe238
               have hv238_0 := hcc238 0 _ rfl
               rw [Nat.add_zero] at hv238_0
               replace hv238_0 := Option.some.inj (hv238_0.symm.trans hx238_0)
               injection hv238_0 with hva_ hvn_ hvc_
               rw [hva_] at ge238_0
               rw [hvc_] at ul238_0
               have HL238_0 := Aside0.mk (show Kd.V k38 38 _ w.heap.size _ _ ((rd_T39 t226 0).f0.f0) from Kd.V_mk ul238_0 ge238_0)
               clear hva_ hvn_ hvc_ ge238_0 ul238_0
               have hv238_1 := hcc238 1 _ rfl
               rw [add_field _ _ 1 (by omega)] at hv238_1
               replace hv238_1 := Option.some.inj (hv238_1.symm.trans hx238_1)
               injection hv238_1 with hva_ hvn_ hvc_
               rw [hva_] at ge238_1
               rw [hvc_] at ul238_1
               have HL238_1 := Aside0.mk (show Kd.V k64 64 _ w.heap.size _ _ ((rd_T39 t226 0).f0.f1) from Kd.V_mk ul238_1 ge238_1)
               clear hva_ hvn_ hvc_ ge238_1 ul238_1
               clear hcc238 hce238
               have qi238 : (0 < t226.length) = True := eq_true (by omega)
               (try rw [show ((0 : Int)).toNat = 0 from rfl] at hx238_0)
               (try rw [show 0 * 5 = 0 from rfl] at hx238_0)
               (try rw [Addr.add_zero'] at hx238_0)
               (try rw [show ((0 : Int)).toNat = 0 from rfl] at hx238_1)
               (try rw [show 0 * 5 = 0 from rfl] at hx238_1)
               (try rw [Addr.add_zero'] at hx238_1)
               (try rw [show ((0 : Int)).toNat = 0 from rfl] at hx238_2)
               (try rw [show 0 * 5 = 0 from rfl] at hx238_2)
               (try rw [Addr.add_zero'] at hx238_2)
               (try rw [show ((0 : Int)).toNat = 0 from rfl] at hx238_3)
               (try rw [show 0 * 5 = 0 from rfl] at hx238_3)
               (try rw [Addr.add_zero'] at hx238_3)
               (try rw [show ((0 : Int)).toNat = 0 from rfl] at hx238_4)
               (try rw [show 0 * 5 = 0 from rfl] at hx238_4)
               (try rw [Addr.add_zero'] at hx238_4)
               have HR238_0 := Aside0.mk hi238_0
               have HC238_0 := Aside0.mk hl238_0
               clear hi238_0 hl238_0
               have HR238_1 := Aside0.mk hi238_1
               have HC238_1 := Aside0.mk hl238_1
               clear hi238_1 hl238_1
               replace p238 := eq_true p238
               replace q238 := eq_true q238
               have ea_ := Option.some.inj (hx237_0.symm.trans hx238_0)
               injection ea_ with ea_ en_ ec_
               subst ea_
               subst ec_
               clear en_
               have ea_ := Option.some.inj (hx237_1.symm.trans hx238_1)
               injection ea_ with ea_ en_ ec_
               subst ea_
               subst ec_
               clear en_
               go_wp2_with (first | (go_at_call 20; (with_reducible refine (coraclelaw17_mades.calls kj32 _ _ x8_2 t239 _ ?side1 ?side2 A59.out).mono ?_); (case side1 => repeat (first | exact (Kd.R_reads' HO_8.out).2.2 | (with_reducible refine Kd.C_alloc ?_ _) | (with_reducible refine Kd.C_drewN ?_ _) | (with_reducible refine Kd.C_drew ?_))); (case side2 => exact (Kd.R_reads' HO_8.out).2.1); rintro e w70 ⟨v240, rfl, ho0, hb⟩; have n0_ := Aside0.mk (Kd.R_below (by (with_reducible repeat (first | apply Kd.R_alloc | apply Kd.R_drewN | apply Kd.R_drew)); exact HO_8.out) hb); have n1_ := Aside0.mk (Kd.N_elder' (by (with_reducible repeat (first | apply Kd.N_alloc | apply Kd.N_drewN | apply Kd.N_drew)); exact HO_13.out) (Kd.R_base ho0) hb); have n2_ := Aside0.mk (Kd.V_elder' (by (with_reducible repeat (first | apply Kd.V_alloc | apply Kd.V_drewN | apply Kd.V_drew)); exact HL237_0.out) (Kd.R_base ho0) hb); have n3_ := Aside0.mk (Kd.V_elder' (by (with_reducible repeat (first | apply Kd.V_alloc | apply Kd.V_drewN | apply Kd.V_drew)); exact HL237_1.out) (Kd.R_base ho0) hb); have n4_ := Aside0.mk (Kd.V_elder' (by (with_reducible repeat (first | apply Kd.V_alloc | apply Kd.V_drewN | apply Kd.V_drew)); exact HL238_0.out) (Kd.R_base ho0) hb); have n5_ := Aside0.mk (Kd.V_elder' (by (with_reducible repeat (first | apply Kd.V_alloc | apply Kd.V_drewN | apply Kd.V_drew)); exact HL238_1.out) (Kd.R_base ho0) hb); have n6_ := Aside0.mk (Kd.R_lower ho0 (below_size (by repeat (first | (with_reducible first | exact HB.out | apply below_alloc | apply pw_below_drewN | apply below_drew1) | exact HB.out)))); have n7_ := Aside0.mk (Kd.C_below (by repeat (first | (with_reducible exact HR237_0.out) | (with_reducible refine Kd.C_alloc ?_ _) | (with_reducible refine Kd.C_drewN ?_ _) | (with_reducible refine Kd.C_drew ?_) | exact HR237_0.out)) hb); have n8_ := Aside0.mk (Kd.C_below (by repeat (first | (with_reducible exact HR237_1.out) | (with_reducible refine Kd.C_alloc ?_ _) | (with_reducible refine Kd.C_drewN ?_ _) | (with_reducible refine Kd.C_drew ?_) | exact HR237_1.out)) hb); have n9_ := Aside0.mk (Kd.C_below (by repeat (first | (with_reducible exact HR238_0.out) | (with_reducible refine Kd.C_alloc ?_ _) | (with_reducible refine Kd.C_drewN ?_ _) | (with_reducible refine Kd.C_drew ?_) | exact HR238_0.out)) hb); have n10_ := Aside0.mk (Kd.C_below (by repeat (first | (with_reducible exact HR238_1.out) | (with_reducible refine Kd.C_alloc ?_ _) | (with_reducible refine Kd.C_drewN ?_ _) | (with_reducible refine Kd.C_drew ?_) | exact HR238_1.out)) hb); have n11_ := Aside0.mk (below_step (by repeat (first | (with_reducible first | exact HB.out | apply below_alloc | apply pw_below_drewN | apply below_drew1) | exact HB.out)) hb); clear HO_8; clear HO_13; clear HL237_0; clear HL237_1; clear HL238_0; clear HL238_1; clear HR237_0; clear HR237_1; clear HR238_0; clear HR238_1; clear HB; have HO_8 := n0_; have HO_13 := n1_; have HL237_0 := n2_; have HL237_1 := n3_; have HL238_0 := n4_; have HL238_1 := n5_; have HO241 := n6_; have HR237_0 := n7_; have HR237_1 := n8_; have HR238_0 := n9_; have HR238_1 := n10_; have HB := n11_; clear n0_ n1_ n2_ n3_ n4_ n5_ n6_ n7_ n8_ n9_ n10_ n11_; (try clear hb); (try clear hb2); (try clear hk); (try clear hi); (try clear ho0); obtain ⟨Ao71, co71, eo71⟩ := Kd.R_slice HO241.out; subst eo71) | (go_at_call 27; (with_reducible refine (batch_Order.calls _ _ t239 a2 t242 _ ?side1 ?side2 A60.out).mono ?_); (case side1 => repeat (first | exact (Kd.R_reads' HO241.out).2.2 | (with_reducible refine Kd.C_alloc ?_ _) | (with_reducible refine Kd.C_drewN ?_ _) | (with_reducible refine Kd.C_drew ?_))); (case side2 => exact (Kd.R_reads' HO241.out).2.1); rintro e w72 ⟨v243, rfl, ho0, hb⟩; have n0_ := Aside0.mk (Kd.R_below (by (with_reducible repeat (first | apply Kd.R_alloc | apply Kd.R_drewN | apply Kd.R_drew)); exact HO_8.out) hb); have n1_ := Aside0.mk (Kd.N_elder' (by (with_reducible repeat (first | apply Kd.N_alloc | apply Kd.N_drewN | apply Kd.N_drew)); exact HO_13.out) (Kd.R_base ho0) hb); have n2_ := Aside0.mk (Kd.V_elder' (by (with_reducible repeat (first | apply Kd.V_alloc | apply Kd.V_drewN | apply Kd.V_drew)); exact HL237_0.out) (Kd.R_base ho0) hb); have n3_ := Aside0.mk (Kd.V_elder' (by (with_reducible repeat (first | apply Kd.V_alloc | apply Kd.V_drewN | apply Kd.V_drew)); exact HL237_1.out) (Kd.R_base ho0) hb); have n4_ := Aside0.mk (Kd.V_elder' (by (with_reducible repeat (first | apply Kd.V_alloc | apply Kd.V_drewN | apply Kd.V_drew)); exact HL238_0.out) (Kd.R_base ho0) hb); have n5_ := Aside0.mk (Kd.V_elder' (by (with_reducible repeat (first | apply Kd.V_alloc | apply Kd.V_drewN | apply Kd.V_drew)); exact HL238_1.out) (Kd.R_base ho0) hb); have n6_ := Aside0.mk (Kd.R_elder' (by (with_reducible repeat (first | apply Kd.R_alloc | apply Kd.R_drewN | apply Kd.R_drew)); exact HO241.out) (Kd.R_base ho0) hb); have n7_ := Aside0.mk (Kd.R_lower (Kd.R_new' ho0 (Kd.R_lt (by (with_reducible repeat (first | apply Kd.R_alloc | apply Kd.R_drewN | apply Kd.R_drew)); exact HO241.out))) (below_size (by repeat (first | (with_reducible first | exact HB.out | apply below_alloc | apply pw_below_drewN | apply below_drew1) | exact HB.out)))); have n8_ := Aside0.mk (Kd.C_below (by repeat (first | (with_reducible exact HR237_0.out) | (with_reducible refine Kd.C_alloc ?_ _) | (with_reducible refine Kd.C_drewN ?_ _) | (with_reducible refine Kd.C_drew ?_) | exact HR237_0.out)) hb); have n9_ := Aside0.mk (Kd.C_below (by repeat (first | (with_reducible exact HR237_1.out) | (with_reducible refine Kd.C_alloc ?_ _) | (with_reducible refine Kd.C_drewN ?_ _) | (with_reducible refine Kd.C_drew ?_) | exact HR237_1.out)) hb); have n10_ := Aside0.mk (Kd.C_below (by repeat (first | (with_reducible exact HR238_0.out) | (with_reducible refine Kd.C_alloc ?_ _) | (with_reducible refine Kd.C_drewN ?_ _) | (with_reducible refine Kd.C_drew ?_) | exact HR238_0.out)) hb); have n11_ := Aside0.mk (Kd.C_below (by repeat (first | (with_reducible exact HR238_1.out) | (with_reducible refine Kd.C_alloc ?_ _) | (with_reducible refine Kd.C_drewN ?_ _) | (with_reducible refine Kd.C_drew ?_) | exact HR238_1.out)) hb); have n12_ := Aside0.mk (below_step (by repeat (first | (with_reducible first | exact HB.out | apply below_alloc | apply pw_below_drewN | apply below_drew1) | exact HB.out)) hb); clear HO_8; clear HO_13; clear HL237_0; clear HL237_1; clear HL238_0; clear HL238_1; clear HO241; clear HR237_0; clear HR237_1; clear HR238_0; clear HR238_1; clear HB; have HO_8 := n0_; have HO_13 := n1_; have HL237_0 := n2_; have HL237_1 := n3_; have HL238_0 := n4_; have HL238_1 := n5_; have HO241 := n6_; have HO244 := n7_; have HR237_0 := n8_; have HR237_1 := n9_; have HR238_0 := n10_; have HR238_1 := n11_; have HB := n12_; clear n0_ n1_ n2_ n3_ n4_ n5_ n6_ n7_ n8_ n9_ n10_ n11_ n12_; (try clear hb); (try clear hb2); (try clear hk); (try clear hi); (try clear ho0); obtain ⟨Ao73, co73, eo73⟩ := Kd.R_slice HO244.out; subst eo73))
               go_ret
               exact ⟨by first | rfl | (simp [errW_none, errW_some] <;> rfl) | (simp only [← hji4]; first | rfl | (simp [errW_none, errW_some] <;> rfl)) | (simp [*, errW_none, errW_some] <;> rfl), by repeat (first | (with_reducible first | exact HB.out | apply below_alloc | apply pw_below_drewN | apply below_drew1) | exact HB.out)⟩
             ·rw [if_neg c58] at H
              have c58b0 : (((rd_T39 t226 0).f0.f2) == x10_2) = false := beq_eq_false_iff_ne.mpr c58
              have c58b1 : (((rd_T39 t226 0).f0.f2) != x10_2) = true := bne_iff_ne.mpr c58
              obtain rfl := Option.some.inj H
              obtain ⟨Ao74, co74, eo74⟩ := Kd.N_slice HO_13.out
              subst eo74
              have p237 : 0 ≤ (0 : Int) := (by omega)
              have q237 : 0 < (t226.length : Int) := of_decide_eq_true (by first | (with_reducible assumption) | assumption)
              obtain ⟨ad237, A237_0, c237_0, A237_1, c237_1, e237, hx237_0, hx237_1, hx237_2, hx237_3, hx237_4, hl237_0, hi237_0, hl237_1, hi237_1⟩ := at_T39 (Kd.N_reads' HO_13.out).2.2 0 p237 q237
              cases e237
              obtain ⟨ce237, hce237, hMe237, hcc237⟩ := Kd.N_get HO_13.out z39 0 p237 (by first | exact q237 | exact of_decide_eq_true (by first | (with_reducible assumption) | assumption) | (have e_ := (Kd.N_reads' HO_13.out).1; omega))
              obtain ⟨ua237_0, uc237_0, ua237_1, uc237_1, rfl, ul237_0, ge237_0, ul237_1, ge237_1⟩ := k39_openF hMe237
              have hv237_0 := hcc237 0 _ rfl
              rw [Nat.add_zero] at hv237_0
              replace hv237_0 := Option.some.inj (hv237_0.symm.trans hx237_0)
              injection hv237_0 with hva_ hvn_ hvc_
              rw [hva_] at ge237_0
              rw [hvc_] at ul237_0
              have HL237_0 := Aside0.mk (show Kd.V k38 38 _ w.heap.size _ _ ((rd_T39 t226 0).f0.f0) from Kd.V_mk ul237_0 ge237_0)
              clear hva_ hvn_ hvc_ ge237_0 ul237_0
              have hv237_1 := hcc237 1 _ rfl
              rw [add_field _ _ 1 (by omega)] at hv237_1
              replace hv237_1 := Option.some.inj (hv237_1.symm.trans hx237_1)
              injection hv237_1 with hva_ hvn_ hvc_
              rw [hva_] at ge237_1
              rw [hvc_] at ul237_1
              have HL237_1 := Aside0.mk (show Kd.V k64 64 _ w.heap.size _ _ ((rd_T39 t226 0).f0.f1) from Kd.V_mk ul237_1 ge237_1)
              clear hva_ hvn_ hvc_ ge237_1 ul237_1
              clear hcc237 hce237
              have qi237 : (0 < t226.length) = True := eq_true (by omega)
              (try rw [show ((0 : Int)).toNat = 0 from rfl] at hx237_0)
              (try rw [show 0 * 5 = 0 from rfl] at hx237_0)
              (try rw [Addr.add_zero'] at hx237_0)
              (try rw [show ((0 : Int)).toNat = 0 from rfl] at hx237_1)
              (try rw [show 0 * 5 = 0 from rfl] at hx237_1)
              (try rw [Addr.add_zero'] at hx237_1)
              (try rw [show ((0 : Int)).toNat = 0 from rfl] at hx237_2)
              (try rw [show 0 * 5 = 0 from rfl] at hx237_2)
              (try rw [Addr.add_zero'] at hx237_2)
              (try rw [show ((0 : Int)).toNat = 0 from rfl] at hx237_3)
              (try rw [show 0 * 5 = 0 from rfl] at hx237_3)
              (try rw [Addr.add_zero'] at hx237_3)
              (try rw [show ((0 : Int)).toNat = 0 from rfl] at hx237_4)
              (try rw [show 0 * 5 = 0 from rfl] at hx237_4)
              (try rw [Addr.add_zero'] at hx237_4)
              have HR237_0 := Aside0.mk hi237_0
              have HC237_0 := Aside0.mk hl237_0
              clear hi237_0 hl237_0
              have HR237_1 := Aside0.mk hi237_1
              have HC237_1 := Aside0.mk hl237_1
              clear hi237_1 hl237_1
              replace p237 := eq_true p237
              replace q237 := eq_true q237
              have p238 : 0 ≤ (0 : Int) := (by omega)
              have q238 : 0 < (t226.length : Int) := of_decide_eq_true (by first | (with_reducible assumption) | assumption)
              obtain ⟨ad238, A238_0, c238_0, A238_1, c238_1, e238, hx238_0, hx238_1, hx238_2, hx238_3, hx238_4, hl238_0, hi238_0, hl238_1, hi238_1⟩ := at_T39 (Kd.N_reads' HO_13.out).2.2 0 p238 q238
              obtain rfl : ad237 = ad238 := (by injection e238)
              obtain ⟨ce238, hce238, hMe238, hcc238⟩ := Kd.N_get HO_13.out z39 0 p238 (by first | exact q238 | exact of_decide_eq_true (by first | (with_reducible assumption) | assumption) | (have e_ := (Kd.N_reads' HO_13.out).1; omega))
              obtain ⟨ua238_0, uc238_0, ua238_1, uc238_1, rfl, ul238_0, ge238_0, ul238_1, ge238_1⟩ := k39_openF hMe238
              have hv238_0 := hcc238 0 _ rfl
              rw [Nat.add_zero] at hv238_0
              replace hv238_0 := Option.some.inj (hv238_0.symm.trans hx238_0)
              injection hv238_0 with hva_ hvn_ hvc_
              rw [hva_] at ge238_0
              rw [hvc_] at ul238_0
              have HL238_0 := Aside0.mk (show Kd.V k38 38 _ w.heap.size _ _ ((rd_T39 t226 0).f0.f0) from Kd.V_mk ul238_0 ge238_0)
              clear hva_ hvn_ hvc_ ge238_0 ul238_0
              have hv238_1 := hcc238 1 _ rfl
              rw [add_field _ _ 1 (by omega)] at hv238_1
              replace hv238_1 := Option.some.inj (hv238_1.symm.trans hx238_1)
              injection hv238_1 with hva_ hvn_ hvc_
              rw [hva_] at ge238_1
              rw [hvc_] at ul238_1
              have HL238_1 := Aside0.mk (show Kd.V k64 64 _ w.heap.size _ _ ((rd_T39 t226 0).f0.f1) from Kd.V_mk ul238_1 ge238_1)
              clear hva_ hvn_ hvc_ ge238_1 ul238_1
              clear hcc238 hce238
              have qi238 : (0 < t226.length) = True := eq_true (by omega)
              (try rw [show ((0 : Int)).toNat = 0 from rfl] at hx238_0)
              (try rw [show 0 * 5 = 0 from rfl] at hx238_0)
              (try rw [Addr.add_zero'] at hx238_0)
              (try rw [show ((0 : Int)).toNat = 0 from rfl] at hx238_1)
              (try rw [show 0 * 5 = 0 from rfl] at hx238_1)
              (try rw [Addr.add_zero'] at hx238_1)
              (try rw [show ((0 : Int)).toNat = 0 from rfl] at hx238_2)
              (try rw [show 0 * 5 = 0 from rfl] at hx238_2)
              (try rw [Addr.add_zero'] at hx238_2)
              (try rw [show ((0 : Int)).toNat = 0 from rfl] at hx238_3)
              (try rw [show 0 * 5 = 0 from rfl] at hx238_3)
              (try rw [Addr.add_zero'] at hx238_3)
              (try rw [show ((0 : Int)).toNat = 0 from rfl] at hx238_4)
              (try rw [show 0 * 5 = 0 from rfl] at hx238_4)
              (try rw [Addr.add_zero'] at hx238_4)
              have HR238_0 := Aside0.mk hi238_0
              have HC238_0 := Aside0.mk hl238_0
              clear hi238_0 hl238_0
              have HR238_1 := Aside0.mk hi238_1
              have HC238_1 := Aside0.mk hl238_1
              clear hi238_1 hl238_1
              replace p238 := eq_true p238
              replace q238 := eq_true q238
              have ea_ := Option.some.inj (hx237_0.symm.trans hx238_0)
              injection ea_ with ea_ en_ ec_
              subst ea_
              subst ec_
              clear en_
              have ea_ := Option.some.inj (hx237_1.symm.trans hx238_1)
              injection ea_ with ea_ en_ ec_
              subst ea_
              subst ec_
              clear en_
              go_wp2
              go_ret
              exact ⟨by first | rfl | (simp [errW_none, errW_some] <;> rfl) | (simp only [← hji4]; first | rfl | (simp [errW_none, errW_some] <;> rfl)) | (simp [*, errW_none, errW_some] <;> rfl), by repeat (first | (with_reducible first | exact HB.out | apply below_alloc | apply pw_below_drewN | apply below_drew1) | exact HB.out)⟩
            ·rw [if_neg c57] at H
             have c57b0 : ((((rd_T39 t226 0).f0.f0).length : Int) == x9_2) = false := beq_eq_false_iff_ne.mpr c57
             have c57b1 : ((((rd_T39 t226 0).f0.f0).length : Int) != x9_2) = true := bne_iff_ne.mpr c57
             obtain rfl := Option.some.inj H
             obtain ⟨Ao75, co75, eo75⟩ := Kd.N_slice HO_13.out
             subst eo75
             have p237 : 0 ≤ (0 : Int) := (by omega)
             have q237 : 0 < (t226.length : Int) := of_decide_eq_true (by first | (with_reducible assumption) | assumption)
             obtain ⟨ad237, A237_0, c237_0, A237_1, c237_1, e237, hx237_0, hx237_1, hx237_2, hx237_3, hx237_4, hl237_0, hi237_0, hl237_1, hi237_1⟩ := at_T39 (Kd.N_reads' HO_13.out).2.2 0 p237 q237
             cases e237
             obtain ⟨ce237, hce237, hMe237, hcc237⟩ := Kd.N_get HO_13.out z39 0 p237 (by first | exact q237 | exact of_decide_eq_true (by first | (with_reducible assumption) | assumption) | (have e_ := (Kd.N_reads' HO_13.out).1; omega))
             obtain ⟨ua237_0, uc237_0, ua237_1, uc237_1, rfl, ul237_0, ge237_0, ul237_1, ge237_1⟩ := k39_openF hMe237
             have hv237_0 := hcc237 0 _ rfl
             rw [Nat.add_zero] at hv237_0
             replace hv237_0 := Option.some.inj (hv237_0.symm.trans hx237_0)
             injection hv237_0 with hva_ hvn_ hvc_
             rw [hva_] at ge237_0
             rw [hvc_] at ul237_0
             have HL237_0 := Aside0.mk (show Kd.V k38 38 _ w.heap.size _ _ ((rd_T39 t226 0).f0.f0) from Kd.V_mk ul237_0 ge237_0)
             clear hva_ hvn_ hvc_ ge237_0 ul237_0
             have hv237_1 := hcc237 1 _ rfl
             rw [add_field _ _ 1 (by omega)] at hv237_1
             replace hv237_1 := Option.some.inj (hv237_1.symm.trans hx237_1)
             injection hv237_1 with hva_ hvn_ hvc_
             rw [hva_] at ge237_1
             rw [hvc_] at ul237_1
             have HL237_1 := Aside0.mk (show Kd.V k64 64 _ w.heap.size _ _ ((rd_T39 t226 0).f0.f1) from Kd.V_mk ul237_1 ge237_1)
             clear hva_ hvn_ hvc_ ge237_1 ul237_1
             clear hcc237 hce237
             have qi237 : (0 < t226.length) = True := eq_true (by omega)
             (try rw [show ((0 : Int)).toNat = 0 from rfl] at hx237_0)
             (try rw [show 0 * 5 = 0 from rfl] at hx237_0)
             (try rw [Addr.add_zero'] at hx237_0)
             (try rw [show ((0 : Int)).toNat = 0 from rfl] at hx237_1)
             (try rw [show 0 * 5 = 0 from rfl] at hx237_1)
             (try rw [Addr.add_zero'] at hx237_1)
             (try rw [show ((0 : Int)).toNat = 0 from rfl] at hx237_2)
             (try rw [show 0 * 5 = 0 from rfl] at hx237_2)
             (try rw [Addr.add_zero'] at hx237_2)
             (try rw [show ((0 : Int)).toNat = 0 from rfl] at hx237_3)
             (try rw [show 0 * 5 = 0 from rfl] at hx237_3)
             (try rw [Addr.add_zero'] at hx237_3)
             (try rw [show ((0 : Int)).toNat = 0 from rfl] at hx237_4)
             (try rw [show 0 * 5 = 0 from rfl] at hx237_4)
             (try rw [Addr.add_zero'] at hx237_4)
             have HR237_0 := Aside0.mk hi237_0
             have HC237_0 := Aside0.mk hl237_0
             clear hi237_0 hl237_0
             have HR237_1 := Aside0.mk hi237_1
             have HC237_1 := Aside0.mk hl237_1
             clear hi237_1 hl237_1
             replace p237 := eq_true p237
             replace q237 := eq_true q237
             go_wp2
             go_ret
             exact ⟨by first | rfl | (simp [errW_none, errW_some] <;> rfl) | (simp only [← hji4]; first | rfl | (simp [errW_none, errW_some] <;> rfl)) | (simp [*, errW_none, errW_some] <;> rfl), by repeat (first | (with_reducible first | exact HB.out | apply below_alloc | apply pw_below_drewN | apply below_drew1) | exact HB.out)⟩
           ·rw [if_neg c56] at H
            exact absurd H (by simp)
/-- THE ONE PURE STATEMENT of coraclelaw17_BatchWaits: yours. -/
def coraclelaw17_BatchWaits.Pure : Prop := ∀ (l0 : List Int) (l1 : List Int) (a2 : Int), l0.length ≤ maxLen → l0.length * 8 ≤ 140737488351232 → (∀ x ∈ l0, (Lit.int .i64 x).wf = true) → l1.length ≤ maxLen → l1.length * 8 ≤ 140737488351232 → (∀ x ∈ l1, (Lit.int .i64 x).wf = true) → (Lit.int .i64 a2).wf = true → ∃ k, coraclelaw17_BatchWaits.f k l0 l1 a2 = some true
theorem coraclelaw17_BatchWaits.walk (P : coraclelaw17_BatchWaits.Pure) (a0 : Option Addr) (len0 cap0 : Nat) (z0 : List Int) (a1 : Option Addr) (len1 cap1 : Nat) (z1 : List Int) (a2 : Int) (w : World) (w0 : (a0 = none ∧ len0 = 0 ∧ cap0 = 0 ∧ z0 = []) ∨ ∃ x, a0 = some x ∧ len0 ≤ cap0 ∧ cap0 ≤ maxLen ∧ z0.length = cap0 ∧ (∀ i, i < z0.length → w.cell? (x.add i) = some (.int .i64 (z0.getD i 0))) ∧ ∀ n ∈ z0, (Lit.int .i64 n).wf = true) (y0 : len0 * 8 ≤ 140737488351232) (w1 : (a1 = none ∧ len1 = 0 ∧ cap1 = 0 ∧ z1 = []) ∨ ∃ x, a1 = some x ∧ len1 ≤ cap1 ∧ cap1 ≤ maxLen ∧ z1.length = cap1 ∧ (∀ i, i < z1.length → w.cell? (x.add i) = some (.int .i64 (z1.getD i 0))) ∧ ∀ n ∈ z1, (Lit.int .i64 n).wf = true) (y1 : len1 * 8 ≤ 140737488351232) (w2 : (Lit.int .i64 a2).wf = true) :
 Calls Try.prog 8 #[.slice a0 len0 cap0, .slice a1 len1 cap1, .int .i64 a2] w fun e w' => e = .returned (.bool true) ∧ Below w.heap.size w w' := by
 obtain ⟨l0, rfl, hr0, hm0, hw0, hc0⟩ := ReadsInt.ofRowC w0
 obtain ⟨l1, rfl, hr1, hm1, hw1, hc1⟩ := ReadsInt.ofRowC w1
 obtain ⟨k, h⟩ := P l0 l1 a2 hm0 y0 hw0 hm1 y1 hw1 w2
 refine (coraclelaw17_BatchWaits.calls k _ _ l0 _ _ l1 a2 true w (Kd.C_of_reads (d := (0 : Int)) (h1 := fun _ => rfl) hr0) hc0 (Kd.C_of_reads (d := (0 : Int)) (h1 := fun _ => rfl) hr1) hc1 h).mono ?_
 rintro e w' ⟨rfl, hd⟩
 exact ⟨rfl, hd⟩
end Go.Proofs.Ytiodebjjbgcbhaa.QBat
