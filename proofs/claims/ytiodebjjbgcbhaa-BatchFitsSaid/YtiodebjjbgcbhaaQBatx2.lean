/- Functions of the program as plain Lean functions, and that its calls come to what these tell: written by a program of this session; Lean checks it. -/
import Derived.Test.YtiodebjjbgcbhaaQBatx1
namespace Go.Proofs.Ytiodebjjbgcbhaa.QBat
open Go.RowKit Go.Proofs.Ytiodebjjbgcbhaa.Hand Go.Proofs.YtiodebjjbgcbhaaW.PrintWords Go.Proofs.YtiodebjjbgcbhaaW.PrintLast Go.Proofs.YtiodebjjbgcbhaaW.PrintMore Go.Proofs.Ytiodebjjbgcbhaa.QLef
attribute [local go_sem] max2_int min2_int max_two min_two max_three min_three max_four min_four run_equalIn_c run_fop run_feq run_fne run_flt run_fle run_fgt run_fge run_fint run_toi run_real' run_imag' run_complex' run_ceq run_cne run_cadd run_csub Wide.cellsAt_drewN Wide.cellsAt_drew Wide.lw32 Wide.lw33 Wide.lw37 Wide.lw38 Wide.lw39 Wide.lw44
attribute [local go_sem ↓ high] Wide.hv32 Wide.hv33 Wide.hv37 Wide.hv38 Wide.hv39 Wide.hv44
set_option linter.unusedVariables false
set_option linter.unusedSimpArgs false
/-! ### coraclelaw17_BatchFits: function 7 -/
mutual
def coraclelaw17_BatchFits.j0 : Nat → Int → Int → Int → Bool → Option (Bool)
 | 0, _, _, _, _ => none
 | k + 1, x0, x1, x2, x36 => if x36 = true then ((coraclelaw17_awake.f).bind fun t107 => (some t107)) else (coraclelaw17_BatchFits.l0 k x0 x1 x2 ([] : List (S68)) 0)
def coraclelaw17_BatchFits.l0 : Nat → Int → Int → Int → List (S68) → Int → Option (Bool)
 | 0, _, _, _, _, _ => none
 | k + 1, x0, x1, x2, x7, x8 => if x8 < x0 then ((coraclelaw17_one.f x8 100000 50000).bind fun bt108 => (if x7.length < 1034834473200 then (coraclelaw17_BatchFits.l0 k x0 x1 x2 (x7 ++ [(⟨(⟨(⟨bt108.1, bt108.2.1, bt108.2.2.1, bt108.2.2.2.1, bt108.2.2.2.2.1, bt108.2.2.2.2.2.1, bt108.2.2.2.2.2.2.1, bt108.2.2.2.2.2.2.2.1, bt108.2.2.2.2.2.2.2.2.1, bt108.2.2.2.2.2.2.2.2.2.1, bt108.2.2.2.2.2.2.2.2.2.2.1, bt108.2.2.2.2.2.2.2.2.2.2.2.1, bt108.2.2.2.2.2.2.2.2.2.2.2.2.1, bt108.2.2.2.2.2.2.2.2.2.2.2.2.2.1, bt108.2.2.2.2.2.2.2.2.2.2.2.2.2.2.1, bt108.2.2.2.2.2.2.2.2.2.2.2.2.2.2.2.1, bt108.2.2.2.2.2.2.2.2.2.2.2.2.2.2.2.2.1, bt108.2.2.2.2.2.2.2.2.2.2.2.2.2.2.2.2.2.1, bt108.2.2.2.2.2.2.2.2.2.2.2.2.2.2.2.2.2.2.1, bt108.2.2.2.2.2.2.2.2.2.2.2.2.2.2.2.2.2.2.2.1, bt108.2.2.2.2.2.2.2.2.2.2.2.2.2.2.2.2.2.2.2.2.1, bt108.2.2.2.2.2.2.2.2.2.2.2.2.2.2.2.2.2.2.2.2.2.1, bt108.2.2.2.2.2.2.2.2.2.2.2.2.2.2.2.2.2.2.2.2.2.2.1, bt108.2.2.2.2.2.2.2.2.2.2.2.2.2.2.2.2.2.2.2.2.2.2.2.1, bt108.2.2.2.2.2.2.2.2.2.2.2.2.2.2.2.2.2.2.2.2.2.2.2.2.1, bt108.2.2.2.2.2.2.2.2.2.2.2.2.2.2.2.2.2.2.2.2.2.2.2.2.2.1, bt108.2.2.2.2.2.2.2.2.2.2.2.2.2.2.2.2.2.2.2.2.2.2.2.2.2.2.1, bt108.2.2.2.2.2.2.2.2.2.2.2.2.2.2.2.2.2.2.2.2.2.2.2.2.2.2.2.1, bt108.2.2.2.2.2.2.2.2.2.2.2.2.2.2.2.2.2.2.2.2.2.2.2.2.2.2.2.2.1, bt108.2.2.2.2.2.2.2.2.2.2.2.2.2.2.2.2.2.2.2.2.2.2.2.2.2.2.2.2.2.1, bt108.2.2.2.2.2.2.2.2.2.2.2.2.2.2.2.2.2.2.2.2.2.2.2.2.2.2.2.2.2.2.1, bt108.2.2.2.2.2.2.2.2.2.2.2.2.2.2.2.2.2.2.2.2.2.2.2.2.2.2.2.2.2.2.2.1⟩ : S32), bt108.2.2.2.2.2.2.2.2.2.2.2.2.2.2.2.2.2.2.2.2.2.2.2.2.2.2.2.2.2.2.2.2.1⟩ : S34), bt108.2.2.2.2.2.2.2.2.2.2.2.2.2.2.2.2.2.2.2.2.2.2.2.2.2.2.2.2.2.2.2.2.2.1, (⟨(⟨bt108.2.2.2.2.2.2.2.2.2.2.2.2.2.2.2.2.2.2.2.2.2.2.2.2.2.2.2.2.2.2.2.2.2.2.1, bt108.2.2.2.2.2.2.2.2.2.2.2.2.2.2.2.2.2.2.2.2.2.2.2.2.2.2.2.2.2.2.2.2.2.2.2.1, bt108.2.2.2.2.2.2.2.2.2.2.2.2.2.2.2.2.2.2.2.2.2.2.2.2.2.2.2.2.2.2.2.2.2.2.2.2.1⟩ : S36), bt108.2.2.2.2.2.2.2.2.2.2.2.2.2.2.2.2.2.2.2.2.2.2.2.2.2.2.2.2.2.2.2.2.2.2.2.2.2.1, bt108.2.2.2.2.2.2.2.2.2.2.2.2.2.2.2.2.2.2.2.2.2.2.2.2.2.2.2.2.2.2.2.2.2.2.2.2.2.2.1, bt108.2.2.2.2.2.2.2.2.2.2.2.2.2.2.2.2.2.2.2.2.2.2.2.2.2.2.2.2.2.2.2.2.2.2.2.2.2.2.2.1⟩ : S66), bt108.2.2.2.2.2.2.2.2.2.2.2.2.2.2.2.2.2.2.2.2.2.2.2.2.2.2.2.2.2.2.2.2.2.2.2.2.2.2.2.2.1, bt108.2.2.2.2.2.2.2.2.2.2.2.2.2.2.2.2.2.2.2.2.2.2.2.2.2.2.2.2.2.2.2.2.2.2.2.2.2.2.2.2.2.1, bt108.2.2.2.2.2.2.2.2.2.2.2.2.2.2.2.2.2.2.2.2.2.2.2.2.2.2.2.2.2.2.2.2.2.2.2.2.2.2.2.2.2.2.1, bt108.2.2.2.2.2.2.2.2.2.2.2.2.2.2.2.2.2.2.2.2.2.2.2.2.2.2.2.2.2.2.2.2.2.2.2.2.2.2.2.2.2.2.2⟩ : S68)]) (wrap64 (x8 + 1))) else (none))) else ((coraclelaw17_mades.f k x7).bind fun t155 => ((batch_All.f t155 x2 (wrap64 ((wrap64 (4 * (wrap64 ((wrap64 (10 + (wrap64 (41 * x1)))) + 34)))) + (wrap64 (74 * x1)))) 1).bind fun bt158 => (if bt158.2 = 0 then (if x1 = 0 then (none) else (coraclelaw17_BatchFits.j2 k x0 x1 (wrap64 ((wrap64 (4 * (wrap64 ((wrap64 (10 + (wrap64 (41 * x1)))) + 34)))) + (wrap64 (74 * x1)))) bt158.1 ((bt158.1.length : Int) != (wrap64 (Int.tdiv (wrap64 ((wrap64 (x0 + x1)) - 1)) x1))))) else (coraclelaw17_BatchFits.j2 k x0 x1 (wrap64 ((wrap64 (4 * (wrap64 ((wrap64 (10 + (wrap64 (41 * x1)))) + 34)))) + (wrap64 (74 * x1)))) bt158.1 true))))
def coraclelaw17_BatchFits.j2 : Nat → Int → Int → Int → List (S39) → Bool → Option (Bool)
 | 0, _, _, _, _, _ => none
 | k + 1, x0, x1, x9, x10, x76 => if x76 = true then (some false) else (coraclelaw17_BatchFits.l1 k x0 x1 x9 x10 0 0)
def coraclelaw17_BatchFits.l1 : Nat → Int → Int → Int → List (S39) → Int → Int → Option (Bool)
 | 0, _, _, _, _, _, _ => none
 | k + 1, x0, x1, x9, x10, x12, x13 => if x13 < (x10.length : Int) then (coraclelaw17_BatchFits.l2 k x0 x1 x9 x10 x12 x13 0) else (if x12 = x0 then ((coraclelaw17_awake.f).bind fun t162 => (some t162)) else (some false))
def coraclelaw17_BatchFits.l2 : Nat → Int → Int → Int → List (S39) → Int → Int → Int → Option (Bool)
 | 0, _, _, _, _, _, _, _ => none
 | k + 1, x0, x1, x9, x10, x12, x13, x14 => if 0 ≤ x13 then (if x13 < (x10.length : Int) then (if x14 < (((rd_T39 x10 x13).f0.f0).length : Int) then (if 0 ≤ x14 then (if ((rd_T38 ((rd_T39 x10 x13).f0.f0) x14).f0.f1) = x12 then (coraclelaw17_BatchFits.l2 k x0 x1 x9 x10 (wrap64 (x12 + 1)) x13 (wrap64 (x14 + 1))) else (some false)) else (none)) else ((tx_Weight.f ((rd_T39 x10 x13).f0.f0) ((rd_T39 x10 x13).f0.f1) ((rd_T39 x10 x13).f0.f2)).bind fun t167 => (if t167 > x9 then (some false) else (if (wrap64 (x13 + 1)) < (x10.length : Int) then (if (((rd_T39 x10 x13).f0.f0).length : Int) = x1 then (coraclelaw17_BatchFits.l1 k x0 x1 x9 x10 x12 (wrap64 (x13 + 1))) else (some false)) else (coraclelaw17_BatchFits.l1 k x0 x1 x9 x10 x12 (wrap64 (x13 + 1))))))) else (none)) else (none)
end
def coraclelaw17_BatchFits.f (k : Nat) (a0 a1 a2 : Int) : Option (Bool) := if a0 < 1 then (coraclelaw17_BatchFits.j0 k a0 a1 a2 true) else (if a0 > 40 then (coraclelaw17_BatchFits.j0 k a0 a1 a2 true) else (if a1 < 1 then (coraclelaw17_BatchFits.j0 k a0 a1 a2 true) else (if a1 > 40 then (coraclelaw17_BatchFits.j0 k a0 a1 a2 true) else (if a2 < 1 then (coraclelaw17_BatchFits.j0 k a0 a1 a2 true) else (coraclelaw17_BatchFits.j0 k a0 a1 a2 (decide (a2 > 9)))))))
theorem coraclelaw17_BatchFits.mono_l : ∀ k, (∀ y0 y1 y2 y3, LeO (coraclelaw17_BatchFits.j0 k y0 y1 y2 y3) (coraclelaw17_BatchFits.j0 (k + 1) y0 y1 y2 y3)) ∧ (∀ y0 y1 y2 y3 y4, LeO (coraclelaw17_BatchFits.l0 k y0 y1 y2 y3 y4) (coraclelaw17_BatchFits.l0 (k + 1) y0 y1 y2 y3 y4)) ∧ (∀ y0 y1 y2 y3 y4, LeO (coraclelaw17_BatchFits.j2 k y0 y1 y2 y3 y4) (coraclelaw17_BatchFits.j2 (k + 1) y0 y1 y2 y3 y4)) ∧ (∀ y0 y1 y2 y3 y4 y5, LeO (coraclelaw17_BatchFits.l1 k y0 y1 y2 y3 y4 y5) (coraclelaw17_BatchFits.l1 (k + 1) y0 y1 y2 y3 y4 y5)) ∧ (∀ y0 y1 y2 y3 y4 y5 y6, LeO (coraclelaw17_BatchFits.l2 k y0 y1 y2 y3 y4 y5 y6) (coraclelaw17_BatchFits.l2 (k + 1) y0 y1 y2 y3 y4 y5 y6))
 | 0 => ⟨fun _ _ _ _ r h => by simp [coraclelaw17_BatchFits.j0] at h, fun _ _ _ _ _ r h => by simp [coraclelaw17_BatchFits.l0] at h, fun _ _ _ _ _ r h => by simp [coraclelaw17_BatchFits.j2] at h, fun _ _ _ _ _ _ r h => by simp [coraclelaw17_BatchFits.l1] at h, fun _ _ _ _ _ _ _ r h => by simp [coraclelaw17_BatchFits.l2] at h⟩
 | k + 1 => by
  obtain ⟨ih0, ih1, ih2, ih3, ih4⟩ := coraclelaw17_BatchFits.mono_l k
  refine ⟨?_, ?_, ?_, ?_, ?_⟩
  ·intro y0 y1 y2 y3
   unfold coraclelaw17_BatchFits.j0
   repeat' first
   | (with_reducible exact ih0 _ _ _ _)
   | (with_reducible exact ih1 _ _ _ _ _)
   | (with_reducible exact ih2 _ _ _ _ _)
   | (with_reducible exact ih3 _ _ _ _ _ _)
   | (with_reducible exact ih4 _ _ _ _ _ _ _)
   | (with_reducible exact coraclelaw17_mades.mono _ _)
   | (with_reducible exact LeO.refl _)
   | (with_reducible exact LeO.none _)
   | (with_reducible refine LeO.ite ?_ ?_)
   | (with_reducible refine LeO.bind ?_ (fun _ => ?_))
   | exact ih0 _ _ _ _
   | exact ih1 _ _ _ _ _
   | exact ih2 _ _ _ _ _
   | exact ih3 _ _ _ _ _ _
   | exact ih4 _ _ _ _ _ _ _
   | exact coraclelaw17_mades.mono _ _
   | exact LeO.none _
   | refine LeO.ite ?_ ?_
   | refine LeO.bind ?_ (fun _ => ?_)
  ·intro y0 y1 y2 y3 y4
   unfold coraclelaw17_BatchFits.l0
   repeat' first
   | (with_reducible exact ih0 _ _ _ _)
   | (with_reducible exact ih1 _ _ _ _ _)
   | (with_reducible exact ih2 _ _ _ _ _)
   | (with_reducible exact ih3 _ _ _ _ _ _)
   | (with_reducible exact ih4 _ _ _ _ _ _ _)
   | (with_reducible exact coraclelaw17_mades.mono _ _)
   | (with_reducible exact LeO.refl _)
   | (with_reducible exact LeO.none _)
   | (with_reducible refine LeO.ite ?_ ?_)
   | (with_reducible refine LeO.bind ?_ (fun _ => ?_))
   | exact ih0 _ _ _ _
   | exact ih1 _ _ _ _ _
   | exact ih2 _ _ _ _ _
   | exact ih3 _ _ _ _ _ _
   | exact ih4 _ _ _ _ _ _ _
   | exact coraclelaw17_mades.mono _ _
   | exact LeO.none _
   | refine LeO.ite ?_ ?_
   | refine LeO.bind ?_ (fun _ => ?_)
  ·intro y0 y1 y2 y3 y4
   unfold coraclelaw17_BatchFits.j2
   repeat' first
   | (with_reducible exact ih0 _ _ _ _)
   | (with_reducible exact ih1 _ _ _ _ _)
   | (with_reducible exact ih2 _ _ _ _ _)
   | (with_reducible exact ih3 _ _ _ _ _ _)
   | (with_reducible exact ih4 _ _ _ _ _ _ _)
   | (with_reducible exact coraclelaw17_mades.mono _ _)
   | (with_reducible exact LeO.refl _)
   | (with_reducible exact LeO.none _)
   | (with_reducible refine LeO.ite ?_ ?_)
   | (with_reducible refine LeO.bind ?_ (fun _ => ?_))
   | exact ih0 _ _ _ _
   | exact ih1 _ _ _ _ _
   | exact ih2 _ _ _ _ _
   | exact ih3 _ _ _ _ _ _
   | exact ih4 _ _ _ _ _ _ _
   | exact coraclelaw17_mades.mono _ _
   | exact LeO.none _
   | refine LeO.ite ?_ ?_
   | refine LeO.bind ?_ (fun _ => ?_)
  ·intro y0 y1 y2 y3 y4 y5
   unfold coraclelaw17_BatchFits.l1
   repeat' first
   | (with_reducible exact ih0 _ _ _ _)
   | (with_reducible exact ih1 _ _ _ _ _)
   | (with_reducible exact ih2 _ _ _ _ _)
   | (with_reducible exact ih3 _ _ _ _ _ _)
   | (with_reducible exact ih4 _ _ _ _ _ _ _)
   | (with_reducible exact coraclelaw17_mades.mono _ _)
   | (with_reducible exact LeO.refl _)
   | (with_reducible exact LeO.none _)
   | (with_reducible refine LeO.ite ?_ ?_)
   | (with_reducible refine LeO.bind ?_ (fun _ => ?_))
   | exact ih0 _ _ _ _
   | exact ih1 _ _ _ _ _
   | exact ih2 _ _ _ _ _
   | exact ih3 _ _ _ _ _ _
   | exact ih4 _ _ _ _ _ _ _
   | exact coraclelaw17_mades.mono _ _
   | exact LeO.none _
   | refine LeO.ite ?_ ?_
   | refine LeO.bind ?_ (fun _ => ?_)
  ·intro y0 y1 y2 y3 y4 y5 y6
   unfold coraclelaw17_BatchFits.l2
   repeat' first
   | (with_reducible exact ih0 _ _ _ _)
   | (with_reducible exact ih1 _ _ _ _ _)
   | (with_reducible exact ih2 _ _ _ _ _)
   | (with_reducible exact ih3 _ _ _ _ _ _)
   | (with_reducible exact ih4 _ _ _ _ _ _ _)
   | (with_reducible exact coraclelaw17_mades.mono _ _)
   | (with_reducible exact LeO.refl _)
   | (with_reducible exact LeO.none _)
   | (with_reducible refine LeO.ite ?_ ?_)
   | (with_reducible refine LeO.bind ?_ (fun _ => ?_))
   | exact ih0 _ _ _ _
   | exact ih1 _ _ _ _ _
   | exact ih2 _ _ _ _ _
   | exact ih3 _ _ _ _ _ _
   | exact ih4 _ _ _ _ _ _ _
   | exact coraclelaw17_mades.mono _ _
   | exact LeO.none _
   | refine LeO.ite ?_ ?_
   | refine LeO.bind ?_ (fun _ => ?_)
set_option maxHeartbeats 8000000 in
set_option maxRecDepth 100000 in
theorem coraclelaw17_BatchFits.calls (k : Nat) (a0 a1 a2 : Int) (r : Bool) (w : World) (h : coraclelaw17_BatchFits.f k a0 a1 a2 = some r) :
 Calls Try.prog 7 #[.int .i64 a0, .int .i64 a1, .int .i64 a2] w fun e w' => e = .returned (.bool r) ∧ Below w.heap.size w w' := by
 have hu28 := Try.underlying28
 have HB := Aside0.mk (Below.refl w.heap.size w)
 have H : (if a0 < 1 then (coraclelaw17_BatchFits.j0 k a0 a1 a2 true) else (if a0 > 40 then (coraclelaw17_BatchFits.j0 k a0 a1 a2 true) else (if a1 < 1 then (coraclelaw17_BatchFits.j0 k a0 a1 a2 true) else (if a1 > 40 then (coraclelaw17_BatchFits.j0 k a0 a1 a2 true) else (if a2 < 1 then (coraclelaw17_BatchFits.j0 k a0 a1 a2 true) else (coraclelaw17_BatchFits.j0 k a0 a1 a2 (decide (a2 > 9)))))))) = some r := h
 clear h
 have HC4 := Aside0.mk H
 clear H
 go_enter Try.func7, Try.ntmps7
 go_upto_region 1 with (fail)
 go_cut [36] (fun v36 wc => ∃ (kq : Nat) (x36_3 : Bool), v36 = .bool x36_3 ∧ Aside0 (coraclelaw17_BatchFits.j0 kq a0 a1 a2 x36_3 = some r) ∧ Aside0 (kq ≤ k) ∧ Aside0 (Below w.heap.size w wc))
 case first =>
  have H := HC4.out
  clear HC4
  by_cases c5 : a0 < 1
  ·rw [if_pos c5] at H
   have c5b0 : decide (a0 < 1) = true := decide_eq_true c5
   clear c5
   (first | rw [c5b0] | (simp only [i64_w, i32_w]; rw [c5b0]) | skip)
   have H' := Aside0.mk H
   clear H
   go_wp2
   go_meet
   case rel => exact ⟨_, (true), (by first | rfl | (simp; done) | (simp [*]; done)), H', ⟨by first | omega | exact Nat.le_refl _⟩, ⟨by repeat (first | (with_reducible first | exact HB.out | apply below_alloc | apply pw_below_drewN | apply below_drew1) | exact HB.out)⟩⟩
  ·rw [if_neg c5] at H
   have c5b0 : decide (a0 < 1) = false := decide_eq_false c5
   clear c5
   (first | rw [c5b0] | (simp only [i64_w, i32_w]; rw [c5b0]) | skip)
   by_cases c6 : a0 > 40
   ·rw [if_pos c6] at H
    have c6b0 : decide (40 < a0) = true := decide_eq_true c6
    clear c6
    have H' := Aside0.mk H
    clear H
    go_wp2
    go_meet
    case rel => exact ⟨_, (true), (by first | rfl | (simp; done) | (simp [*]; done)), H', ⟨by first | omega | exact Nat.le_refl _⟩, ⟨by repeat (first | (with_reducible first | exact HB.out | apply below_alloc | apply pw_below_drewN | apply below_drew1) | exact HB.out)⟩⟩
   ·rw [if_neg c6] at H
    have c6b0 : decide (40 < a0) = false := decide_eq_false c6
    clear c6
    by_cases c7 : a1 < 1
    ·rw [if_pos c7] at H
     have c7b0 : decide (a1 < 1) = true := decide_eq_true c7
     clear c7
     have H' := Aside0.mk H
     clear H
     go_wp2
     go_meet
     case rel => exact ⟨_, (true), (by first | rfl | (simp; done) | (simp [*]; done)), H', ⟨by first | omega | exact Nat.le_refl _⟩, ⟨by repeat (first | (with_reducible first | exact HB.out | apply below_alloc | apply pw_below_drewN | apply below_drew1) | exact HB.out)⟩⟩
    ·rw [if_neg c7] at H
     have c7b0 : decide (a1 < 1) = false := decide_eq_false c7
     clear c7
     by_cases c8 : a1 > 40
     ·rw [if_pos c8] at H
      have c8b0 : decide (40 < a1) = true := decide_eq_true c8
      clear c8
      have H' := Aside0.mk H
      clear H
      go_wp2
      go_meet
      case rel => exact ⟨_, (true), (by first | rfl | (simp; done) | (simp [*]; done)), H', ⟨by first | omega | exact Nat.le_refl _⟩, ⟨by repeat (first | (with_reducible first | exact HB.out | apply below_alloc | apply pw_below_drewN | apply below_drew1) | exact HB.out)⟩⟩
     ·rw [if_neg c8] at H
      have c8b0 : decide (40 < a1) = false := decide_eq_false c8
      clear c8
      by_cases c9 : a2 < 1
      ·rw [if_pos c9] at H
       have c9b0 : decide (a2 < 1) = true := decide_eq_true c9
       clear c9
       have H' := Aside0.mk H
       clear H
       go_wp2
       go_meet
       case rel => exact ⟨_, (true), (by first | rfl | (simp; done) | (simp [*]; done)), H', ⟨by first | omega | exact Nat.le_refl _⟩, ⟨by repeat (first | (with_reducible first | exact HB.out | apply below_alloc | apply pw_below_drewN | apply below_drew1) | exact HB.out)⟩⟩
      ·rw [if_neg c9] at H
       have c9b0 : decide (a2 < 1) = false := decide_eq_false c9
       clear c9
       have H' := Aside0.mk H
       clear H
       go_wp2
       go_meet
       case rel => exact ⟨_, (decide (a2 > 9)), (by first | rfl | (simp; done) | (simp [*]; done)), H', ⟨by first | omega | exact Nat.le_refl _⟩, ⟨by repeat (first | (with_reducible first | exact HB.out | apply below_alloc | apply pw_below_drewN | apply below_drew1) | exact HB.out)⟩⟩
 case rest =>
  clear HC4
  try clear p2
  try clear c5
  try clear c5b0
  try clear c6
  try clear c6b0
  try clear c7
  try clear c7b0
  try clear c8
  try clear c8b0
  try clear c9
  try clear c9b0
  obtain ⟨kq, x36_3, rfl, HA, HJ3, HB⟩ := hcut
  cases kq with
  | zero => exact absurd HA.out (by simp [coraclelaw17_BatchFits.j0])
  | succ kj3 =>
   have H := HA.out
   clear HA
   simp only [coraclelaw17_BatchFits.j0] at H
   by_cases c10 : x36_3 = true
   ·subst c10
    have H1 : ((coraclelaw17_awake.f).bind fun t107 => (some t107)) = some r := by rw [if_pos rfl] at H; exact H
    clear H
    have H := H1
    clear H1
    replace H := Option.bind_eq_some_iff.mp H
    obtain ⟨t107, A110, H⟩ := H
    replace H : (some t107) = some r := H
    have A11 := Aside0.mk A110
    clear A110
    obtain rfl := Option.some.inj H
    go_wp2_with (first | ((with_reducible refine gate_callee (f := 18) rfl ?_); refine goesL_ (some 37) rfl rfl Try.func18 (by kernel_rfl) rfl #[] rfl (by (try simp only [List.map_toArray, List.map_cons, List.map_nil]); first | done | rfl | (simp only [List.length_drop, List.length_take]; rfl)) ?_; (with_reducible refine (coraclelaw17_awake.calls  t107 _ A11.out).mono ?_); rintro e w12 ⟨rfl, hb⟩; refine ⟨_, rfl, ?_⟩; have n0_ := Aside0.mk (below_step (by repeat (first | (with_reducible first | exact HB.out | apply below_alloc | apply pw_below_drewN | apply below_drew1) | exact HB.out)) hb); clear HB; have HB := n0_; clear n0_; (try clear hb); (try clear hb2); (try clear hk); (try clear hi)))
    go_ret
    exact ⟨by first | rfl | (simp [errW_none, errW_some] <;> rfl) | (simp [*, errW_none, errW_some] <;> rfl), by repeat (first | (with_reducible first | exact HB.out | apply below_alloc | apply pw_below_drewN | apply below_drew1) | exact HB.out)⟩
   ·replace c10 := Bool.eq_false_iff.mpr c10
    subst c10
    have H1 : (coraclelaw17_BatchFits.l0 kj3 a0 a1 a2 ([] : List (S68)) 0) = some r := by rw [if_neg (show ¬ (false = true) by decide)] at H; exact H
    clear H
    have H := H1
    clear H1
    have H' := Aside0.mk H
    clear H
    go_wp2
    go_loopg [7, 8] kj3 (fun kq v7 v8 w' => ∃ (x7_2 : List (S68)) (x8_2 : Int), v8 = .int .i64 x8_2 ∧ Aside0 (coraclelaw17_BatchFits.l0 kq a0 a1 a2 x7_2 x8_2 = some r) ∧ Aside0 (kq ≤ kj3) ∧ Aside0 (Kd.R k68 68 w' w.heap.size (fun _ => True) v7 x7_2) ∧ Aside0 (Below w.heap.size w w'))
    case atStart => exact ⟨(([] : List (S68))), (0), (by first | rfl | (simp; done) | (simp [*]; done)), H', ⟨Nat.le_refl _⟩, ⟨by first | exact Kd.R_nil _ _ _ _ _ | exact Kd.N_nil _ _ _ _ _ | exact Kd.V_nil _ _ _ _ _ | exact Kd.Q_nil _ _ _ _ _ | exact Kd.S_nil _ _ _ _ _⟩, ⟨by repeat (first | (with_reducible first | exact HB.out | apply below_alloc | apply pw_below_drewN | apply below_drew1) | exact HB.out)⟩⟩
    case round =>
     clear H'
     try clear c1
     try clear p2
     try clear c5
     try clear c5b0
     try clear c6
     try clear c6b0
     try clear c7
     try clear c7b0
     try clear c8
     try clear c8b0
     try clear c9
     try clear c9b0
     try clear c10
     try clear p2
     obtain ⟨x7_2, x8_2, rfl, HA, HK2, HO_7, HB⟩ := hrel
     cases gk with
     | zero => exact absurd HA.out (by simp [coraclelaw17_BatchFits.l0])
     | succ k2 =>
      have H := HA.out
      clear HA
      simp only [coraclelaw17_BatchFits.l0] at H
      by_cases c13 : x8_2 < a0
      ·rw [if_pos c13] at H
       have c13b0 : decide (x8_2 < a0) = true := decide_eq_true c13
       clear c13
       replace H := Option.bind_eq_some_iff.mp H
       obtain ⟨⟨t108, t109, t110, t111, t112, t113, t114, t115, t116, t117, t118, t119, t120, t121, t122, t123, t124, t125, t126, t127, t128, t129, t130, t131, t132, t133, t134, t135, t136, t137, t138, t139, t140, t141, t142, t143, t144, t145, t146, t147, t148, t149, t150, t151⟩, A140, H⟩ := H
       replace H : (if x7_2.length < 1034834473200 then (coraclelaw17_BatchFits.l0 k2 a0 a1 a2 (x7_2 ++ [(⟨(⟨(⟨t108, t109, t110, t111, t112, t113, t114, t115, t116, t117, t118, t119, t120, t121, t122, t123, t124, t125, t126, t127, t128, t129, t130, t131, t132, t133, t134, t135, t136, t137, t138, t139⟩ : S32), t140⟩ : S34), t141, (⟨(⟨t142, t143, t144⟩ : S36), t145, t146, t147⟩ : S66), t148, t149, t150, t151⟩ : S68)]) (wrap64 (x8_2 + 1))) else (none)) = some r := H
       have A14 := Aside0.mk A140
       clear A140
       by_cases c15 : x7_2.length < 1034834473200
       ·rw [if_pos c15] at H
        have LMc15 := Aside0.mk c15
        clear c15
        obtain ⟨y152, hy152⟩ : ∃ y_ : List (S68), y_ = (x7_2 ++ [(⟨(⟨(⟨t108, t109, t110, t111, t112, t113, t114, t115, t116, t117, t118, t119, t120, t121, t122, t123, t124, t125, t126, t127, t128, t129, t130, t131, t132, t133, t134, t135, t136, t137, t138, t139⟩ : S32), t140⟩ : S34), t141, (⟨(⟨t142, t143, t144⟩ : S36), t145, t146, t147⟩ : S66), t148, t149, t150, t151⟩ : S68)]) := ⟨_, rfl⟩
        replace H : (coraclelaw17_BatchFits.l0 k2 a0 a1 a2 y152 (wrap64 (x8_2 + 1))) = some r := by first | (rw [hy152]; with_reducible exact H) | (have H2_ := (Option.bind_some _ _).symm.trans H; rw [hy152]; with_reducible exact H2_) | (have H2_ := (Option.bind_some _ _).symm.trans H; with_reducible exact H2_) | with_reducible exact H | (rw [hy152]; exact H) | exact H
        have Ny152 := Aside0.mk hy152
        clear hy152
        have H' := Aside0.mk H
        clear H
        go_wp2_with (first | ((with_reducible refine gate_callee (f := 25) rfl ?_); refine goesL_ (some 45) rfl rfl Try.func25 (by kernel_rfl) rfl #[.int .i64 x8_2, .int .i64 100000, .int .i64 50000] rfl (by (try simp only [List.map_toArray, List.map_cons, List.map_nil]); first | done | rfl | (simp only [List.length_drop, List.length_take]; rfl)) ?_; (with_reducible refine (coraclelaw17_one.calls x8_2 100000 50000 t108 t109 t110 t111 t112 t113 t114 t115 t116 t117 t118 t119 t120 t121 t122 t123 t124 t125 t126 t127 t128 t129 t130 t131 t132 t133 t134 t135 t136 t137 t138 t139 t140 t141 t142 t143 t144 t145 t146 t147 t148 t149 t150 t151 _ A14.out).mono ?_); rintro e w16 ⟨rfl, hb⟩; refine ⟨_, rfl, ?_⟩; have n0_ := Aside0.mk (Kd.R_below (by (with_reducible repeat (first | apply Kd.R_alloc | apply Kd.R_drewN | apply Kd.R_drew)); exact HO_7.out) hb); have n1_ := Aside0.mk (below_step (by repeat (first | (with_reducible first | exact HB.out | apply below_alloc | apply pw_below_drewN | apply below_drew1) | exact HB.out)) hb); clear HO_7; clear HB; have HO_7 := n0_; have HB := n1_; clear n0_ n1_; (try clear hb); (try clear hb2); (try clear hk); (try clear hi)) | ((with_reducible refine gate_builtin (b := .append) (xs := #[.tmp 43, .tmp 46]) rfl ?_); (try (refine gate_guard (by rfl) ?_; dsimp only)); at_builtin; refine Kd.R_append k68 (w0 := w) w.heap.size rfl (.tmp 43) (.tmp 46) 52 68 (.agg #[(.int .u8 0), (.int .u8 0), (.int .u8 0), (.int .u8 0), (.int .u8 0), (.int .u8 0), (.int .u8 0), (.int .u8 0), (.int .u8 0), (.int .u8 0), (.int .u8 0), (.int .u8 0), (.int .u8 0), (.int .u8 0), (.int .u8 0), (.int .u8 0), (.int .u8 0), (.int .u8 0), (.int .u8 0), (.int .u8 0), (.int .u8 0), (.int .u8 0), (.int .u8 0), (.int .u8 0), (.int .u8 0), (.int .u8 0), (.int .u8 0), (.int .u8 0), (.int .u8 0), (.int .u8 0), (.int .u8 0), (.int .u8 0), (.int .i64 0), (.int .i64 0), (.int .i64 0), (.int .i64 0), (.string ⟨#[]⟩), (.int .i64 0), (.int .i64 0), (.int .i64 0), (.int .i64 0), (.int .i64 0), (.int .i64 0), (.int .i64 0)]) 136 rfl Try.underlying52 info68 rfl (by decide) (by omega) u7 x7_2 (⟨(⟨(⟨t108, t109, t110, t111, t112, t113, t114, t115, t116, t117, t118, t119, t120, t121, t122, t123, t124, t125, t126, t127, t128, t129, t130, t131, t132, t133, t134, t135, t136, t137, t138, t139⟩ : S32), t140⟩ : S34), t141, (⟨(⟨t142, t143, t144⟩ : S36), t145, t146, t147⟩ : S66), t148, t149, t150, t151⟩ : S68) (.int .u8 t108 :: .int .u8 t109 :: .int .u8 t110 :: .int .u8 t111 :: .int .u8 t112 :: .int .u8 t113 :: .int .u8 t114 :: .int .u8 t115 :: .int .u8 t116 :: .int .u8 t117 :: .int .u8 t118 :: .int .u8 t119 :: .int .u8 t120 :: .int .u8 t121 :: .int .u8 t122 :: .int .u8 t123 :: .int .u8 t124 :: .int .u8 t125 :: .int .u8 t126 :: .int .u8 t127 :: .int .u8 t128 :: .int .u8 t129 :: .int .u8 t130 :: .int .u8 t131 :: .int .u8 t132 :: .int .u8 t133 :: .int .u8 t134 :: .int .u8 t135 :: .int .u8 t136 :: .int .u8 t137 :: .int .u8 t138 :: .int .u8 t139 :: .int .i64 t140 :: .int .i64 t141 :: .int .i64 t142 :: .int .i64 t143 :: .string t144 :: .int .i64 t145 :: .int .i64 t146 :: .int .i64 t147 :: .int .i64 t148 :: .int .i64 t149 :: .int .i64 t150 :: .int .i64 t151 :: []) (fun _ => True) (fun _ => False) rfl rfl ?aP (fun _ hk => hk.elim) ?aF ?aO ?aB ?aS ?aL ?_; (case aP => exact k68_mkM _ _ _ (⟨(⟨(⟨t108, t109, t110, t111, t112, t113, t114, t115, t116, t117, t118, t119, t120, t121, t122, t123, t124, t125, t126, t127, t128, t129, t130, t131, t132, t133, t134, t135, t136, t137, t138, t139⟩ : S32), t140⟩ : S34), t141, (⟨(⟨t142, t143, t144⟩ : S36), t145, t146, t147⟩ : S66), t148, t149, t150, t151⟩ : S68)); (case aB => exact (by repeat (first | (with_reducible first | exact HB.out | apply below_alloc | apply pw_below_drewN | apply below_drew1) | exact HB.out))); (case aF => exact (fun _ _ => trivial)); (case aO => exact (by (with_reducible repeat (first | apply Kd.R_alloc | apply Kd.R_drewN | apply Kd.R_drew)); exact HO_7.out)); (case aS => exact (below_size (by repeat (first | (with_reducible first | exact HB.out | apply below_alloc | apply pw_below_drewN | apply below_drew1) | exact HB.out)))); (case aL => have := LMc15.out; omega); intro v153 w17 ho hb hg hat; rw [← Ny152.out] at ho; have n0_ := Aside0.mk (hb); have n1_ := Aside0.mk (ho); clear HB; clear HO_7; have HB := n0_; have HO154 := n1_; clear n0_ n1_; clear ho hb hg hat))
        go_roundg k2
        case measure => have := HJ3.out; have := HK2.out; omega
        case rel => exact ⟨(y152), (wrap64 (x8_2 + 1)), (by first | rfl | (simp; done) | (simp [*]; done)), H', ⟨by have := HJ3.out; have := HK2.out; omega⟩, ⟨by (with_reducible repeat (first | apply Kd.R_alloc | apply Kd.R_drewN | apply Kd.R_drew)); exact HO154.out⟩, ⟨by repeat (first | (with_reducible first | exact HB.out | apply below_alloc | apply pw_below_drewN | apply below_drew1) | exact HB.out)⟩⟩
       ·rw [if_neg c15] at H
        exact absurd H (by simp)
      ·rw [if_neg c13] at H
       have c13b0 : decide (x8_2 < a0) = false := decide_eq_false c13
       clear c13
       replace H := Option.bind_eq_some_iff.mp H
       obtain ⟨t155, A180, H⟩ := H
       replace H : ((batch_All.f t155 a2 (wrap64 ((wrap64 (4 * (wrap64 ((wrap64 (10 + (wrap64 (41 * a1)))) + 34)))) + (wrap64 (74 * a1)))) 1).bind fun bt158 => (if bt158.2 = 0 then (if a1 = 0 then (none) else (coraclelaw17_BatchFits.j2 k2 a0 a1 (wrap64 ((wrap64 (4 * (wrap64 ((wrap64 (10 + (wrap64 (41 * a1)))) + 34)))) + (wrap64 (74 * a1)))) bt158.1 ((bt158.1.length : Int) != (wrap64 (Int.tdiv (wrap64 ((wrap64 (a0 + a1)) - 1)) a1))))) else (coraclelaw17_BatchFits.j2 k2 a0 a1 (wrap64 ((wrap64 (4 * (wrap64 ((wrap64 (10 + (wrap64 (41 * a1)))) + 34)))) + (wrap64 (74 * a1)))) bt158.1 true))) = some r := H
       have A18 := Aside0.mk A180
       clear A180
       replace H := Option.bind_eq_some_iff.mp H
       obtain ⟨⟨t158, t159⟩, A190, H⟩ := H
       replace H : (if t159 = 0 then (if a1 = 0 then (none) else (coraclelaw17_BatchFits.j2 k2 a0 a1 (wrap64 ((wrap64 (4 * (wrap64 ((wrap64 (10 + (wrap64 (41 * a1)))) + 34)))) + (wrap64 (74 * a1)))) t158 ((t158.length : Int) != (wrap64 (Int.tdiv (wrap64 ((wrap64 (a0 + a1)) - 1)) a1))))) else (coraclelaw17_BatchFits.j2 k2 a0 a1 (wrap64 ((wrap64 (4 * (wrap64 ((wrap64 (10 + (wrap64 (41 * a1)))) + 34)))) + (wrap64 (74 * a1)))) t158 true)) = some r := H
       have A19 := Aside0.mk A190
       clear A190
       have HC20 := Aside0.mk H
       clear H
       obtain ⟨Ao21, co21, eo21⟩ := Kd.R_slice HO_7.out
       subst eo21
       go_upto_region 10 with (first | ((with_reducible refine gate_callee (f := 20) rfl ?_); refine goesL_ (some 58) rfl rfl Try.func20 (by kernel_rfl) rfl #[.slice Ao21 x7_2.length co21] rfl (by (try simp only [List.map_toArray, List.map_cons, List.map_nil]); first | done | rfl | (simp only [List.length_drop, List.length_take]; rfl)) ?_; (with_reducible refine (coraclelaw17_mades.calls k2 _ _ x7_2 t155 _ ?side1 ?side2 A18.out).mono ?_); (case side1 => repeat (first | exact (Kd.R_reads' HO_7.out).2.2 | (with_reducible refine Kd.C_alloc ?_ _) | (with_reducible refine Kd.C_drewN ?_ _) | (with_reducible refine Kd.C_drew ?_))); (case side2 => exact (Kd.R_reads' HO_7.out).2.1); rintro e w22 ⟨v156, rfl, ho0, hb⟩; refine ⟨_, rfl, ?_⟩; have n0_ := Aside0.mk (Kd.R_below (by (with_reducible repeat (first | apply Kd.R_alloc | apply Kd.R_drewN | apply Kd.R_drew)); exact HO_7.out) hb); have n1_ := Aside0.mk (Kd.R_lower ho0 (below_size (by repeat (first | (with_reducible first | exact HB.out | apply below_alloc | apply pw_below_drewN | apply below_drew1) | exact HB.out)))); have n2_ := Aside0.mk (below_step (by repeat (first | (with_reducible first | exact HB.out | apply below_alloc | apply pw_below_drewN | apply below_drew1) | exact HB.out)) hb); clear HO_7; clear HB; have HO_7 := n0_; have HO157 := n1_; have HB := n2_; clear n0_ n1_ n2_; (try clear hb); (try clear hb2); (try clear hk); (try clear hi); (try clear ho0); obtain ⟨Ao23, co23, eo23⟩ := Kd.R_slice HO157.out; subst eo23) | ((with_reducible refine gate_callee (f := 19) rfl ?_); refine goesL_ (some 61) rfl rfl Try.func19 (by kernel_rfl) rfl #[.slice Ao23 t155.length co23, .int .i64 a2, .int .i64 (wrap64 ((wrap64 (4 * (wrap64 ((wrap64 (10 + (wrap64 (41 * a1)))) + 34)))) + (wrap64 (74 * a1)))), .int .i64 1] rfl (by (try simp only [List.map_toArray, List.map_cons, List.map_nil]); first | done | rfl | (simp only [List.length_drop, List.length_take]; rfl)) ?_; (with_reducible refine (batch_All.calls _ _ t155 a2 (wrap64 ((wrap64 (4 * (wrap64 ((wrap64 (10 + (wrap64 (41 * a1)))) + 34)))) + (wrap64 (74 * a1)))) 1 t158 t159 _ ?side1 ?side2 A19.out).mono ?_); (case side1 => repeat (first | exact (Kd.R_reads' HO157.out).2.2 | (with_reducible refine Kd.C_alloc ?_ _) | (with_reducible refine Kd.C_drewN ?_ _) | (with_reducible refine Kd.C_drew ?_))); (case side2 => exact (Kd.R_reads' HO157.out).2.1); rintro e w24 ⟨v160, rfl, ho0, hb⟩; refine ⟨_, rfl, ?_⟩; have n0_ := Aside0.mk (Kd.R_below (by (with_reducible repeat (first | apply Kd.R_alloc | apply Kd.R_drewN | apply Kd.R_drew)); exact HO_7.out) hb); have n1_ := Aside0.mk (Kd.R_below (by (with_reducible repeat (first | apply Kd.R_alloc | apply Kd.R_drewN | apply Kd.R_drew)); exact HO157.out) hb); have n2_ := Aside0.mk (Kd.N_lower (Kd.N_mono (ok' := fun k_ => some k_ ≠ (.slice Ao21 x7_2.length co21 : Value).ownBlock ∧ some k_ ≠ (.slice Ao23 t155.length co23 : Value).ownBlock) (Kd.R_N (Kd.R_bound ho0)) (fun k_ hk_ => ⟨(Kd.fresh' (Kd.R_lt (by (with_reducible repeat (first | apply Kd.R_alloc | apply Kd.R_drewN | apply Kd.R_drew)); exact HO_7.out)) k_ hk_.2.1), (Kd.fresh' (Kd.R_lt (by (with_reducible repeat (first | apply Kd.R_alloc | apply Kd.R_drewN | apply Kd.R_drew)); exact HO157.out)) k_ hk_.2.1)⟩)) (below_size (by repeat (first | (with_reducible first | exact HB.out | apply below_alloc | apply pw_below_drewN | apply below_drew1) | exact HB.out)))); have n3_ := Aside0.mk (below_step (by repeat (first | (with_reducible first | exact HB.out | apply below_alloc | apply pw_below_drewN | apply below_drew1) | exact HB.out)) hb); clear HO_7; clear HO157; clear HB; have HO_7 := n0_; have HO157 := n1_; have HO161 := n2_; have HB := n3_; clear n0_ n1_ n2_ n3_; (try clear hb); (try clear hb2); (try clear hk); (try clear hi); (try clear ho0)))
       (try simp only [Act.put, List.setIfInBounds_toArray, List.set_cons_zero, List.set_cons_succ])
       go_cut [76] (fun v76 wc => ∃ (kq : Nat) (x76_19 : Bool), v76 = .bool x76_19 ∧ Aside0 (coraclelaw17_BatchFits.j2 kq a0 a1 (wrap64 ((wrap64 (4 * (wrap64 ((wrap64 (10 + (wrap64 (41 * a1)))) + 34)))) + (wrap64 (74 * a1)))) t158 x76_19 = some r) ∧ Aside0 (kq ≤ k2) ∧ Aside0 (Kd.N k39 39 wc w.heap.size (fun _ => True) v160 t158) ∧ Aside0 (Below w.heap.size w wc))
       case first =>
        have H := HC20.out
        clear HC20
        by_cases c25 : t159 = 0
        ·rw [if_pos c25] at H
         have c25b0 : (t159 == 0) = true := beq_iff_eq.mpr c25
         have c25b1 : (t159 != 0) = false := bne_eq_false_iff_eq.mpr c25
         clear c25
         (first | rw [c25b0] | (simp only [i64_w, i32_w]; rw [c25b0]) | skip)
         by_cases c26 : a1 = 0
         ·rw [if_pos c26] at H
          exact absurd H (by simp)
         ·rw [if_neg c26] at H
          have c26b0 : (a1 == 0) = false := beq_eq_false_iff_ne.mpr c26
          have c26b1 : (a1 != 0) = true := bne_iff_ne.mpr c26
          have H' := Aside0.mk H
          clear H
          obtain ⟨Ao27, co27, eo27⟩ := Kd.N_slice HO161.out
          subst eo27
          go_wp2
          go_meet
          case rel => exact ⟨_, (((t158.length : Int) != (wrap64 (Int.tdiv (wrap64 ((wrap64 (a0 + a1)) - 1)) a1)))), (by first | rfl | (simp; done) | (simp [*]; done)), H', ⟨by have := HJ3.out; have := HK2.out; first | omega | exact Nat.le_refl _⟩, ⟨by (with_reducible repeat (first | apply Kd.N_alloc | apply Kd.N_drewN | apply Kd.N_drew)); exact Kd.N_mono HO161.out (fun _ hk => trivial)⟩, ⟨by repeat (first | (with_reducible first | exact HB.out | apply below_alloc | apply pw_below_drewN | apply below_drew1) | exact HB.out)⟩⟩
        ·rw [if_neg c25] at H
         have c25b0 : (t159 == 0) = false := beq_eq_false_iff_ne.mpr c25
         have c25b1 : (t159 != 0) = true := bne_iff_ne.mpr c25
         (first | rw [c25b0] | (simp only [i64_w, i32_w]; rw [c25b0]) | skip)
         have H' := Aside0.mk H
         clear H
         go_wp2
         go_meet
         case rel => exact ⟨_, (true), (by first | rfl | (simp; done) | (simp [*]; done)), H', ⟨by have := HJ3.out; have := HK2.out; first | omega | exact Nat.le_refl _⟩, ⟨by (with_reducible repeat (first | apply Kd.N_alloc | apply Kd.N_drewN | apply Kd.N_drew)); exact Kd.N_mono HO161.out (fun _ hk => trivial)⟩, ⟨by repeat (first | (with_reducible first | exact HB.out | apply below_alloc | apply pw_below_drewN | apply below_drew1) | exact HB.out)⟩⟩
       case rest =>
        clear HC20
        try clear c1
        try clear c2
        try clear p2
        try clear c5
        try clear c5b0
        try clear c6
        try clear c6b0
        try clear p6
        try clear c7
        try clear c7b0
        try clear c8
        try clear c8b0
        try clear c9
        try clear c9b0
        try clear c10
        try clear c13
        try clear c13b0
        try clear c15
        try clear c18
        try clear c19
        try clear c20
        try clear c25
        try clear c25b0
        try clear c25b1
        try clear c26
        try clear c26b0
        try clear c26b1
        try clear p2
        obtain ⟨kq, x76_19, rfl, HA, HJ19, HO_10, HB⟩ := hcut
        cases kq with
        | zero => exact absurd HA.out (by simp [coraclelaw17_BatchFits.j2])
        | succ kj19 =>
         have H := HA.out
         clear HA
         simp only [coraclelaw17_BatchFits.j2] at H
         by_cases c28 : x76_19 = true
         ·subst c28
          have H1 : (some false) = some r := by rw [if_pos rfl] at H; exact H
          clear H
          have H := H1
          clear H1
          obtain rfl := Option.some.inj H
          go_wp2
          go_ret
          exact ⟨by first | rfl | (simp [errW_none, errW_some] <;> rfl) | (simp [*, errW_none, errW_some] <;> rfl), by repeat (first | (with_reducible first | exact HB.out | apply below_alloc | apply pw_below_drewN | apply below_drew1) | exact HB.out)⟩
         ·replace c28 := Bool.eq_false_iff.mpr c28
          subst c28
          have H1 : (coraclelaw17_BatchFits.l1 kj19 a0 a1 (wrap64 ((wrap64 (4 * (wrap64 ((wrap64 (10 + (wrap64 (41 * a1)))) + 34)))) + (wrap64 (74 * a1)))) t158 0 0) = some r := by rw [if_neg (show ¬ (false = true) by decide)] at H; exact H
          clear H
          have H := H1
          clear H1
          have H' := Aside0.mk H
          clear H
          go_wp2
          go_loopg [12, 13] kj19 (fun kq v12 v13 w' => ∃ (x12_4 : Int) (x13_4 : Int), v12 = .int .i64 x12_4 ∧ v13 = .int .i64 x13_4 ∧ Aside0 (coraclelaw17_BatchFits.l1 kq a0 a1 (wrap64 ((wrap64 (4 * (wrap64 ((wrap64 (10 + (wrap64 (41 * a1)))) + 34)))) + (wrap64 (74 * a1)))) t158 x12_4 x13_4 = some r) ∧ Aside0 (kq ≤ kj19) ∧ Aside0 (Kd.N k39 39 w' w.heap.size (fun _ => True) v160 t158) ∧ Aside0 (Below w.heap.size w w'))
          case atStart => exact ⟨(0), (0), (by first | rfl | (simp; done) | (simp [*]; done)), (by first | rfl | (simp; done) | (simp [*]; done)), H', ⟨Nat.le_refl _⟩, ⟨by (with_reducible repeat (first | apply Kd.N_alloc | apply Kd.N_drewN | apply Kd.N_drew)); exact HO_10.out⟩, ⟨by repeat (first | (with_reducible first | exact HB.out | apply below_alloc | apply pw_below_drewN | apply below_drew1) | exact HB.out)⟩⟩
          case round =>
           clear H'
           try clear c1
           try clear c2
           try clear p2
           try clear c5
           try clear c5b0
           try clear c6
           try clear c6b0
           try clear p6
           try clear c7
           try clear c7b0
           try clear c8
           try clear c8b0
           try clear c9
           try clear c9b0
           try clear c10
           try clear c13
           try clear c13b0
           try clear c15
           try clear c18
           try clear c19
           try clear c20
           try clear c25
           try clear c25b0
           try clear c25b1
           try clear c26
           try clear c26b0
           try clear c26b1
           try clear c28
           try clear p2
           try clear p6
           obtain ⟨x12_4, x13_4, rfl, rfl, HA, HK4, HO_10, HB⟩ := hrel
           cases gk with
           | zero => exact absurd HA.out (by simp [coraclelaw17_BatchFits.l1])
           | succ k4 =>
            have H := HA.out
            clear HA
            simp only [coraclelaw17_BatchFits.l1] at H
            by_cases c29 : x13_4 < (t158.length : Int)
            ·rw [if_pos c29] at H
             have c29b0 : decide (x13_4 < (t158.length : Int)) = true := decide_eq_true c29
             clear c29
             have H' := Aside0.mk H
             clear H
             obtain ⟨Ao30, co30, eo30⟩ := Kd.N_slice HO_10.out
             subst eo30
             go_wp2
             go_loopg [12, 14] k4 (fun kq v12 v14 w' => ∃ (x12_5 : Int) (x14_5 : Int), v12 = .int .i64 x12_5 ∧ v14 = .int .i64 x14_5 ∧ Aside0 (coraclelaw17_BatchFits.l2 kq a0 a1 (wrap64 ((wrap64 (4 * (wrap64 ((wrap64 (10 + (wrap64 (41 * a1)))) + 34)))) + (wrap64 (74 * a1)))) t158 x12_5 x13_4 x14_5 = some r) ∧ Aside0 (kq ≤ k4) ∧ Aside0 (Kd.N k39 39 w' w.heap.size (fun _ => True) (.slice Ao30 t158.length co30) t158) ∧ Aside0 (Below w.heap.size w w'))
             case atStart => exact ⟨(x12_4), (0), (by first | rfl | (simp; done) | (simp [*]; done)), (by first | rfl | (simp; done) | (simp [*]; done)), H', ⟨Nat.le_refl _⟩, ⟨by (with_reducible repeat (first | apply Kd.N_alloc | apply Kd.N_drewN | apply Kd.N_drew)); exact HO_10.out⟩, ⟨by repeat (first | (with_reducible first | exact HB.out | apply below_alloc | apply pw_below_drewN | apply below_drew1) | exact HB.out)⟩⟩
             case round =>
              clear H'
              try clear c1
              try clear c2
              try clear p2
              try clear c5
              try clear c5b0
              try clear c6
              try clear c6b0
              try clear p6
              try clear c7
              try clear c7b0
              try clear c8
              try clear c8b0
              try clear c9
              try clear c9b0
              try clear c10
              try clear c13
              try clear c13b0
              try clear c15
              try clear c18
              try clear c19
              try clear c20
              try clear c25
              try clear c25b0
              try clear c25b1
              try clear c26
              try clear c26b0
              try clear c26b1
              try clear c28
              try clear c29
              try clear c29b0
              try clear p2
              try clear p6
              obtain ⟨x12_5, x14_5, rfl, rfl, HA, HK5, HO_10, HB⟩ := hrel
              cases gk with
              | zero => exact absurd HA.out (by simp [coraclelaw17_BatchFits.l2])
              | succ k5 =>
               have H := HA.out
               clear HA
               simp only [coraclelaw17_BatchFits.l2] at H
               by_cases c31 : 0 ≤ x13_4
               ·rw [if_pos c31] at H
                have c31b0 : decide (0 ≤ x13_4) = true := decide_eq_true c31
                clear c31
                by_cases c32 : x13_4 < (t158.length : Int)
                ·rw [if_pos c32] at H
                 have c32b0 : decide (x13_4 < (t158.length : Int)) = true := decide_eq_true c32
                 clear c32
                 by_cases c33 : x14_5 < (((rd_T39 t158 x13_4).f0.f0).length : Int)
                 ·rw [if_pos c33] at H
                  have c33b0 : decide (x14_5 < (((rd_T39 t158 x13_4).f0.f0).length : Int)) = true := decide_eq_true c33
                  clear c33
                  by_cases c34 : 0 ≤ x14_5
                  ·rw [if_pos c34] at H
                   have c34b0 : decide (0 ≤ x14_5) = true := decide_eq_true c34
                   clear c34
                   by_cases c35 : ((rd_T38 ((rd_T39 t158 x13_4).f0.f0) x14_5).f0.f1) = x12_5
                   ·rw [if_pos c35] at H
                    have c35b0 : (((rd_T38 ((rd_T39 t158 x13_4).f0.f0) x14_5).f0.f1) == x12_5) = true := beq_iff_eq.mpr c35
                    have c35b1 : (((rd_T38 ((rd_T39 t158 x13_4).f0.f0) x14_5).f0.f1) != x12_5) = false := bne_eq_false_iff_eq.mpr c35
                    clear c35
                    have H' := Aside0.mk H
                    clear H
                    have p163 : 0 ≤ (x13_4 : Int) := of_decide_eq_true (by first | (with_reducible assumption) | assumption)
                    have q163 : x13_4 < (t158.length : Int) := of_decide_eq_true (by first | (with_reducible assumption) | assumption)
                    obtain ⟨ad163, A163_0, c163_0, A163_1, c163_1, e163, hx163_0, hx163_1, hx163_2, hx163_3, hx163_4, hl163_0, hi163_0, hl163_1, hi163_1⟩ := at_T39 (Kd.N_reads' HO_10.out).2.2 x13_4 p163 q163
                    cases e163
                    obtain ⟨ce163, hce163, hMe163, hcc163⟩ := Kd.N_get HO_10.out z39 x13_4 p163 (by first | exact q163 | exact of_decide_eq_true (by first | (with_reducible assumption) | assumption) | (have e_ := (Kd.N_reads' HO_10.out).1; omega))
                    obtain ⟨ua163_0, uc163_0, ua163_1, uc163_1, rfl, ul163_0, ge163_0, ul163_1, ge163_1⟩ := k39_openF hMe163
                    have hv163_0 := hcc163 0 _ rfl
                    rw [Nat.add_zero] at hv163_0
                    replace hv163_0 := Option.some.inj (hv163_0.symm.trans hx163_0)
                    injection hv163_0 with hva_ hvn_ hvc_
                    rw [hva_] at ge163_0
                    rw [hvc_] at ul163_0
                    have HL163_0 := Aside0.mk (show Kd.V k38 38 _ w.heap.size _ _ ((rd_T39 t158 x13_4).f0.f0) from Kd.V_mk ul163_0 ge163_0)
                    clear hva_ hvn_ hvc_ ge163_0 ul163_0
                    have hv163_1 := hcc163 1 _ rfl
                    rw [add_field _ _ 1 (by omega)] at hv163_1
                    replace hv163_1 := Option.some.inj (hv163_1.symm.trans hx163_1)
                    injection hv163_1 with hva_ hvn_ hvc_
                    rw [hva_] at ge163_1
                    rw [hvc_] at ul163_1
                    have HL163_1 := Aside0.mk (show Kd.V k64 64 _ w.heap.size _ _ ((rd_T39 t158 x13_4).f0.f1) from Kd.V_mk ul163_1 ge163_1)
                    clear hva_ hvn_ hvc_ ge163_1 ul163_1
                    clear hcc163 hce163
                    have HR163_0 := Aside0.mk hi163_0
                    have HC163_0 := Aside0.mk hl163_0
                    clear hi163_0 hl163_0
                    have HR163_1 := Aside0.mk hi163_1
                    have HC163_1 := Aside0.mk hl163_1
                    clear hi163_1 hl163_1
                    replace p163 := eq_true p163
                    replace q163 := eq_true q163
                    have p164 : 0 ≤ (x13_4 : Int) := of_decide_eq_true (by first | (with_reducible assumption) | assumption)
                    have q164 : x13_4 < (t158.length : Int) := of_decide_eq_true (by first | (with_reducible assumption) | assumption)
                    obtain ⟨ad164, A164_0, c164_0, A164_1, c164_1, e164, hx164_0, hx164_1, hx164_2, hx164_3, hx164_4, hl164_0, hi164_0, hl164_1, hi164_1⟩ := at_T39 (Kd.N_reads' HO_10.out).2.2 x13_4 p164 q164
                    obtain rfl : ad163 = ad164 := (by injection e164)
                    obtain ⟨ce164, hce164, hMe164, hcc164⟩ := Kd.N_get HO_10.out z39 x13_4 p164 (by first | exact q164 | exact of_decide_eq_true (by first | (with_reducible assumption) | assumption) | (have e_ := (Kd.N_reads' HO_10.out).1; omega))
                    obtain ⟨ua164_0, uc164_0, ua164_1, uc164_1, rfl, ul164_0, ge164_0, ul164_1, ge164_1⟩ := k39_openF hMe164
                    have hv164_0 := hcc164 0 _ rfl
                    rw [Nat.add_zero] at hv164_0
                    replace hv164_0 := Option.some.inj (hv164_0.symm.trans hx164_0)
                    injection hv164_0 with hva_ hvn_ hvc_
                    rw [hva_] at ge164_0
                    rw [hvc_] at ul164_0
                    have HL164_0 := Aside0.mk (show Kd.V k38 38 _ w.heap.size _ _ ((rd_T39 t158 x13_4).f0.f0) from Kd.V_mk ul164_0 ge164_0)
                    clear hva_ hvn_ hvc_ ge164_0 ul164_0
                    have hv164_1 := hcc164 1 _ rfl
                    rw [add_field _ _ 1 (by omega)] at hv164_1
                    replace hv164_1 := Option.some.inj (hv164_1.symm.trans hx164_1)
                    injection hv164_1 with hva_ hvn_ hvc_
                    rw [hva_] at ge164_1
                    rw [hvc_] at ul164_1
                    have HL164_1 := Aside0.mk (show Kd.V k64 64 _ w.heap.size _ _ ((rd_T39 t158 x13_4).f0.f1) from Kd.V_mk ul164_1 ge164_1)
                    clear hva_ hvn_ hvc_ ge164_1 ul164_1
                    clear hcc164 hce164
                    have HR164_0 := Aside0.mk hi164_0
                    have HC164_0 := Aside0.mk hl164_0
                    clear hi164_0 hl164_0
                    have HR164_1 := Aside0.mk hi164_1
                    have HC164_1 := Aside0.mk hl164_1
                    clear hi164_1 hl164_1
                    replace p164 := eq_true p164
                    replace q164 := eq_true q164
                    have ea_ := Option.some.inj (hx163_0.symm.trans hx164_0)
                    injection ea_ with ea_ en_ ec_
                    subst ea_
                    subst ec_
                    clear en_
                    have ea_ := Option.some.inj (hx163_1.symm.trans hx164_1)
                    injection ea_ with ea_ en_ ec_
                    subst ea_
                    subst ec_
                    clear en_
                    have p165 : 0 ≤ (x14_5 : Int) := of_decide_eq_true (by first | (with_reducible assumption) | assumption)
                    have q165 : x14_5 < (((rd_T39 t158 x13_4).f0.f0).length : Int) := of_decide_eq_true (by first | (with_reducible assumption) | assumption)
                    obtain ⟨ad165, e165, hx165_0, hx165_1, hx165_2, hx165_3, hx165_4, hx165_5, hx165_6, hx165_7, hx165_8, hx165_9, hx165_10, hx165_11, hx165_12, hx165_13, hx165_14, hx165_15, hx165_16, hx165_17, hx165_18, hx165_19, hx165_20, hx165_21, hx165_22, hx165_23, hx165_24, hx165_25, hx165_26, hx165_27, hx165_28, hx165_29, hx165_30, hx165_31, hx165_32, hx165_33, hx165_34, hx165_35, hx165_36⟩ := at_T38 (by repeat (first | (with_reducible exact HR164_0.out) | (with_reducible refine Kd.C_alloc ?_ _) | (with_reducible refine Kd.C_drewN ?_ _) | (with_reducible refine Kd.C_drew ?_) | exact HR164_0.out)) x14_5 p165 q165
                    cases e165
                    replace p165 := eq_true p165
                    replace q165 := eq_true q165
                    have hw165_0_32 := Wide.mk32 hx165_0 hx165_1 hx165_2 hx165_3 hx165_4 hx165_5 hx165_6 hx165_7 hx165_8 hx165_9 hx165_10 hx165_11 hx165_12 hx165_13 hx165_14 hx165_15 hx165_16 hx165_17 hx165_18 hx165_19 hx165_20 hx165_21 hx165_22 hx165_23 hx165_24 hx165_25 hx165_26 hx165_27 hx165_28 hx165_29 hx165_30 hx165_31
                    have hw165_0_33 := Wide.mk33 hx165_0 hx165_1 hx165_2 hx165_3 hx165_4 hx165_5 hx165_6 hx165_7 hx165_8 hx165_9 hx165_10 hx165_11 hx165_12 hx165_13 hx165_14 hx165_15 hx165_16 hx165_17 hx165_18 hx165_19 hx165_20 hx165_21 hx165_22 hx165_23 hx165_24 hx165_25 hx165_26 hx165_27 hx165_28 hx165_29 hx165_30 hx165_31 hx165_32
                    have hw165_0_37 := Wide.mk37 hx165_0 hx165_1 hx165_2 hx165_3 hx165_4 hx165_5 hx165_6 hx165_7 hx165_8 hx165_9 hx165_10 hx165_11 hx165_12 hx165_13 hx165_14 hx165_15 hx165_16 hx165_17 hx165_18 hx165_19 hx165_20 hx165_21 hx165_22 hx165_23 hx165_24 hx165_25 hx165_26 hx165_27 hx165_28 hx165_29 hx165_30 hx165_31 hx165_32 hx165_33 hx165_34 hx165_35 hx165_36
                    go_wp2
                    go_roundg k5
                    case measure => have := HJ3.out; have := HK2.out; have := HJ19.out; have := HK4.out; have := HK5.out; omega
                    case rel => exact ⟨(wrap64 (x12_5 + 1)), (wrap64 (x14_5 + 1)), (by first | rfl | (simp; done) | (simp [*]; done)), (by first | rfl | (simp; done) | (simp [*]; done)), H', ⟨by have := HJ3.out; have := HK2.out; have := HJ19.out; have := HK4.out; have := HK5.out; omega⟩, ⟨by (with_reducible repeat (first | apply Kd.N_alloc | apply Kd.N_drewN | apply Kd.N_drew)); exact HO_10.out⟩, ⟨by repeat (first | (with_reducible first | exact HB.out | apply below_alloc | apply pw_below_drewN | apply below_drew1) | exact HB.out)⟩⟩
                   ·rw [if_neg c35] at H
                    have c35b0 : (((rd_T38 ((rd_T39 t158 x13_4).f0.f0) x14_5).f0.f1) == x12_5) = false := beq_eq_false_iff_ne.mpr c35
                    have c35b1 : (((rd_T38 ((rd_T39 t158 x13_4).f0.f0) x14_5).f0.f1) != x12_5) = true := bne_iff_ne.mpr c35
                    obtain rfl := Option.some.inj H
                    have p163 : 0 ≤ (x13_4 : Int) := of_decide_eq_true (by first | (with_reducible assumption) | assumption)
                    have q163 : x13_4 < (t158.length : Int) := of_decide_eq_true (by first | (with_reducible assumption) | assumption)
                    obtain ⟨ad163, A163_0, c163_0, A163_1, c163_1, e163, hx163_0, hx163_1, hx163_2, hx163_3, hx163_4, hl163_0, hi163_0, hl163_1, hi163_1⟩ := at_T39 (Kd.N_reads' HO_10.out).2.2 x13_4 p163 q163
                    cases e163
                    obtain ⟨ce163, hce163, hMe163, hcc163⟩ := Kd.N_get HO_10.out z39 x13_4 p163 (by first | exact q163 | exact of_decide_eq_true (by first | (with_reducible assumption) | assumption) | (have e_ := (Kd.N_reads' HO_10.out).1; omega))
                    obtain ⟨ua163_0, uc163_0, ua163_1, uc163_1, rfl, ul163_0, ge163_0, ul163_1, ge163_1⟩ := k39_openF hMe163
                    have hv163_0 := hcc163 0 _ rfl
                    rw [Nat.add_zero] at hv163_0
                    replace hv163_0 := Option.some.inj (hv163_0.symm.trans hx163_0)
                    injection hv163_0 with hva_ hvn_ hvc_
                    rw [hva_] at ge163_0
                    rw [hvc_] at ul163_0
                    have HL163_0 := Aside0.mk (show Kd.V k38 38 _ w.heap.size _ _ ((rd_T39 t158 x13_4).f0.f0) from Kd.V_mk ul163_0 ge163_0)
                    clear hva_ hvn_ hvc_ ge163_0 ul163_0
                    have hv163_1 := hcc163 1 _ rfl
                    rw [add_field _ _ 1 (by omega)] at hv163_1
                    replace hv163_1 := Option.some.inj (hv163_1.symm.trans hx163_1)
                    injection hv163_1 with hva_ hvn_ hvc_
                    rw [hva_] at ge163_1
                    rw [hvc_] at ul163_1
                    have HL163_1 := Aside0.mk (show Kd.V k64 64 _ w.heap.size _ _ ((rd_T39 t158 x13_4).f0.f1) from Kd.V_mk ul163_1 ge163_1)
                    clear hva_ hvn_ hvc_ ge163_1 ul163_1
                    clear hcc163 hce163
                    have HR163_0 := Aside0.mk hi163_0
                    have HC163_0 := Aside0.mk hl163_0
                    clear hi163_0 hl163_0
                    have HR163_1 := Aside0.mk hi163_1
                    have HC163_1 := Aside0.mk hl163_1
                    clear hi163_1 hl163_1
                    replace p163 := eq_true p163
                    replace q163 := eq_true q163
                    have p164 : 0 ≤ (x13_4 : Int) := of_decide_eq_true (by first | (with_reducible assumption) | assumption)
                    have q164 : x13_4 < (t158.length : Int) := of_decide_eq_true (by first | (with_reducible assumption) | assumption)
                    obtain ⟨ad164, A164_0, c164_0, A164_1, c164_1, e164, hx164_0, hx164_1, hx164_2, hx164_3, hx164_4, hl164_0, hi164_0, hl164_1, hi164_1⟩ := at_T39 (Kd.N_reads' HO_10.out).2.2 x13_4 p164 q164
                    obtain rfl : ad163 = ad164 := (by injection e164)
                    obtain ⟨ce164, hce164, hMe164, hcc164⟩ := Kd.N_get HO_10.out z39 x13_4 p164 (by first | exact q164 | exact of_decide_eq_true (by first | (with_reducible assumption) | assumption) | (have e_ := (Kd.N_reads' HO_10.out).1; omega))
                    obtain ⟨ua164_0, uc164_0, ua164_1, uc164_1, rfl, ul164_0, ge164_0, ul164_1, ge164_1⟩ := k39_openF hMe164
                    have hv164_0 := hcc164 0 _ rfl
                    rw [Nat.add_zero] at hv164_0
                    replace hv164_0 := Option.some.inj (hv164_0.symm.trans hx164_0)
                    injection hv164_0 with hva_ hvn_ hvc_
                    rw [hva_] at ge164_0
                    rw [hvc_] at ul164_0
                    have HL164_0 := Aside0.mk (show Kd.V k38 38 _ w.heap.size _ _ ((rd_T39 t158 x13_4).f0.f0) from Kd.V_mk ul164_0 ge164_0)
                    clear hva_ hvn_ hvc_ ge164_0 ul164_0
                    have hv164_1 := hcc164 1 _ rfl
                    rw [add_field _ _ 1 (by omega)] at hv164_1
                    replace hv164_1 := Option.some.inj (hv164_1.symm.trans hx164_1)
                    injection hv164_1 with hva_ hvn_ hvc_
                    rw [hva_] at ge164_1
                    rw [hvc_] at ul164_1
                    have HL164_1 := Aside0.mk (show Kd.V k64 64 _ w.heap.size _ _ ((rd_T39 t158 x13_4).f0.f1) from Kd.V_mk ul164_1 ge164_1)
                    clear hva_ hvn_ hvc_ ge164_1 ul164_1
                    clear hcc164 hce164
                    have HR164_0 := Aside0.mk hi164_0
                    have HC164_0 := Aside0.mk hl164_0
                    clear hi164_0 hl164_0
                    have HR164_1 := Aside0.mk hi164_1
                    have HC164_1 := Aside0.mk hl164_1
                    clear hi164_1 hl164_1
                    replace p164 := eq_true p164
                    replace q164 := eq_true q164
                    have ea_ := Option.some.inj (hx163_0.symm.trans hx164_0)
                    injection ea_ with ea_ en_ ec_
                    subst ea_
                    subst ec_
                    clear en_
                    have ea_ := Option.some.inj (hx163_1.symm.trans hx164_1)
                    injection ea_ with ea_ en_ ec_
                    subst ea_
                    subst ec_
                    clear en_
                    have p165 : 0 ≤ (x14_5 : Int) := of_decide_eq_true (by first | (with_reducible assumption) | assumption)
                    have q165 : x14_5 < (((rd_T39 t158 x13_4).f0.f0).length : Int) := of_decide_eq_true (by first | (with_reducible assumption) | assumption)
                    obtain ⟨ad165, e165, hx165_0, hx165_1, hx165_2, hx165_3, hx165_4, hx165_5, hx165_6, hx165_7, hx165_8, hx165_9, hx165_10, hx165_11, hx165_12, hx165_13, hx165_14, hx165_15, hx165_16, hx165_17, hx165_18, hx165_19, hx165_20, hx165_21, hx165_22, hx165_23, hx165_24, hx165_25, hx165_26, hx165_27, hx165_28, hx165_29, hx165_30, hx165_31, hx165_32, hx165_33, hx165_34, hx165_35, hx165_36⟩ := at_T38 (by repeat (first | (with_reducible exact HR164_0.out) | (with_reducible refine Kd.C_alloc ?_ _) | (with_reducible refine Kd.C_drewN ?_ _) | (with_reducible refine Kd.C_drew ?_) | exact HR164_0.out)) x14_5 p165 q165
                    cases e165
                    replace p165 := eq_true p165
                    replace q165 := eq_true q165
                    have hw165_0_32 := Wide.mk32 hx165_0 hx165_1 hx165_2 hx165_3 hx165_4 hx165_5 hx165_6 hx165_7 hx165_8 hx165_9 hx165_10 hx165_11 hx165_12 hx165_13 hx165_14 hx165_15 hx165_16 hx165_17 hx165_18 hx165_19 hx165_20 hx165_21 hx165_22 hx165_23 hx165_24 hx165_25 hx165_26 hx165_27 hx165_28 hx165_29 hx165_30 hx165_31
                    have hw165_0_33 := Wide.mk33 hx165_0 hx165_1 hx165_2 hx165_3 hx165_4 hx165_5 hx165_6 hx165_7 hx165_8 hx165_9 hx165_10 hx165_11 hx165_12 hx165_13 hx165_14 hx165_15 hx165_16 hx165_17 hx165_18 hx165_19 hx165_20 hx165_21 hx165_22 hx165_23 hx165_24 hx165_25 hx165_26 hx165_27 hx165_28 hx165_29 hx165_30 hx165_31 hx165_32
                    have hw165_0_37 := Wide.mk37 hx165_0 hx165_1 hx165_2 hx165_3 hx165_4 hx165_5 hx165_6 hx165_7 hx165_8 hx165_9 hx165_10 hx165_11 hx165_12 hx165_13 hx165_14 hx165_15 hx165_16 hx165_17 hx165_18 hx165_19 hx165_20 hx165_21 hx165_22 hx165_23 hx165_24 hx165_25 hx165_26 hx165_27 hx165_28 hx165_29 hx165_30 hx165_31 hx165_32 hx165_33 hx165_34 hx165_35 hx165_36
                    go_wp2
                    go_ret
                    exact ⟨by first | rfl | (simp [errW_none, errW_some] <;> rfl) | (simp [*, errW_none, errW_some] <;> rfl), by repeat (first | (with_reducible first | exact HB.out | apply below_alloc | apply pw_below_drewN | apply below_drew1) | exact HB.out)⟩
                  ·rw [if_neg c34] at H
                   exact absurd H (by simp)
                 ·rw [if_neg c33] at H
                  have c33b0 : decide (x14_5 < (((rd_T39 t158 x13_4).f0.f0).length : Int)) = false := decide_eq_false c33
                  clear c33
                  replace H := Option.bind_eq_some_iff.mp H
                  obtain ⟨t167, A360, H⟩ := H
                  replace H : (if t167 > (wrap64 ((wrap64 (4 * (wrap64 ((wrap64 (10 + (wrap64 (41 * a1)))) + 34)))) + (wrap64 (74 * a1)))) then (some false) else (if (wrap64 (x13_4 + 1)) < (t158.length : Int) then (if (((rd_T39 t158 x13_4).f0.f0).length : Int) = a1 then (coraclelaw17_BatchFits.l1 k5 a0 a1 (wrap64 ((wrap64 (4 * (wrap64 ((wrap64 (10 + (wrap64 (41 * a1)))) + 34)))) + (wrap64 (74 * a1)))) t158 x12_5 (wrap64 (x13_4 + 1))) else (some false)) else (coraclelaw17_BatchFits.l1 k5 a0 a1 (wrap64 ((wrap64 (4 * (wrap64 ((wrap64 (10 + (wrap64 (41 * a1)))) + 34)))) + (wrap64 (74 * a1)))) t158 x12_5 (wrap64 (x13_4 + 1))))) = some r := H
                  have A36 := Aside0.mk A360
                  clear A360
                  by_cases c37 : t167 > (wrap64 ((wrap64 (4 * (wrap64 ((wrap64 (10 + (wrap64 (41 * a1)))) + 34)))) + (wrap64 (74 * a1))))
                  ·rw [if_pos c37] at H
                   have c37b0 : decide ((wrap64 ((wrap64 (4 * (wrap64 ((wrap64 (10 + (wrap64 (41 * a1)))) + 34)))) + (wrap64 (74 * a1)))) < t167) = true := decide_eq_true c37
                   clear c37
                   obtain rfl := Option.some.inj H
                   have p163 : 0 ≤ (x13_4 : Int) := of_decide_eq_true (by first | (with_reducible assumption) | assumption)
                   have q163 : x13_4 < (t158.length : Int) := of_decide_eq_true (by first | (with_reducible assumption) | assumption)
                   obtain ⟨ad163, A163_0, c163_0, A163_1, c163_1, e163, hx163_0, hx163_1, hx163_2, hx163_3, hx163_4, hl163_0, hi163_0, hl163_1, hi163_1⟩ := at_T39 (Kd.N_reads' HO_10.out).2.2 x13_4 p163 q163
                   cases e163
                   obtain ⟨ce163, hce163, hMe163, hcc163⟩ := Kd.N_get HO_10.out z39 x13_4 p163 (by first | exact q163 | exact of_decide_eq_true (by first | (with_reducible assumption) | assumption) | (have e_ := (Kd.N_reads' HO_10.out).1; omega))
                   obtain ⟨ua163_0, uc163_0, ua163_1, uc163_1, rfl, ul163_0, ge163_0, ul163_1, ge163_1⟩ := k39_openF hMe163
                   have hv163_0 := hcc163 0 _ rfl
                   rw [Nat.add_zero] at hv163_0
                   replace hv163_0 := Option.some.inj (hv163_0.symm.trans hx163_0)
                   injection hv163_0 with hva_ hvn_ hvc_
                   rw [hva_] at ge163_0
                   rw [hvc_] at ul163_0
                   have HL163_0 := Aside0.mk (show Kd.V k38 38 _ w.heap.size _ _ ((rd_T39 t158 x13_4).f0.f0) from Kd.V_mk ul163_0 ge163_0)
                   clear hva_ hvn_ hvc_ ge163_0 ul163_0
                   have hv163_1 := hcc163 1 _ rfl
                   rw [add_field _ _ 1 (by omega)] at hv163_1
                   replace hv163_1 := Option.some.inj (hv163_1.symm.trans hx163_1)
                   injection hv163_1 with hva_ hvn_ hvc_
                   rw [hva_] at ge163_1
                   rw [hvc_] at ul163_1
                   have HL163_1 := Aside0.mk (show Kd.V k64 64 _ w.heap.size _ _ ((rd_T39 t158 x13_4).f0.f1) from Kd.V_mk ul163_1 ge163_1)
                   clear hva_ hvn_ hvc_ ge163_1 ul163_1
                   clear hcc163 hce163
                   have HR163_0 := Aside0.mk hi163_0
                   have HC163_0 := Aside0.mk hl163_0
                   clear hi163_0 hl163_0
                   have HR163_1 := Aside0.mk hi163_1
                   have HC163_1 := Aside0.mk hl163_1
                   clear hi163_1 hl163_1
                   replace p163 := eq_true p163
                   replace q163 := eq_true q163
                   have p166 : 0 ≤ (x13_4 : Int) := of_decide_eq_true (by first | (with_reducible assumption) | assumption)
                   have q166 : x13_4 < (t158.length : Int) := of_decide_eq_true (by first | (with_reducible assumption) | assumption)
                   obtain ⟨ad166, A166_0, c166_0, A166_1, c166_1, e166, hx166_0, hx166_1, hx166_2, hx166_3, hx166_4, hl166_0, hi166_0, hl166_1, hi166_1⟩ := at_T39 (Kd.N_reads' HO_10.out).2.2 x13_4 p166 q166
                   obtain rfl : ad163 = ad166 := (by injection e166)
                   obtain ⟨ce166, hce166, hMe166, hcc166⟩ := Kd.N_get HO_10.out z39 x13_4 p166 (by first | exact q166 | exact of_decide_eq_true (by first | (with_reducible assumption) | assumption) | (have e_ := (Kd.N_reads' HO_10.out).1; omega))
                   obtain ⟨ua166_0, uc166_0, ua166_1, uc166_1, rfl, ul166_0, ge166_0, ul166_1, ge166_1⟩ := k39_openF hMe166
                   have hv166_0 := hcc166 0 _ rfl
                   rw [Nat.add_zero] at hv166_0
                   replace hv166_0 := Option.some.inj (hv166_0.symm.trans hx166_0)
                   injection hv166_0 with hva_ hvn_ hvc_
                   rw [hva_] at ge166_0
                   rw [hvc_] at ul166_0
                   have HL166_0 := Aside0.mk (show Kd.V k38 38 _ w.heap.size _ _ ((rd_T39 t158 x13_4).f0.f0) from Kd.V_mk ul166_0 ge166_0)
                   clear hva_ hvn_ hvc_ ge166_0 ul166_0
                   have hv166_1 := hcc166 1 _ rfl
                   rw [add_field _ _ 1 (by omega)] at hv166_1
                   replace hv166_1 := Option.some.inj (hv166_1.symm.trans hx166_1)
                   injection hv166_1 with hva_ hvn_ hvc_
                   rw [hva_] at ge166_1
                   rw [hvc_] at ul166_1
                   have HL166_1 := Aside0.mk (show Kd.V k64 64 _ w.heap.size _ _ ((rd_T39 t158 x13_4).f0.f1) from Kd.V_mk ul166_1 ge166_1)
                   clear hva_ hvn_ hvc_ ge166_1 ul166_1
                   clear hcc166 hce166
                   have HR166_0 := Aside0.mk hi166_0
                   have HC166_0 := Aside0.mk hl166_0
                   clear hi166_0 hl166_0
                   have HR166_1 := Aside0.mk hi166_1
                   have HC166_1 := Aside0.mk hl166_1
                   clear hi166_1 hl166_1
                   replace p166 := eq_true p166
                   replace q166 := eq_true q166
                   have ea_ := Option.some.inj (hx163_0.symm.trans hx166_0)
                   injection ea_ with ea_ en_ ec_
                   subst ea_
                   subst ec_
                   clear en_
                   have ea_ := Option.some.inj (hx163_1.symm.trans hx166_1)
                   injection ea_ with ea_ en_ ec_
                   subst ea_
                   subst ec_
                   clear en_
                   go_wp2_with (first | ((with_reducible refine gate_callee (f := 22) rfl ?_); refine goesL_ (some 114) rfl rfl Try.func22 (by kernel_rfl) rfl #[.agg #[.slice A163_0 ((rd_T39 t158 x13_4).f0.f0).length c163_0, .slice A163_1 ((rd_T39 t158 x13_4).f0.f1).length c163_1, .int .i64 ((rd_T39 t158 x13_4).f0.f2)]] rfl (by (try simp only [List.map_toArray, List.map_cons, List.map_nil]); first | done | rfl | (simp only [List.length_drop, List.length_take]; rfl)) ?_; (with_reducible refine (tx_Weight.calls _ _ ((rd_T39 t158 x13_4).f0.f0) _ _ ((rd_T39 t158 x13_4).f0.f1) ((rd_T39 t158 x13_4).f0.f2) t167 _ ?side1 ?side2 ?side3 ?side4 A36.out).mono ?_); (case side1 => repeat (first | exact (by repeat (first | (with_reducible exact HR166_0.out) | (with_reducible refine Kd.C_alloc ?_ _) | (with_reducible refine Kd.C_drewN ?_ _) | (with_reducible refine Kd.C_drew ?_) | exact HR166_0.out)) | (with_reducible refine Kd.C_alloc ?_ _) | (with_reducible refine Kd.C_drewN ?_ _) | (with_reducible refine Kd.C_drew ?_))); (case side2 => exact HC166_0.out); (case side3 => repeat (first | exact (by repeat (first | (with_reducible exact HR166_1.out) | (with_reducible refine Kd.C_alloc ?_ _) | (with_reducible refine Kd.C_drewN ?_ _) | (with_reducible refine Kd.C_drew ?_) | exact HR166_1.out)) | (with_reducible refine Kd.C_alloc ?_ _) | (with_reducible refine Kd.C_drewN ?_ _) | (with_reducible refine Kd.C_drew ?_))); (case side4 => exact HC166_1.out); rintro e w38 ⟨rfl, hb⟩; refine ⟨_, rfl, ?_⟩; have n0_ := Aside0.mk (Kd.N_below (by (with_reducible repeat (first | apply Kd.N_alloc | apply Kd.N_drewN | apply Kd.N_drew)); exact HO_10.out) hb); have n1_ := Aside0.mk (Kd.V_below (by (with_reducible repeat (first | apply Kd.V_alloc | apply Kd.V_drewN | apply Kd.V_drew)); exact HL163_0.out) hb); have n2_ := Aside0.mk (Kd.V_below (by (with_reducible repeat (first | apply Kd.V_alloc | apply Kd.V_drewN | apply Kd.V_drew)); exact HL163_1.out) hb); have n3_ := Aside0.mk (Kd.V_below (by (with_reducible repeat (first | apply Kd.V_alloc | apply Kd.V_drewN | apply Kd.V_drew)); exact HL166_0.out) hb); have n4_ := Aside0.mk (Kd.V_below (by (with_reducible repeat (first | apply Kd.V_alloc | apply Kd.V_drewN | apply Kd.V_drew)); exact HL166_1.out) hb); have n5_ := Aside0.mk (Kd.C_below (by repeat (first | (with_reducible exact HR163_0.out) | (with_reducible refine Kd.C_alloc ?_ _) | (with_reducible refine Kd.C_drewN ?_ _) | (with_reducible refine Kd.C_drew ?_) | exact HR163_0.out)) hb); have n6_ := Aside0.mk (Kd.C_below (by repeat (first | (with_reducible exact HR163_1.out) | (with_reducible refine Kd.C_alloc ?_ _) | (with_reducible refine Kd.C_drewN ?_ _) | (with_reducible refine Kd.C_drew ?_) | exact HR163_1.out)) hb); have n7_ := Aside0.mk (Kd.C_below (by repeat (first | (with_reducible exact HR166_0.out) | (with_reducible refine Kd.C_alloc ?_ _) | (with_reducible refine Kd.C_drewN ?_ _) | (with_reducible refine Kd.C_drew ?_) | exact HR166_0.out)) hb); have n8_ := Aside0.mk (Kd.C_below (by repeat (first | (with_reducible exact HR166_1.out) | (with_reducible refine Kd.C_alloc ?_ _) | (with_reducible refine Kd.C_drewN ?_ _) | (with_reducible refine Kd.C_drew ?_) | exact HR166_1.out)) hb); have n9_ := Aside0.mk (below_step (by repeat (first | (with_reducible first | exact HB.out | apply below_alloc | apply pw_below_drewN | apply below_drew1) | exact HB.out)) hb); clear HO_10; clear HL163_0; clear HL163_1; clear HL166_0; clear HL166_1; clear HR163_0; clear HR163_1; clear HR166_0; clear HR166_1; clear HB; have HO_10 := n0_; have HL163_0 := n1_; have HL163_1 := n2_; have HL166_0 := n3_; have HL166_1 := n4_; have HR163_0 := n5_; have HR163_1 := n6_; have HR166_0 := n7_; have HR166_1 := n8_; have HB := n9_; clear n0_ n1_ n2_ n3_ n4_ n5_ n6_ n7_ n8_ n9_; (try clear hb); (try clear hb2); (try clear hk); (try clear hi)))
                   go_ret
                   exact ⟨by first | rfl | (simp [errW_none, errW_some] <;> rfl) | (simp [*, errW_none, errW_some] <;> rfl), by repeat (first | (with_reducible first | exact HB.out | apply below_alloc | apply pw_below_drewN | apply below_drew1) | exact HB.out)⟩
                  ·rw [if_neg c37] at H
                   have c37b0 : decide ((wrap64 ((wrap64 (4 * (wrap64 ((wrap64 (10 + (wrap64 (41 * a1)))) + 34)))) + (wrap64 (74 * a1)))) < t167) = false := decide_eq_false c37
                   clear c37
                   by_cases c39 : (wrap64 (x13_4 + 1)) < (t158.length : Int)
                   ·rw [if_pos c39] at H
                    have c39b0 : decide ((wrap64 (x13_4 + 1)) < (t158.length : Int)) = true := decide_eq_true c39
                    clear c39
                    by_cases c40 : (((rd_T39 t158 x13_4).f0.f0).length : Int) = a1
                    ·rw [if_pos c40] at H
                     have c40b0 : ((((rd_T39 t158 x13_4).f0.f0).length : Int) == a1) = true := beq_iff_eq.mpr c40
                     have c40b1 : ((((rd_T39 t158 x13_4).f0.f0).length : Int) != a1) = false := bne_eq_false_iff_eq.mpr c40
                     clear c40
                     have H' := Aside0.mk H
                     clear H
                     have p163 : 0 ≤ (x13_4 : Int) := of_decide_eq_true (by first | (with_reducible assumption) | assumption)
                     have q163 : x13_4 < (t158.length : Int) := of_decide_eq_true (by first | (with_reducible assumption) | assumption)
                     obtain ⟨ad163, A163_0, c163_0, A163_1, c163_1, e163, hx163_0, hx163_1, hx163_2, hx163_3, hx163_4, hl163_0, hi163_0, hl163_1, hi163_1⟩ := at_T39 (Kd.N_reads' HO_10.out).2.2 x13_4 p163 q163
                     cases e163
                     obtain ⟨ce163, hce163, hMe163, hcc163⟩ := Kd.N_get HO_10.out z39 x13_4 p163 (by first | exact q163 | exact of_decide_eq_true (by first | (with_reducible assumption) | assumption) | (have e_ := (Kd.N_reads' HO_10.out).1; omega))
                     obtain ⟨ua163_0, uc163_0, ua163_1, uc163_1, rfl, ul163_0, ge163_0, ul163_1, ge163_1⟩ := k39_openF hMe163
                     have hv163_0 := hcc163 0 _ rfl
                     rw [Nat.add_zero] at hv163_0
                     replace hv163_0 := Option.some.inj (hv163_0.symm.trans hx163_0)
                     injection hv163_0 with hva_ hvn_ hvc_
                     rw [hva_] at ge163_0
                     rw [hvc_] at ul163_0
                     have HL163_0 := Aside0.mk (show Kd.V k38 38 _ w.heap.size _ _ ((rd_T39 t158 x13_4).f0.f0) from Kd.V_mk ul163_0 ge163_0)
                     clear hva_ hvn_ hvc_ ge163_0 ul163_0
                     have hv163_1 := hcc163 1 _ rfl
                     rw [add_field _ _ 1 (by omega)] at hv163_1
                     replace hv163_1 := Option.some.inj (hv163_1.symm.trans hx163_1)
                     injection hv163_1 with hva_ hvn_ hvc_
                     rw [hva_] at ge163_1
                     rw [hvc_] at ul163_1
                     have HL163_1 := Aside0.mk (show Kd.V k64 64 _ w.heap.size _ _ ((rd_T39 t158 x13_4).f0.f1) from Kd.V_mk ul163_1 ge163_1)
                     clear hva_ hvn_ hvc_ ge163_1 ul163_1
                     clear hcc163 hce163
                     have HR163_0 := Aside0.mk hi163_0
                     have HC163_0 := Aside0.mk hl163_0
                     clear hi163_0 hl163_0
                     have HR163_1 := Aside0.mk hi163_1
                     have HC163_1 := Aside0.mk hl163_1
                     clear hi163_1 hl163_1
                     replace p163 := eq_true p163
                     replace q163 := eq_true q163
                     have p166 : 0 ≤ (x13_4 : Int) := of_decide_eq_true (by first | (with_reducible assumption) | assumption)
                     have q166 : x13_4 < (t158.length : Int) := of_decide_eq_true (by first | (with_reducible assumption) | assumption)
                     obtain ⟨ad166, A166_0, c166_0, A166_1, c166_1, e166, hx166_0, hx166_1, hx166_2, hx166_3, hx166_4, hl166_0, hi166_0, hl166_1, hi166_1⟩ := at_T39 (Kd.N_reads' HO_10.out).2.2 x13_4 p166 q166
                     obtain rfl : ad163 = ad166 := (by injection e166)
                     obtain ⟨ce166, hce166, hMe166, hcc166⟩ := Kd.N_get HO_10.out z39 x13_4 p166 (by first | exact q166 | exact of_decide_eq_true (by first | (with_reducible assumption) | assumption) | (have e_ := (Kd.N_reads' HO_10.out).1; omega))
                     obtain ⟨ua166_0, uc166_0, ua166_1, uc166_1, rfl, ul166_0, ge166_0, ul166_1, ge166_1⟩ := k39_openF hMe166
                     have hv166_0 := hcc166 0 _ rfl
                     rw [Nat.add_zero] at hv166_0
                     replace hv166_0 := Option.some.inj (hv166_0.symm.trans hx166_0)
                     injection hv166_0 with hva_ hvn_ hvc_
                     rw [hva_] at ge166_0
                     rw [hvc_] at ul166_0
                     have HL166_0 := Aside0.mk (show Kd.V k38 38 _ w.heap.size _ _ ((rd_T39 t158 x13_4).f0.f0) from Kd.V_mk ul166_0 ge166_0)
                     clear hva_ hvn_ hvc_ ge166_0 ul166_0
                     have hv166_1 := hcc166 1 _ rfl
                     rw [add_field _ _ 1 (by omega)] at hv166_1
                     replace hv166_1 := Option.some.inj (hv166_1.symm.trans hx166_1)
                     injection hv166_1 with hva_ hvn_ hvc_
                     rw [hva_] at ge166_1
                     rw [hvc_] at ul166_1
                     have HL166_1 := Aside0.mk (show Kd.V k64 64 _ w.heap.size _ _ ((rd_T39 t158 x13_4).f0.f1) from Kd.V_mk ul166_1 ge166_1)
                     clear hva_ hvn_ hvc_ ge166_1 ul166_1
                     clear hcc166 hce166
                     have HR166_0 := Aside0.mk hi166_0
                     have HC166_0 := Aside0.mk hl166_0
                     clear hi166_0 hl166_0
                     have HR166_1 := Aside0.mk hi166_1
                     have HC166_1 := Aside0.mk hl166_1
                     clear hi166_1 hl166_1
                     replace p166 := eq_true p166
                     replace q166 := eq_true q166
                     have ea_ := Option.some.inj (hx163_0.symm.trans hx166_0)
                     injection ea_ with ea_ en_ ec_
                     subst ea_
                     subst ec_
                     clear en_
                     have ea_ := Option.some.inj (hx163_1.symm.trans hx166_1)
                     injection ea_ with ea_ en_ ec_
                     subst ea_
                     subst ec_
                     clear en_
                     go_wp2_with (first | ((with_reducible refine gate_callee (f := 22) rfl ?_); refine goesL_ (some 114) rfl rfl Try.func22 (by kernel_rfl) rfl #[.agg #[.slice A163_0 ((rd_T39 t158 x13_4).f0.f0).length c163_0, .slice A163_1 ((rd_T39 t158 x13_4).f0.f1).length c163_1, .int .i64 ((rd_T39 t158 x13_4).f0.f2)]] rfl (by (try simp only [List.map_toArray, List.map_cons, List.map_nil]); first | done | rfl | (simp only [List.length_drop, List.length_take]; rfl)) ?_; (with_reducible refine (tx_Weight.calls _ _ ((rd_T39 t158 x13_4).f0.f0) _ _ ((rd_T39 t158 x13_4).f0.f1) ((rd_T39 t158 x13_4).f0.f2) t167 _ ?side1 ?side2 ?side3 ?side4 A36.out).mono ?_); (case side1 => repeat (first | exact (by repeat (first | (with_reducible exact HR166_0.out) | (with_reducible refine Kd.C_alloc ?_ _) | (with_reducible refine Kd.C_drewN ?_ _) | (with_reducible refine Kd.C_drew ?_) | exact HR166_0.out)) | (with_reducible refine Kd.C_alloc ?_ _) | (with_reducible refine Kd.C_drewN ?_ _) | (with_reducible refine Kd.C_drew ?_))); (case side2 => exact HC166_0.out); (case side3 => repeat (first | exact (by repeat (first | (with_reducible exact HR166_1.out) | (with_reducible refine Kd.C_alloc ?_ _) | (with_reducible refine Kd.C_drewN ?_ _) | (with_reducible refine Kd.C_drew ?_) | exact HR166_1.out)) | (with_reducible refine Kd.C_alloc ?_ _) | (with_reducible refine Kd.C_drewN ?_ _) | (with_reducible refine Kd.C_drew ?_))); (case side4 => exact HC166_1.out); rintro e w41 ⟨rfl, hb⟩; refine ⟨_, rfl, ?_⟩; have n0_ := Aside0.mk (Kd.N_below (by (with_reducible repeat (first | apply Kd.N_alloc | apply Kd.N_drewN | apply Kd.N_drew)); exact HO_10.out) hb); have n1_ := Aside0.mk (Kd.V_below (by (with_reducible repeat (first | apply Kd.V_alloc | apply Kd.V_drewN | apply Kd.V_drew)); exact HL163_0.out) hb); have n2_ := Aside0.mk (Kd.V_below (by (with_reducible repeat (first | apply Kd.V_alloc | apply Kd.V_drewN | apply Kd.V_drew)); exact HL163_1.out) hb); have n3_ := Aside0.mk (Kd.V_below (by (with_reducible repeat (first | apply Kd.V_alloc | apply Kd.V_drewN | apply Kd.V_drew)); exact HL166_0.out) hb); have n4_ := Aside0.mk (Kd.V_below (by (with_reducible repeat (first | apply Kd.V_alloc | apply Kd.V_drewN | apply Kd.V_drew)); exact HL166_1.out) hb); have n5_ := Aside0.mk (Kd.C_below (by repeat (first | (with_reducible exact HR163_0.out) | (with_reducible refine Kd.C_alloc ?_ _) | (with_reducible refine Kd.C_drewN ?_ _) | (with_reducible refine Kd.C_drew ?_) | exact HR163_0.out)) hb); have n6_ := Aside0.mk (Kd.C_below (by repeat (first | (with_reducible exact HR163_1.out) | (with_reducible refine Kd.C_alloc ?_ _) | (with_reducible refine Kd.C_drewN ?_ _) | (with_reducible refine Kd.C_drew ?_) | exact HR163_1.out)) hb); have n7_ := Aside0.mk (Kd.C_below (by repeat (first | (with_reducible exact HR166_0.out) | (with_reducible refine Kd.C_alloc ?_ _) | (with_reducible refine Kd.C_drewN ?_ _) | (with_reducible refine Kd.C_drew ?_) | exact HR166_0.out)) hb); have n8_ := Aside0.mk (Kd.C_below (by repeat (first | (with_reducible exact HR166_1.out) | (with_reducible refine Kd.C_alloc ?_ _) | (with_reducible refine Kd.C_drewN ?_ _) | (with_reducible refine Kd.C_drew ?_) | exact HR166_1.out)) hb); have n9_ := Aside0.mk (below_step (by repeat (first | (with_reducible first | exact HB.out | apply below_alloc | apply pw_below_drewN | apply below_drew1) | exact HB.out)) hb); clear HO_10; clear HL163_0; clear HL163_1; clear HL166_0; clear HL166_1; clear HR163_0; clear HR163_1; clear HR166_0; clear HR166_1; clear HB; have HO_10 := n0_; have HL163_0 := n1_; have HL163_1 := n2_; have HL166_0 := n3_; have HL166_1 := n4_; have HR163_0 := n5_; have HR163_1 := n6_; have HR166_0 := n7_; have HR166_1 := n8_; have HB := n9_; clear n0_ n1_ n2_ n3_ n4_ n5_ n6_ n7_ n8_ n9_; (try clear hb); (try clear hb2); (try clear hk); (try clear hi); have p168 : 0 ≤ (x13_4 : Int) := of_decide_eq_true (by first | (with_reducible assumption) | assumption); have q168 : x13_4 < (t158.length : Int) := of_decide_eq_true (by first | (with_reducible assumption) | assumption); obtain ⟨ad168, A168_0, c168_0, A168_1, c168_1, e168, hx168_0, hx168_1, hx168_2, hx168_3, hx168_4, hl168_0, hi168_0, hl168_1, hi168_1⟩ := at_T39 (Kd.N_reads' HO_10.out).2.2 x13_4 p168 q168; obtain rfl : ad163 = ad168 := (by injection e168); obtain ⟨ce168, hce168, hMe168, hcc168⟩ := Kd.N_get HO_10.out z39 x13_4 p168 (by first | exact q168 | exact of_decide_eq_true (by first | (with_reducible assumption) | assumption) | (have e_ := (Kd.N_reads' HO_10.out).1; omega)); obtain ⟨ua168_0, uc168_0, ua168_1, uc168_1, rfl, ul168_0, ge168_0, ul168_1, ge168_1⟩ := k39_openF hMe168; have hv168_0 := hcc168 0 _ rfl; rw [Nat.add_zero] at hv168_0; replace hv168_0 := Option.some.inj (hv168_0.symm.trans hx168_0); injection hv168_0 with hva_ hvn_ hvc_; rw [hva_] at ge168_0; rw [hvc_] at ul168_0; have HL168_0 := Aside0.mk (show Kd.V k38 38 _ w.heap.size _ _ ((rd_T39 t158 x13_4).f0.f0) from Kd.V_mk ul168_0 ge168_0); clear hva_ hvn_ hvc_ ge168_0 ul168_0; have hv168_1 := hcc168 1 _ rfl; rw [add_field _ _ 1 (by omega)] at hv168_1; replace hv168_1 := Option.some.inj (hv168_1.symm.trans hx168_1); injection hv168_1 with hva_ hvn_ hvc_; rw [hva_] at ge168_1; rw [hvc_] at ul168_1; have HL168_1 := Aside0.mk (show Kd.V k64 64 _ w.heap.size _ _ ((rd_T39 t158 x13_4).f0.f1) from Kd.V_mk ul168_1 ge168_1); clear hva_ hvn_ hvc_ ge168_1 ul168_1; clear hcc168 hce168; have HR168_0 := Aside0.mk hi168_0; have HC168_0 := Aside0.mk hl168_0; clear hi168_0 hl168_0; have HR168_1 := Aside0.mk hi168_1; have HC168_1 := Aside0.mk hl168_1; clear hi168_1 hl168_1; replace p168 := eq_true p168; replace q168 := eq_true q168))
                     go_roundg k5
                     case measure => have := HJ3.out; have := HK2.out; have := HJ19.out; have := HK4.out; have := HK5.out; omega
                     case rel => exact ⟨(x12_5), (wrap64 (x13_4 + 1)), (by first | rfl | (simp; done) | (simp [*]; done)), (by first | rfl | (simp; done) | (simp [*]; done)), H', ⟨by have := HJ3.out; have := HK2.out; have := HJ19.out; have := HK4.out; have := HK5.out; omega⟩, ⟨by (with_reducible repeat (first | apply Kd.N_alloc | apply Kd.N_drewN | apply Kd.N_drew)); exact HO_10.out⟩, ⟨by repeat (first | (with_reducible first | exact HB.out | apply below_alloc | apply pw_below_drewN | apply below_drew1) | exact HB.out)⟩⟩
                    ·rw [if_neg c40] at H
                     have c40b0 : ((((rd_T39 t158 x13_4).f0.f0).length : Int) == a1) = false := beq_eq_false_iff_ne.mpr c40
                     have c40b1 : ((((rd_T39 t158 x13_4).f0.f0).length : Int) != a1) = true := bne_iff_ne.mpr c40
                     obtain rfl := Option.some.inj H
                     have p163 : 0 ≤ (x13_4 : Int) := of_decide_eq_true (by first | (with_reducible assumption) | assumption)
                     have q163 : x13_4 < (t158.length : Int) := of_decide_eq_true (by first | (with_reducible assumption) | assumption)
                     obtain ⟨ad163, A163_0, c163_0, A163_1, c163_1, e163, hx163_0, hx163_1, hx163_2, hx163_3, hx163_4, hl163_0, hi163_0, hl163_1, hi163_1⟩ := at_T39 (Kd.N_reads' HO_10.out).2.2 x13_4 p163 q163
                     cases e163
                     obtain ⟨ce163, hce163, hMe163, hcc163⟩ := Kd.N_get HO_10.out z39 x13_4 p163 (by first | exact q163 | exact of_decide_eq_true (by first | (with_reducible assumption) | assumption) | (have e_ := (Kd.N_reads' HO_10.out).1; omega))
                     obtain ⟨ua163_0, uc163_0, ua163_1, uc163_1, rfl, ul163_0, ge163_0, ul163_1, ge163_1⟩ := k39_openF hMe163
                     have hv163_0 := hcc163 0 _ rfl
                     rw [Nat.add_zero] at hv163_0
                     replace hv163_0 := Option.some.inj (hv163_0.symm.trans hx163_0)
                     injection hv163_0 with hva_ hvn_ hvc_
                     rw [hva_] at ge163_0
                     rw [hvc_] at ul163_0
                     have HL163_0 := Aside0.mk (show Kd.V k38 38 _ w.heap.size _ _ ((rd_T39 t158 x13_4).f0.f0) from Kd.V_mk ul163_0 ge163_0)
                     clear hva_ hvn_ hvc_ ge163_0 ul163_0
                     have hv163_1 := hcc163 1 _ rfl
                     rw [add_field _ _ 1 (by omega)] at hv163_1
                     replace hv163_1 := Option.some.inj (hv163_1.symm.trans hx163_1)
                     injection hv163_1 with hva_ hvn_ hvc_
                     rw [hva_] at ge163_1
                     rw [hvc_] at ul163_1
                     have HL163_1 := Aside0.mk (show Kd.V k64 64 _ w.heap.size _ _ ((rd_T39 t158 x13_4).f0.f1) from Kd.V_mk ul163_1 ge163_1)
                     clear hva_ hvn_ hvc_ ge163_1 ul163_1
                     clear hcc163 hce163
                     have HR163_0 := Aside0.mk hi163_0
                     have HC163_0 := Aside0.mk hl163_0
                     clear hi163_0 hl163_0
                     have HR163_1 := Aside0.mk hi163_1
                     have HC163_1 := Aside0.mk hl163_1
                     clear hi163_1 hl163_1
                     replace p163 := eq_true p163
                     replace q163 := eq_true q163
                     have p166 : 0 ≤ (x13_4 : Int) := of_decide_eq_true (by first | (with_reducible assumption) | assumption)
                     have q166 : x13_4 < (t158.length : Int) := of_decide_eq_true (by first | (with_reducible assumption) | assumption)
                     obtain ⟨ad166, A166_0, c166_0, A166_1, c166_1, e166, hx166_0, hx166_1, hx166_2, hx166_3, hx166_4, hl166_0, hi166_0, hl166_1, hi166_1⟩ := at_T39 (Kd.N_reads' HO_10.out).2.2 x13_4 p166 q166
                     obtain rfl : ad163 = ad166 := (by injection e166)
                     obtain ⟨ce166, hce166, hMe166, hcc166⟩ := Kd.N_get HO_10.out z39 x13_4 p166 (by first | exact q166 | exact of_decide_eq_true (by first | (with_reducible assumption) | assumption) | (have e_ := (Kd.N_reads' HO_10.out).1; omega))
                     obtain ⟨ua166_0, uc166_0, ua166_1, uc166_1, rfl, ul166_0, ge166_0, ul166_1, ge166_1⟩ := k39_openF hMe166
                     have hv166_0 := hcc166 0 _ rfl
                     rw [Nat.add_zero] at hv166_0
                     replace hv166_0 := Option.some.inj (hv166_0.symm.trans hx166_0)
                     injection hv166_0 with hva_ hvn_ hvc_
                     rw [hva_] at ge166_0
                     rw [hvc_] at ul166_0
                     have HL166_0 := Aside0.mk (show Kd.V k38 38 _ w.heap.size _ _ ((rd_T39 t158 x13_4).f0.f0) from Kd.V_mk ul166_0 ge166_0)
                     clear hva_ hvn_ hvc_ ge166_0 ul166_0
                     have hv166_1 := hcc166 1 _ rfl
                     rw [add_field _ _ 1 (by omega)] at hv166_1
                     replace hv166_1 := Option.some.inj (hv166_1.symm.trans hx166_1)
                     injection hv166_1 with hva_ hvn_ hvc_
                     rw [hva_] at ge166_1
                     rw [hvc_] at ul166_1
                     have HL166_1 := Aside0.mk (show Kd.V k64 64 _ w.heap.size _ _ ((rd_T39 t158 x13_4).f0.f1) from Kd.V_mk ul166_1 ge166_1)
                     clear hva_ hvn_ hvc_ ge166_1 ul166_1
                     clear hcc166 hce166
                     have HR166_0 := Aside0.mk hi166_0
                     have HC166_0 := Aside0.mk hl166_0
                     clear hi166_0 hl166_0
                     have HR166_1 := Aside0.mk hi166_1
                     have HC166_1 := Aside0.mk hl166_1
                     clear hi166_1 hl166_1
                     replace p166 := eq_true p166
                     replace q166 := eq_true q166
                     have ea_ := Option.some.inj (hx163_0.symm.trans hx166_0)
                     injection ea_ with ea_ en_ ec_
                     subst ea_
                     subst ec_
                     clear en_
                     have ea_ := Option.some.inj (hx163_1.symm.trans hx166_1)
                     injection ea_ with ea_ en_ ec_
                     subst ea_
                     subst ec_
                     clear en_
                     go_wp2_with (first | ((with_reducible refine gate_callee (f := 22) rfl ?_); refine goesL_ (some 114) rfl rfl Try.func22 (by kernel_rfl) rfl #[.agg #[.slice A163_0 ((rd_T39 t158 x13_4).f0.f0).length c163_0, .slice A163_1 ((rd_T39 t158 x13_4).f0.f1).length c163_1, .int .i64 ((rd_T39 t158 x13_4).f0.f2)]] rfl (by (try simp only [List.map_toArray, List.map_cons, List.map_nil]); first | done | rfl | (simp only [List.length_drop, List.length_take]; rfl)) ?_; (with_reducible refine (tx_Weight.calls _ _ ((rd_T39 t158 x13_4).f0.f0) _ _ ((rd_T39 t158 x13_4).f0.f1) ((rd_T39 t158 x13_4).f0.f2) t167 _ ?side1 ?side2 ?side3 ?side4 A36.out).mono ?_); (case side1 => repeat (first | exact (by repeat (first | (with_reducible exact HR166_0.out) | (with_reducible refine Kd.C_alloc ?_ _) | (with_reducible refine Kd.C_drewN ?_ _) | (with_reducible refine Kd.C_drew ?_) | exact HR166_0.out)) | (with_reducible refine Kd.C_alloc ?_ _) | (with_reducible refine Kd.C_drewN ?_ _) | (with_reducible refine Kd.C_drew ?_))); (case side2 => exact HC166_0.out); (case side3 => repeat (first | exact (by repeat (first | (with_reducible exact HR166_1.out) | (with_reducible refine Kd.C_alloc ?_ _) | (with_reducible refine Kd.C_drewN ?_ _) | (with_reducible refine Kd.C_drew ?_) | exact HR166_1.out)) | (with_reducible refine Kd.C_alloc ?_ _) | (with_reducible refine Kd.C_drewN ?_ _) | (with_reducible refine Kd.C_drew ?_))); (case side4 => exact HC166_1.out); rintro e w42 ⟨rfl, hb⟩; refine ⟨_, rfl, ?_⟩; have n0_ := Aside0.mk (Kd.N_below (by (with_reducible repeat (first | apply Kd.N_alloc | apply Kd.N_drewN | apply Kd.N_drew)); exact HO_10.out) hb); have n1_ := Aside0.mk (Kd.V_below (by (with_reducible repeat (first | apply Kd.V_alloc | apply Kd.V_drewN | apply Kd.V_drew)); exact HL163_0.out) hb); have n2_ := Aside0.mk (Kd.V_below (by (with_reducible repeat (first | apply Kd.V_alloc | apply Kd.V_drewN | apply Kd.V_drew)); exact HL163_1.out) hb); have n3_ := Aside0.mk (Kd.V_below (by (with_reducible repeat (first | apply Kd.V_alloc | apply Kd.V_drewN | apply Kd.V_drew)); exact HL166_0.out) hb); have n4_ := Aside0.mk (Kd.V_below (by (with_reducible repeat (first | apply Kd.V_alloc | apply Kd.V_drewN | apply Kd.V_drew)); exact HL166_1.out) hb); have n5_ := Aside0.mk (Kd.C_below (by repeat (first | (with_reducible exact HR163_0.out) | (with_reducible refine Kd.C_alloc ?_ _) | (with_reducible refine Kd.C_drewN ?_ _) | (with_reducible refine Kd.C_drew ?_) | exact HR163_0.out)) hb); have n6_ := Aside0.mk (Kd.C_below (by repeat (first | (with_reducible exact HR163_1.out) | (with_reducible refine Kd.C_alloc ?_ _) | (with_reducible refine Kd.C_drewN ?_ _) | (with_reducible refine Kd.C_drew ?_) | exact HR163_1.out)) hb); have n7_ := Aside0.mk (Kd.C_below (by repeat (first | (with_reducible exact HR166_0.out) | (with_reducible refine Kd.C_alloc ?_ _) | (with_reducible refine Kd.C_drewN ?_ _) | (with_reducible refine Kd.C_drew ?_) | exact HR166_0.out)) hb); have n8_ := Aside0.mk (Kd.C_below (by repeat (first | (with_reducible exact HR166_1.out) | (with_reducible refine Kd.C_alloc ?_ _) | (with_reducible refine Kd.C_drewN ?_ _) | (with_reducible refine Kd.C_drew ?_) | exact HR166_1.out)) hb); have n9_ := Aside0.mk (below_step (by repeat (first | (with_reducible first | exact HB.out | apply below_alloc | apply pw_below_drewN | apply below_drew1) | exact HB.out)) hb); clear HO_10; clear HL163_0; clear HL163_1; clear HL166_0; clear HL166_1; clear HR163_0; clear HR163_1; clear HR166_0; clear HR166_1; clear HB; have HO_10 := n0_; have HL163_0 := n1_; have HL163_1 := n2_; have HL166_0 := n3_; have HL166_1 := n4_; have HR163_0 := n5_; have HR163_1 := n6_; have HR166_0 := n7_; have HR166_1 := n8_; have HB := n9_; clear n0_ n1_ n2_ n3_ n4_ n5_ n6_ n7_ n8_ n9_; (try clear hb); (try clear hb2); (try clear hk); (try clear hi); have p168 : 0 ≤ (x13_4 : Int) := of_decide_eq_true (by first | (with_reducible assumption) | assumption); have q168 : x13_4 < (t158.length : Int) := of_decide_eq_true (by first | (with_reducible assumption) | assumption); obtain ⟨ad168, A168_0, c168_0, A168_1, c168_1, e168, hx168_0, hx168_1, hx168_2, hx168_3, hx168_4, hl168_0, hi168_0, hl168_1, hi168_1⟩ := at_T39 (Kd.N_reads' HO_10.out).2.2 x13_4 p168 q168; obtain rfl : ad163 = ad168 := (by injection e168); obtain ⟨ce168, hce168, hMe168, hcc168⟩ := Kd.N_get HO_10.out z39 x13_4 p168 (by first | exact q168 | exact of_decide_eq_true (by first | (with_reducible assumption) | assumption) | (have e_ := (Kd.N_reads' HO_10.out).1; omega)); obtain ⟨ua168_0, uc168_0, ua168_1, uc168_1, rfl, ul168_0, ge168_0, ul168_1, ge168_1⟩ := k39_openF hMe168; have hv168_0 := hcc168 0 _ rfl; rw [Nat.add_zero] at hv168_0; replace hv168_0 := Option.some.inj (hv168_0.symm.trans hx168_0); injection hv168_0 with hva_ hvn_ hvc_; rw [hva_] at ge168_0; rw [hvc_] at ul168_0; have HL168_0 := Aside0.mk (show Kd.V k38 38 _ w.heap.size _ _ ((rd_T39 t158 x13_4).f0.f0) from Kd.V_mk ul168_0 ge168_0); clear hva_ hvn_ hvc_ ge168_0 ul168_0; have hv168_1 := hcc168 1 _ rfl; rw [add_field _ _ 1 (by omega)] at hv168_1; replace hv168_1 := Option.some.inj (hv168_1.symm.trans hx168_1); injection hv168_1 with hva_ hvn_ hvc_; rw [hva_] at ge168_1; rw [hvc_] at ul168_1; have HL168_1 := Aside0.mk (show Kd.V k64 64 _ w.heap.size _ _ ((rd_T39 t158 x13_4).f0.f1) from Kd.V_mk ul168_1 ge168_1); clear hva_ hvn_ hvc_ ge168_1 ul168_1; clear hcc168 hce168; have HR168_0 := Aside0.mk hi168_0; have HC168_0 := Aside0.mk hl168_0; clear hi168_0 hl168_0; have HR168_1 := Aside0.mk hi168_1; have HC168_1 := Aside0.mk hl168_1; clear hi168_1 hl168_1; replace p168 := eq_true p168; replace q168 := eq_true q168))
                     go_ret
                     exact ⟨by first | rfl | (simp [errW_none, errW_some] <;> rfl) | (simp [*, errW_none, errW_some] <;> rfl), by repeat (first | (with_reducible first | exact HB.out | apply below_alloc | apply pw_below_drewN | apply below_drew1) | exact HB.out)⟩
                   ·rw [if_neg c39] at H
                    have c39b0 : decide ((wrap64 (x13_4 + 1)) < (t158.length : Int)) = false := decide_eq_false c39
                    clear c39
                    have H' := Aside0.mk H
                    clear H
                    have p163 : 0 ≤ (x13_4 : Int) := of_decide_eq_true (by first | (with_reducible assumption) | assumption)
                    have q163 : x13_4 < (t158.length : Int) := of_decide_eq_true (by first | (with_reducible assumption) | assumption)
                    obtain ⟨ad163, A163_0, c163_0, A163_1, c163_1, e163, hx163_0, hx163_1, hx163_2, hx163_3, hx163_4, hl163_0, hi163_0, hl163_1, hi163_1⟩ := at_T39 (Kd.N_reads' HO_10.out).2.2 x13_4 p163 q163
                    cases e163
                    obtain ⟨ce163, hce163, hMe163, hcc163⟩ := Kd.N_get HO_10.out z39 x13_4 p163 (by first | exact q163 | exact of_decide_eq_true (by first | (with_reducible assumption) | assumption) | (have e_ := (Kd.N_reads' HO_10.out).1; omega))
                    obtain ⟨ua163_0, uc163_0, ua163_1, uc163_1, rfl, ul163_0, ge163_0, ul163_1, ge163_1⟩ := k39_openF hMe163
                    have hv163_0 := hcc163 0 _ rfl
                    rw [Nat.add_zero] at hv163_0
                    replace hv163_0 := Option.some.inj (hv163_0.symm.trans hx163_0)
                    injection hv163_0 with hva_ hvn_ hvc_
                    rw [hva_] at ge163_0
                    rw [hvc_] at ul163_0
                    have HL163_0 := Aside0.mk (show Kd.V k38 38 _ w.heap.size _ _ ((rd_T39 t158 x13_4).f0.f0) from Kd.V_mk ul163_0 ge163_0)
                    clear hva_ hvn_ hvc_ ge163_0 ul163_0
                    have hv163_1 := hcc163 1 _ rfl
                    rw [add_field _ _ 1 (by omega)] at hv163_1
                    replace hv163_1 := Option.some.inj (hv163_1.symm.trans hx163_1)
                    injection hv163_1 with hva_ hvn_ hvc_
                    rw [hva_] at ge163_1
                    rw [hvc_] at ul163_1
                    have HL163_1 := Aside0.mk (show Kd.V k64 64 _ w.heap.size _ _ ((rd_T39 t158 x13_4).f0.f1) from Kd.V_mk ul163_1 ge163_1)
                    clear hva_ hvn_ hvc_ ge163_1 ul163_1
                    clear hcc163 hce163
                    have HR163_0 := Aside0.mk hi163_0
                    have HC163_0 := Aside0.mk hl163_0
                    clear hi163_0 hl163_0
                    have HR163_1 := Aside0.mk hi163_1
                    have HC163_1 := Aside0.mk hl163_1
                    clear hi163_1 hl163_1
                    replace p163 := eq_true p163
                    replace q163 := eq_true q163
                    have p166 : 0 ≤ (x13_4 : Int) := of_decide_eq_true (by first | (with_reducible assumption) | assumption)
                    have q166 : x13_4 < (t158.length : Int) := of_decide_eq_true (by first | (with_reducible assumption) | assumption)
                    obtain ⟨ad166, A166_0, c166_0, A166_1, c166_1, e166, hx166_0, hx166_1, hx166_2, hx166_3, hx166_4, hl166_0, hi166_0, hl166_1, hi166_1⟩ := at_T39 (Kd.N_reads' HO_10.out).2.2 x13_4 p166 q166
                    obtain rfl : ad163 = ad166 := (by injection e166)
                    obtain ⟨ce166, hce166, hMe166, hcc166⟩ := Kd.N_get HO_10.out z39 x13_4 p166 (by first | exact q166 | exact of_decide_eq_true (by first | (with_reducible assumption) | assumption) | (have e_ := (Kd.N_reads' HO_10.out).1; omega))
                    obtain ⟨ua166_0, uc166_0, ua166_1, uc166_1, rfl, ul166_0, ge166_0, ul166_1, ge166_1⟩ := k39_openF hMe166
                    have hv166_0 := hcc166 0 _ rfl
                    rw [Nat.add_zero] at hv166_0
                    replace hv166_0 := Option.some.inj (hv166_0.symm.trans hx166_0)
                    injection hv166_0 with hva_ hvn_ hvc_
                    rw [hva_] at ge166_0
                    rw [hvc_] at ul166_0
                    have HL166_0 := Aside0.mk (show Kd.V k38 38 _ w.heap.size _ _ ((rd_T39 t158 x13_4).f0.f0) from Kd.V_mk ul166_0 ge166_0)
                    clear hva_ hvn_ hvc_ ge166_0 ul166_0
                    have hv166_1 := hcc166 1 _ rfl
                    rw [add_field _ _ 1 (by omega)] at hv166_1
                    replace hv166_1 := Option.some.inj (hv166_1.symm.trans hx166_1)
                    injection hv166_1 with hva_ hvn_ hvc_
                    rw [hva_] at ge166_1
                    rw [hvc_] at ul166_1
                    have HL166_1 := Aside0.mk (show Kd.V k64 64 _ w.heap.size _ _ ((rd_T39 t158 x13_4).f0.f1) from Kd.V_mk ul166_1 ge166_1)
                    clear hva_ hvn_ hvc_ ge166_1 ul166_1
                    clear hcc166 hce166
                    have HR166_0 := Aside0.mk hi166_0
                    have HC166_0 := Aside0.mk hl166_0
                    clear hi166_0 hl166_0
                    have HR166_1 := Aside0.mk hi166_1
                    have HC166_1 := Aside0.mk hl166_1
                    clear hi166_1 hl166_1
                    replace p166 := eq_true p166
                    replace q166 := eq_true q166
                    have ea_ := Option.some.inj (hx163_0.symm.trans hx166_0)
                    injection ea_ with ea_ en_ ec_
                    subst ea_
                    subst ec_
                    clear en_
                    have ea_ := Option.some.inj (hx163_1.symm.trans hx166_1)
                    injection ea_ with ea_ en_ ec_
                    subst ea_
                    subst ec_
                    clear en_
                    go_wp2_with (first | ((with_reducible refine gate_callee (f := 22) rfl ?_); refine goesL_ (some 114) rfl rfl Try.func22 (by kernel_rfl) rfl #[.agg #[.slice A163_0 ((rd_T39 t158 x13_4).f0.f0).length c163_0, .slice A163_1 ((rd_T39 t158 x13_4).f0.f1).length c163_1, .int .i64 ((rd_T39 t158 x13_4).f0.f2)]] rfl (by (try simp only [List.map_toArray, List.map_cons, List.map_nil]); first | done | rfl | (simp only [List.length_drop, List.length_take]; rfl)) ?_; (with_reducible refine (tx_Weight.calls _ _ ((rd_T39 t158 x13_4).f0.f0) _ _ ((rd_T39 t158 x13_4).f0.f1) ((rd_T39 t158 x13_4).f0.f2) t167 _ ?side1 ?side2 ?side3 ?side4 A36.out).mono ?_); (case side1 => repeat (first | exact (by repeat (first | (with_reducible exact HR166_0.out) | (with_reducible refine Kd.C_alloc ?_ _) | (with_reducible refine Kd.C_drewN ?_ _) | (with_reducible refine Kd.C_drew ?_) | exact HR166_0.out)) | (with_reducible refine Kd.C_alloc ?_ _) | (with_reducible refine Kd.C_drewN ?_ _) | (with_reducible refine Kd.C_drew ?_))); (case side2 => exact HC166_0.out); (case side3 => repeat (first | exact (by repeat (first | (with_reducible exact HR166_1.out) | (with_reducible refine Kd.C_alloc ?_ _) | (with_reducible refine Kd.C_drewN ?_ _) | (with_reducible refine Kd.C_drew ?_) | exact HR166_1.out)) | (with_reducible refine Kd.C_alloc ?_ _) | (with_reducible refine Kd.C_drewN ?_ _) | (with_reducible refine Kd.C_drew ?_))); (case side4 => exact HC166_1.out); rintro e w43 ⟨rfl, hb⟩; refine ⟨_, rfl, ?_⟩; have n0_ := Aside0.mk (Kd.N_below (by (with_reducible repeat (first | apply Kd.N_alloc | apply Kd.N_drewN | apply Kd.N_drew)); exact HO_10.out) hb); have n1_ := Aside0.mk (Kd.V_below (by (with_reducible repeat (first | apply Kd.V_alloc | apply Kd.V_drewN | apply Kd.V_drew)); exact HL163_0.out) hb); have n2_ := Aside0.mk (Kd.V_below (by (with_reducible repeat (first | apply Kd.V_alloc | apply Kd.V_drewN | apply Kd.V_drew)); exact HL163_1.out) hb); have n3_ := Aside0.mk (Kd.V_below (by (with_reducible repeat (first | apply Kd.V_alloc | apply Kd.V_drewN | apply Kd.V_drew)); exact HL166_0.out) hb); have n4_ := Aside0.mk (Kd.V_below (by (with_reducible repeat (first | apply Kd.V_alloc | apply Kd.V_drewN | apply Kd.V_drew)); exact HL166_1.out) hb); have n5_ := Aside0.mk (Kd.C_below (by repeat (first | (with_reducible exact HR163_0.out) | (with_reducible refine Kd.C_alloc ?_ _) | (with_reducible refine Kd.C_drewN ?_ _) | (with_reducible refine Kd.C_drew ?_) | exact HR163_0.out)) hb); have n6_ := Aside0.mk (Kd.C_below (by repeat (first | (with_reducible exact HR163_1.out) | (with_reducible refine Kd.C_alloc ?_ _) | (with_reducible refine Kd.C_drewN ?_ _) | (with_reducible refine Kd.C_drew ?_) | exact HR163_1.out)) hb); have n7_ := Aside0.mk (Kd.C_below (by repeat (first | (with_reducible exact HR166_0.out) | (with_reducible refine Kd.C_alloc ?_ _) | (with_reducible refine Kd.C_drewN ?_ _) | (with_reducible refine Kd.C_drew ?_) | exact HR166_0.out)) hb); have n8_ := Aside0.mk (Kd.C_below (by repeat (first | (with_reducible exact HR166_1.out) | (with_reducible refine Kd.C_alloc ?_ _) | (with_reducible refine Kd.C_drewN ?_ _) | (with_reducible refine Kd.C_drew ?_) | exact HR166_1.out)) hb); have n9_ := Aside0.mk (below_step (by repeat (first | (with_reducible first | exact HB.out | apply below_alloc | apply pw_below_drewN | apply below_drew1) | exact HB.out)) hb); clear HO_10; clear HL163_0; clear HL163_1; clear HL166_0; clear HL166_1; clear HR163_0; clear HR163_1; clear HR166_0; clear HR166_1; clear HB; have HO_10 := n0_; have HL163_0 := n1_; have HL163_1 := n2_; have HL166_0 := n3_; have HL166_1 := n4_; have HR163_0 := n5_; have HR163_1 := n6_; have HR166_0 := n7_; have HR166_1 := n8_; have HB := n9_; clear n0_ n1_ n2_ n3_ n4_ n5_ n6_ n7_ n8_ n9_; (try clear hb); (try clear hb2); (try clear hk); (try clear hi)))
                    go_roundg k5
                    case measure => have := HJ3.out; have := HK2.out; have := HJ19.out; have := HK4.out; have := HK5.out; omega
                    case rel => exact ⟨(x12_5), (wrap64 (x13_4 + 1)), (by first | rfl | (simp; done) | (simp [*]; done)), (by first | rfl | (simp; done) | (simp [*]; done)), H', ⟨by have := HJ3.out; have := HK2.out; have := HJ19.out; have := HK4.out; have := HK5.out; omega⟩, ⟨by (with_reducible repeat (first | apply Kd.N_alloc | apply Kd.N_drewN | apply Kd.N_drew)); exact HO_10.out⟩, ⟨by repeat (first | (with_reducible first | exact HB.out | apply below_alloc | apply pw_below_drewN | apply below_drew1) | exact HB.out)⟩⟩
                ·rw [if_neg c32] at H
                 exact absurd H (by simp)
               ·rw [if_neg c31] at H
                exact absurd H (by simp)
            ·rw [if_neg c29] at H
             have c29b0 : decide (x13_4 < (t158.length : Int)) = false := decide_eq_false c29
             clear c29
             by_cases c44 : x12_4 = a0
             ·rw [if_pos c44] at H
              have c44b0 : (x12_4 == a0) = true := beq_iff_eq.mpr c44
              have c44b1 : (x12_4 != a0) = false := bne_eq_false_iff_eq.mpr c44
              clear c44
              replace H := Option.bind_eq_some_iff.mp H
              obtain ⟨t162, A450, H⟩ := H
              replace H : (some t162) = some r := H
              have A45 := Aside0.mk A450
              clear A450
              obtain rfl := Option.some.inj H
              obtain ⟨Ao46, co46, eo46⟩ := Kd.N_slice HO_10.out
              subst eo46
              go_wp2_with (first | (go_at_call 18; (with_reducible refine (coraclelaw17_awake.calls  t162 _ A45.out).mono ?_); rintro e w47 ⟨rfl, hb⟩; have n0_ := Aside0.mk (Kd.N_below (by (with_reducible repeat (first | apply Kd.N_alloc | apply Kd.N_drewN | apply Kd.N_drew)); exact HO_10.out) hb); have n1_ := Aside0.mk (below_step (by repeat (first | (with_reducible first | exact HB.out | apply below_alloc | apply pw_below_drewN | apply below_drew1) | exact HB.out)) hb); clear HO_10; clear HB; have HO_10 := n0_; have HB := n1_; clear n0_ n1_; (try clear hb); (try clear hb2); (try clear hk); (try clear hi)))
              go_ret
              exact ⟨by first | rfl | (simp [errW_none, errW_some] <;> rfl) | (simp [*, errW_none, errW_some] <;> rfl), by repeat (first | (with_reducible first | exact HB.out | apply below_alloc | apply pw_below_drewN | apply below_drew1) | exact HB.out)⟩
             ·rw [if_neg c44] at H
              have c44b0 : (x12_4 == a0) = false := beq_eq_false_iff_ne.mpr c44
              have c44b1 : (x12_4 != a0) = true := bne_iff_ne.mpr c44
              obtain rfl := Option.some.inj H
              obtain ⟨Ao48, co48, eo48⟩ := Kd.N_slice HO_10.out
              subst eo48
              go_wp2
              go_ret
              exact ⟨by first | rfl | (simp [errW_none, errW_some] <;> rfl) | (simp [*, errW_none, errW_some] <;> rfl), by repeat (first | (with_reducible first | exact HB.out | apply below_alloc | apply pw_below_drewN | apply below_drew1) | exact HB.out)⟩
/-- THE ONE PURE STATEMENT of coraclelaw17_BatchFits: yours. -/
def coraclelaw17_BatchFits.Pure : Prop := ∀ (a0 : Int) (a1 : Int) (a2 : Int), (Lit.int .i64 a0).wf = true → (Lit.int .i64 a1).wf = true → (Lit.int .i64 a2).wf = true → ∃ k, coraclelaw17_BatchFits.f k a0 a1 a2 = some true
theorem coraclelaw17_BatchFits.walk (P : coraclelaw17_BatchFits.Pure) (a0 a1 a2 : Int) (w : World) (w0 : (Lit.int .i64 a0).wf = true) (w1 : (Lit.int .i64 a1).wf = true) (w2 : (Lit.int .i64 a2).wf = true) :
 Calls Try.prog 7 #[.int .i64 a0, .int .i64 a1, .int .i64 a2] w fun e w' => e = .returned (.bool true) ∧ Below w.heap.size w w' := by
 obtain ⟨k, h⟩ := P a0 a1 a2 w0 w1 w2
 refine (coraclelaw17_BatchFits.calls k a0 a1 a2 true w h).mono ?_
 rintro e w' ⟨rfl, hd⟩
 exact ⟨rfl, hd⟩
end Go.Proofs.Ytiodebjjbgcbhaa.QBat
