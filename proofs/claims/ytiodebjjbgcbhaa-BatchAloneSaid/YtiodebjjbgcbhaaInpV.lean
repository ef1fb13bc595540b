/- The law's own helpers as plain Lean functions, and that their calls come to what these tell: written by a program of this session. -/
import Derived.Test.YtiodebjjbgcbhaaPurBatC
namespace Go.Proofs.Ytiodebjjbgcbhaa.Hand
open Go.RowKit Go.Proofs.YtiodebjjbgcbhaaW.PrintWords Go.Proofs.YtiodebjjbgcbhaaW.PrintLast Go.Proofs.YtiodebjjbgcbhaaW.PrintMore Go.Proofs.Ytiodebjjbgcbhaa.QLef
attribute [local go_sem] max2_int min2_int max_two min_two max_three min_three max_four min_four run_equalIn_c run_fop run_feq run_fne run_flt run_fle run_fgt run_fge run_fint run_toi run_real' run_imag' run_complex' run_ceq run_cne run_cadd run_csub Wide.cellsAt_drewN Wide.cellsAt_drew Wide.lw32 Wide.lw33 Wide.lw37 Wide.lw38 Wide.lw39 Wide.lw44
attribute [local go_sem ↓ high] Wide.hv32 Wide.hv33 Wide.hv37 Wide.hv38 Wide.hv39 Wide.hv44
set_option linter.unusedVariables false
set_option linter.unusedSimpArgs false
/-! ### coraclelaw17_made: function 43 -/
def coraclelaw17_made.f (a0_0 a0_1 a0_2 a0_3 a0_4 a0_5 a0_6 a0_7 a0_8 a0_9 a0_10 a0_11 a0_12 a0_13 a0_14 a0_15 a0_16 a0_17 a0_18 a0_19 a0_20 a0_21 a0_22 a0_23 a0_24 a0_25 a0_26 a0_27 a0_28 a0_29 a0_30 a0_31 a0_32 a0_33 a0_34 a0_35 : Int) (a0_36 : ByteArray) (a0_37 a0_38 a0_39 a0_40 a0_41 a0_42 a0_43 : Int) : Option (Int × Int × Int × Int × Int × Int × Int × Int × Int × Int × Int × Int × Int × Int × Int × Int × Int × Int × Int × Int × Int × Int × Int × Int × Int × Int × Int × Int × Int × Int × Int × Int × Int × Int × Int × Int × ByteArray × Int × Int × Int × Int × Int × Int × Int) := some (a0_0, a0_1, a0_2, a0_3, a0_4, a0_5, a0_6, a0_7, a0_8, a0_9, a0_10, a0_11, a0_12, a0_13, a0_14, a0_15, a0_16, a0_17, a0_18, a0_19, a0_20, a0_21, a0_22, a0_23, a0_24, a0_25, a0_26, a0_27, a0_28, a0_29, a0_30, a0_31, a0_32, a0_33, a0_34, a0_35, a0_36, a0_37, a0_38, a0_39, a0_40, a0_41, a0_42, a0_43)
set_option maxHeartbeats 8000000 in
set_option maxRecDepth 100000 in
theorem coraclelaw17_made.calls (a0_0 a0_1 a0_2 a0_3 a0_4 a0_5 a0_6 a0_7 a0_8 a0_9 a0_10 a0_11 a0_12 a0_13 a0_14 a0_15 a0_16 a0_17 a0_18 a0_19 a0_20 a0_21 a0_22 a0_23 a0_24 a0_25 a0_26 a0_27 a0_28 a0_29 a0_30 a0_31 a0_32 a0_33 a0_34 a0_35 : Int) (a0_36 : ByteArray) (a0_37 a0_38 a0_39 a0_40 a0_41 a0_42 a0_43 r1 r2 r3 r4 r5 r6 r7 r8 r9 r10 r11 r12 r13 r14 r15 r16 r17 r18 r19 r20 r21 r22 r23 r24 r25 r26 r27 r28 r29 r30 r31 r32 r33 r34 r35 r36 : Int) (r37 : ByteArray) (r38 r39 r40 r41 r42 r43 r44 : Int) (w : World) (h : coraclelaw17_made.f a0_0 a0_1 a0_2 a0_3 a0_4 a0_5 a0_6 a0_7 a0_8 a0_9 a0_10 a0_11 a0_12 a0_13 a0_14 a0_15 a0_16 a0_17 a0_18 a0_19 a0_20 a0_21 a0_22 a0_23 a0_24 a0_25 a0_26 a0_27 a0_28 a0_29 a0_30 a0_31 a0_32 a0_33 a0_34 a0_35 a0_36 a0_37 a0_38 a0_39 a0_40 a0_41 a0_42 a0_43 = some (r1, r2, r3, r4, r5, r6, r7, r8, r9, r10, r11, r12, r13, r14, r15, r16, r17, r18, r19, r20, r21, r22, r23, r24, r25, r26, r27, r28, r29, r30, r31, r32, r33, r34, r35, r36, r37, r38, r39, r40, r41, r42, r43, r44)) :
 Calls Try.prog 43 #[.agg #[.int .u8 a0_0, .int .u8 a0_1, .int .u8 a0_2, .int .u8 a0_3, .int .u8 a0_4, .int .u8 a0_5, .int .u8 a0_6, .int .u8 a0_7, .int .u8 a0_8, .int .u8 a0_9, .int .u8 a0_10, .int .u8 a0_11, .int .u8 a0_12, .int .u8 a0_13, .int .u8 a0_14, .int .u8 a0_15, .int .u8 a0_16, .int .u8 a0_17, .int .u8 a0_18, .int .u8 a0_19, .int .u8 a0_20, .int .u8 a0_21, .int .u8 a0_22, .int .u8 a0_23, .int .u8 a0_24, .int .u8 a0_25, .int .u8 a0_26, .int .u8 a0_27, .int .u8 a0_28, .int .u8 a0_29, .int .u8 a0_30, .int .u8 a0_31, .int .i64 a0_32, .int .i64 a0_33, .int .i64 a0_34, .int .i64 a0_35, .string a0_36, .int .i64 a0_37, .int .i64 a0_38, .int .i64 a0_39, .int .i64 a0_40, .int .i64 a0_41, .int .i64 a0_42, .int .i64 a0_43]] w fun e w' => e = .returned (.agg #[.int .u8 r1, .int .u8 r2, .int .u8 r3, .int .u8 r4, .int .u8 r5, .int .u8 r6, .int .u8 r7, .int .u8 r8, .int .u8 r9, .int .u8 r10, .int .u8 r11, .int .u8 r12, .int .u8 r13, .int .u8 r14, .int .u8 r15, .int .u8 r16, .int .u8 r17, .int .u8 r18, .int .u8 r19, .int .u8 r20, .int .u8 r21, .int .u8 r22, .int .u8 r23, .int .u8 r24, .int .u8 r25, .int .u8 r26, .int .u8 r27, .int .u8 r28, .int .u8 r29, .int .u8 r30, .int .u8 r31, .int .u8 r32, .int .i64 r33, .int .i64 r34, .int .i64 r35, .int .i64 r36, .string r37, .int .i64 r38, .int .i64 r39, .int .i64 r40, .int .i64 r41, .int .i64 r42, .int .i64 r43, .int .i64 r44]) ∧ Below w.heap.size w w' := by
 have e := Option.some.inj h
 simp only [Prod.mk.injEq] at e
 obtain ⟨rfl, rfl, rfl, rfl, rfl, rfl, rfl, rfl, rfl, rfl, rfl, rfl, rfl, rfl, rfl, rfl, rfl, rfl, rfl, rfl, rfl, rfl, rfl, rfl, rfl, rfl, rfl, rfl, rfl, rfl, rfl, rfl, rfl, rfl, rfl, rfl, rfl, rfl, rfl, rfl, rfl, rfl, rfl, rfl⟩ := e
 exact Inp.made_calls Inp.J68 (⟨⟨⟨a0_0, a0_1, a0_2, a0_3, a0_4, a0_5, a0_6, a0_7, a0_8, a0_9, a0_10, a0_11, a0_12, a0_13, a0_14, a0_15, a0_16, a0_17, a0_18, a0_19, a0_20, a0_21, a0_22, a0_23, a0_24, a0_25, a0_26, a0_27, a0_28, a0_29, a0_30, a0_31⟩, a0_32⟩, a0_33, ⟨⟨a0_34, a0_35, a0_36⟩, a0_37, a0_38, a0_39⟩, a0_40, a0_41, a0_42, a0_43⟩ : S68) w
/-! ### coraclelaw17_mades: function 20 -/
def coraclelaw17_mades.l0 : Nat → List (S68) → List (S90) → Int → Option ((List (S90)))
 | 0, _, _, _ => none
 | k + 1, x0, x3, x4 => if x4 < (x0.length : Int) then (if 0 ≤ x4 then ((coraclelaw17_made.f ((rd_T68 x0 x4).f0.f0.f0) ((rd_T68 x0 x4).f0.f0.f1) ((rd_T68 x0 x4).f0.f0.f2) ((rd_T68 x0 x4).f0.f0.f3) ((rd_T68 x0 x4).f0.f0.f4) ((rd_T68 x0 x4).f0.f0.f5) ((rd_T68 x0 x4).f0.f0.f6) ((rd_T68 x0 x4).f0.f0.f7) ((rd_T68 x0 x4).f0.f0.f8) ((rd_T68 x0 x4).f0.f0.f9) ((rd_T68 x0 x4).f0.f0.f10) ((rd_T68 x0 x4).f0.f0.f11) ((rd_T68 x0 x4).f0.f0.f12) ((rd_T68 x0 x4).f0.f0.f13) ((rd_T68 x0 x4).f0.f0.f14) ((rd_T68 x0 x4).f0.f0.f15) ((rd_T68 x0 x4).f0.f0.f16) ((rd_T68 x0 x4).f0.f0.f17) ((rd_T68 x0 x4).f0.f0.f18) ((rd_T68 x0 x4).f0.f0.f19) ((rd_T68 x0 x4).f0.f0.f20) ((rd_T68 x0 x4).f0.f0.f21) ((rd_T68 x0 x4).f0.f0.f22) ((rd_T68 x0 x4).f0.f0.f23) ((rd_T68 x0 x4).f0.f0.f24) ((rd_T68 x0 x4).f0.f0.f25) ((rd_T68 x0 x4).f0.f0.f26) ((rd_T68 x0 x4).f0.f0.f27) ((rd_T68 x0 x4).f0.f0.f28) ((rd_T68 x0 x4).f0.f0.f29) ((rd_T68 x0 x4).f0.f0.f30) ((rd_T68 x0 x4).f0.f0.f31) ((rd_T68 x0 x4).f0.f1) ((rd_T68 x0 x4).f1) ((rd_T68 x0 x4).f2.f0.f0) ((rd_T68 x0 x4).f2.f0.f1) ((rd_T68 x0 x4).f2.f0.f2) ((rd_T68 x0 x4).f2.f1) ((rd_T68 x0 x4).f2.f2) ((rd_T68 x0 x4).f2.f3) ((rd_T68 x0 x4).f3) ((rd_T68 x0 x4).f4) ((rd_T68 x0 x4).f5) ((rd_T68 x0 x4).f6)).bind fun bt141 => (if x3.length < 1034834473200 then (coraclelaw17_mades.l0 k x0 (x3 ++ [(⟨(⟨(⟨bt141.1, bt141.2.1, bt141.2.2.1, bt141.2.2.2.1, bt141.2.2.2.2.1, bt141.2.2.2.2.2.1, bt141.2.2.2.2.2.2.1, bt141.2.2.2.2.2.2.2.1, bt141.2.2.2.2.2.2.2.2.1, bt141.2.2.2.2.2.2.2.2.2.1, bt141.2.2.2.2.2.2.2.2.2.2.1, bt141.2.2.2.2.2.2.2.2.2.2.2.1, bt141.2.2.2.2.2.2.2.2.2.2.2.2.1, bt141.2.2.2.2.2.2.2.2.2.2.2.2.2.1, bt141.2.2.2.2.2.2.2.2.2.2.2.2.2.2.1, bt141.2.2.2.2.2.2.2.2.2.2.2.2.2.2.2.1, bt141.2.2.2.2.2.2.2.2.2.2.2.2.2.2.2.2.1, bt141.2.2.2.2.2.2.2.2.2.2.2.2.2.2.2.2.2.1, bt141.2.2.2.2.2.2.2.2.2.2.2.2.2.2.2.2.2.2.1, bt141.2.2.2.2.2.2.2.2.2.2.2.2.2.2.2.2.2.2.2.1, bt141.2.2.2.2.2.2.2.2.2.2.2.2.2.2.2.2.2.2.2.2.1, bt141.2.2.2.2.2.2.2.2.2.2.2.2.2.2.2.2.2.2.2.2.2.1, bt141.2.2.2.2.2.2.2.2.2.2.2.2.2.2.2.2.2.2.2.2.2.2.1, bt141.2.2.2.2.2.2.2.2.2.2.2.2.2.2.2.2.2.2.2.2.2.2.2.1, bt141.2.2.2.2.2.2.2.2.2.2.2.2.2.2.2.2.2.2.2.2.2.2.2.2.1, bt141.2.2.2.2.2.2.2.2.2.2.2.2.2.2.2.2.2.2.2.2.2.2.2.2.2.1, bt141.2.2.2.2.2.2.2.2.2.2.2.2.2.2.2.2.2.2.2.2.2.2.2.2.2.2.1, bt141.2.2.2.2.2.2.2.2.2.2.2.2.2.2.2.2.2.2.2.2.2.2.2.2.2.2.2.1, bt141.2.2.2.2.2.2.2.2.2.2.2.2.2.2.2.2.2.2.2.2.2.2.2.2.2.2.2.2.1, bt141.2.2.2.2.2.2.2.2.2.2.2.2.2.2.2.2.2.2.2.2.2.2.2.2.2.2.2.2.2.1, bt141.2.2.2.2.2.2.2.2.2.2.2.2.2.2.2.2.2.2.2.2.2.2.2.2.2.2.2.2.2.2.1, bt141.2.2.2.2.2.2.2.2.2.2.2.2.2.2.2.2.2.2.2.2.2.2.2.2.2.2.2.2.2.2.2.1⟩ : S32), bt141.2.2.2.2.2.2.2.2.2.2.2.2.2.2.2.2.2.2.2.2.2.2.2.2.2.2.2.2.2.2.2.2.1⟩ : S34), bt141.2.2.2.2.2.2.2.2.2.2.2.2.2.2.2.2.2.2.2.2.2.2.2.2.2.2.2.2.2.2.2.2.2.1, (⟨(⟨bt141.2.2.2.2.2.2.2.2.2.2.2.2.2.2.2.2.2.2.2.2.2.2.2.2.2.2.2.2.2.2.2.2.2.2.1, bt141.2.2.2.2.2.2.2.2.2.2.2.2.2.2.2.2.2.2.2.2.2.2.2.2.2.2.2.2.2.2.2.2.2.2.2.1, bt141.2.2.2.2.2.2.2.2.2.2.2.2.2.2.2.2.2.2.2.2.2.2.2.2.2.2.2.2.2.2.2.2.2.2.2.2.1⟩ : S36), bt141.2.2.2.2.2.2.2.2.2.2.2.2.2.2.2.2.2.2.2.2.2.2.2.2.2.2.2.2.2.2.2.2.2.2.2.2.2.1, bt141.2.2.2.2.2.2.2.2.2.2.2.2.2.2.2.2.2.2.2.2.2.2.2.2.2.2.2.2.2.2.2.2.2.2.2.2.2.2.1, bt141.2.2.2.2.2.2.2.2.2.2.2.2.2.2.2.2.2.2.2.2.2.2.2.2.2.2.2.2.2.2.2.2.2.2.2.2.2.2.2.1⟩ : S88), bt141.2.2.2.2.2.2.2.2.2.2.2.2.2.2.2.2.2.2.2.2.2.2.2.2.2.2.2.2.2.2.2.2.2.2.2.2.2.2.2.2.1, bt141.2.2.2.2.2.2.2.2.2.2.2.2.2.2.2.2.2.2.2.2.2.2.2.2.2.2.2.2.2.2.2.2.2.2.2.2.2.2.2.2.2.1, bt141.2.2.2.2.2.2.2.2.2.2.2.2.2.2.2.2.2.2.2.2.2.2.2.2.2.2.2.2.2.2.2.2.2.2.2.2.2.2.2.2.2.2.1, bt141.2.2.2.2.2.2.2.2.2.2.2.2.2.2.2.2.2.2.2.2.2.2.2.2.2.2.2.2.2.2.2.2.2.2.2.2.2.2.2.2.2.2.2⟩ : S90)]) (wrap64 (x4 + 1))) else (none))) else (none)) else (some x3)
def coraclelaw17_mades.f (k : Nat) (l0 : List (S68)) : Option ((List (S90))) := coraclelaw17_mades.l0 k l0 ([] : List (S90)) 0
theorem coraclelaw17_mades.mono_l : ∀ k, (∀ y0 y1 y2, LeO (coraclelaw17_mades.l0 k y0 y1 y2) (coraclelaw17_mades.l0 (k + 1) y0 y1 y2))
 | 0 => fun _ _ _ r h => by simp [coraclelaw17_mades.l0] at h
 | k + 1 => by
  have ih0 := coraclelaw17_mades.mono_l k
  ·intro y0 y1 y2
   unfold coraclelaw17_mades.l0
   repeat' first
   | (with_reducible exact ih0 _ _ _)
   | (with_reducible exact LeO.refl _)
   | (with_reducible exact LeO.none _)
   | (with_reducible refine LeO.ite ?_ ?_)
   | (with_reducible refine LeO.bind ?_ (fun _ => ?_))
   | exact ih0 _ _ _
   | exact LeO.none _
   | refine LeO.ite ?_ ?_
   | refine LeO.bind ?_ (fun _ => ?_)
theorem coraclelaw17_mades.mono : ∀ a0 k, LeO (coraclelaw17_mades.f k a0) (coraclelaw17_mades.f (k + 1) a0) := by
 intro a0 k
 have ih0 := coraclelaw17_mades.mono_l k
 unfold coraclelaw17_mades.f
 repeat' first
  | (with_reducible exact ih0 _ _ _)
  | (with_reducible exact LeO.refl _)
  | (with_reducible exact LeO.none _)
  | (with_reducible refine LeO.ite ?_ ?_)
  | (with_reducible refine LeO.bind ?_ (fun _ => ?_))
  | exact ih0 _ _ _
  | exact LeO.none _
  | refine LeO.ite ?_ ?_
  | refine LeO.bind ?_ (fun _ => ?_)
set_option maxHeartbeats 8000000 in
set_option maxRecDepth 100000 in
theorem coraclelaw17_mades.calls (k : Nat) (A0 : Option Addr) (c0 : Nat) (l0 : List (S68)) (r : List (S90)) (w : World) (hr0 : Kd.C k68 w A0 l0.length l0) (hc0 : l0.length ≤ c0) (h : coraclelaw17_mades.f k l0 = some r) :
 Calls Try.prog 20 #[.slice A0 l0.length c0] w fun e w' => ∃ v0_ : Value, e = .returned (v0_) ∧ Kd.R k90 90 w' w.heap.size (fun _ => True) v0_ r ∧ Below w.heap.size w w' := by
 have hu68 := Try.underlying68
 have HR0 := Aside0.mk hr0
 have HC0 := Aside0.mk hc0
 clear hr0 hc0
 have HB := Aside0.mk (Below.refl w.heap.size w)
 have H : (coraclelaw17_mades.l0 k l0 ([] : List (S90)) 0) = some r := h
 clear h
 have H' := Aside0.mk H
 clear H
 go_enter Try.func20, Try.ntmps20
 go_wp2
 go_loopg [3, 4] k (fun kq v3 v4 w' => ∃ (x3_1 : List (S90)) (x4_1 : Int), v4 = .int .i64 x4_1 ∧ Aside0 (coraclelaw17_mades.l0 kq l0 x3_1 x4_1 = some r) ∧ Aside0 (kq ≤ k) ∧ Aside0 (Kd.R k90 90 w' w.heap.size (fun _ => True) v3 x3_1) ∧ Aside0 (Below w.heap.size w w'))
 case atStart => exact ⟨(([] : List (S90))), (0), (by first | rfl | (simp; done) | (simp [*]; done)), H', ⟨Nat.le_refl _⟩, ⟨by first | exact Kd.R_nil _ _ _ _ _ | exact Kd.N_nil _ _ _ _ _ | exact Kd.V_nil _ _ _ _ _ | exact Kd.Q_nil _ _ _ _ _ | exact Kd.S_nil _ _ _ _ _⟩, ⟨by repeat (first | (with_reducible first | exact HB.out | apply below_alloc | apply pw_below_drewN | apply below_drew1) | exact HB.out)⟩⟩
 case round =>
  clear H'
  obtain ⟨x3_1, x4_1, rfl, HA, HK1, HO_3, HB⟩ := hrel
  cases gk with
  | zero => exact absurd HA.out (by simp [coraclelaw17_mades.l0])
  | succ k1 =>
   have H := HA.out
   clear HA
   simp only [coraclelaw17_mades.l0] at H
   by_cases c2 : x4_1 < (l0.length : Int)
   ·rw [if_pos c2] at H
    have c2b0 : decide (x4_1 < (l0.length : Int)) = true := decide_eq_true c2
    clear c2
    by_cases c3 : 0 ≤ x4_1
    ·rw [if_pos c3] at H
     have c3b0 : decide (0 ≤ x4_1) = true := decide_eq_true c3
     clear c3
     replace H := Option.bind_eq_some_iff.mp H
     obtain ⟨⟨t141, t142, t143, t144, t145, t146, t147, t148, t149, t150, t151, t152, t153, t154, t155, t156, t157, t158, t159, t160, t161, t162, t163, t164, t165, t166, t167, t168, t169, t170, t171, t172, t173, t174, t175, t176, t177, t178, t179, t180, t181, t182, t183, t184⟩, A40, H⟩ := H
     replace H : (if x3_1.length < 1034834473200 then (coraclelaw17_mades.l0 k1 l0 (x3_1 ++ [(⟨(⟨(⟨t141, t142, t143, t144, t145, t146, t147, t148, t149, t150, t151, t152, t153, t154, t155, t156, t157, t158, t159, t160, t161, t162, t163, t164, t165, t166, t167, t168, t169, t170, t171, t172⟩ : S32), t173⟩ : S34), t174, (⟨(⟨t175, t176, t177⟩ : S36), t178, t179, t180⟩ : S88), t181, t182, t183, t184⟩ : S90)]) (wrap64 (x4_1 + 1))) else (none)) = some r := H
     have A4 := Aside0.mk A40
     clear A40
     by_cases c5 : x3_1.length < 1034834473200
     ·rw [if_pos c5] at H
      have LMc5 := Aside0.mk c5
      clear c5
      obtain ⟨y185, hy185⟩ : ∃ y_ : List (S90), y_ = (x3_1 ++ [(⟨(⟨(⟨t141, t142, t143, t144, t145, t146, t147, t148, t149, t150, t151, t152, t153, t154, t155, t156, t157, t158, t159, t160, t161, t162, t163, t164, t165, t166, t167, t168, t169, t170, t171, t172⟩ : S32), t173⟩ : S34), t174, (⟨(⟨t175, t176, t177⟩ : S36), t178, t179, t180⟩ : S88), t181, t182, t183, t184⟩ : S90)]) := ⟨_, rfl⟩
      replace H : (coraclelaw17_mades.l0 k1 l0 y185 (wrap64 (x4_1 + 1))) = some r := by first | (rw [hy185]; with_reducible exact H) | (have H2_ := (Option.bind_some _ _).symm.trans H; rw [hy185]; with_reducible exact H2_) | (have H2_ := (Option.bind_some _ _).symm.trans H; with_reducible exact H2_) | with_reducible exact H | (rw [hy185]; exact H) | exact H
      have Ny185 := Aside0.mk hy185
      clear hy185
      have H' := Aside0.mk H
      clear H
      have p140 : 0 ≤ (x4_1 : Int) := of_decide_eq_true (by first | (with_reducible assumption) | assumption)
      have q140 : x4_1 < (l0.length : Int) := of_decide_eq_true (by first | (with_reducible assumption) | assumption)
      obtain ⟨ad140, e140, hx140_0, hx140_1, hx140_2, hx140_3, hx140_4, hx140_5, hx140_6, hx140_7, hx140_8, hx140_9, hx140_10, hx140_11, hx140_12, hx140_13, hx140_14, hx140_15, hx140_16, hx140_17, hx140_18, hx140_19, hx140_20, hx140_21, hx140_22, hx140_23, hx140_24, hx140_25, hx140_26, hx140_27, hx140_28, hx140_29, hx140_30, hx140_31, hx140_32, hx140_33, hx140_34, hx140_35, hx140_36, hx140_37, hx140_38, hx140_39, hx140_40, hx140_41, hx140_42, hx140_43⟩ := at_T68 HR0.out x4_1 p140 q140
      cases e140
      replace hx140_0 := (HB.out.cell (World.block_lt_of_cell? w _ hx140_0)).trans hx140_0
      replace hx140_1 := (HB.out.cell (World.block_lt_of_cell? w _ hx140_1)).trans hx140_1
      replace hx140_2 := (HB.out.cell (World.block_lt_of_cell? w _ hx140_2)).trans hx140_2
      replace hx140_3 := (HB.out.cell (World.block_lt_of_cell? w _ hx140_3)).trans hx140_3
      replace hx140_4 := (HB.out.cell (World.block_lt_of_cell? w _ hx140_4)).trans hx140_4
      replace hx140_5 := (HB.out.cell (World.block_lt_of_cell? w _ hx140_5)).trans hx140_5
      replace hx140_6 := (HB.out.cell (World.block_lt_of_cell? w _ hx140_6)).trans hx140_6
      replace hx140_7 := (HB.out.cell (World.block_lt_of_cell? w _ hx140_7)).trans hx140_7
      replace hx140_8 := (HB.out.cell (World.block_lt_of_cell? w _ hx140_8)).trans hx140_8
      replace hx140_9 := (HB.out.cell (World.block_lt_of_cell? w _ hx140_9)).trans hx140_9
      replace hx140_10 := (HB.out.cell (World.block_lt_of_cell? w _ hx140_10)).trans hx140_10
      replace hx140_11 := (HB.out.cell (World.block_lt_of_cell? w _ hx140_11)).trans hx140_11
      replace hx140_12 := (HB.out.cell (World.block_lt_of_cell? w _ hx140_12)).trans hx140_12
      replace hx140_13 := (HB.out.cell (World.block_lt_of_cell? w _ hx140_13)).trans hx140_13
      replace hx140_14 := (HB.out.cell (World.block_lt_of_cell? w _ hx140_14)).trans hx140_14
      replace hx140_15 := (HB.out.cell (World.block_lt_of_cell? w _ hx140_15)).trans hx140_15
      replace hx140_16 := (HB.out.cell (World.block_lt_of_cell? w _ hx140_16)).trans hx140_16
      replace hx140_17 := (HB.out.cell (World.block_lt_of_cell? w _ hx140_17)).trans hx140_17
      replace hx140_18 := (HB.out.cell (World.block_lt_of_cell? w _ hx140_18)).trans hx140_18
      replace hx140_19 := (HB.out.cell (World.block_lt_of_cell? w _ hx140_19)).trans hx140_19
      replace hx140_20 := (HB.out.cell (World.block_lt_of_cell? w _ hx140_20)).trans hx140_20
      replace hx140_21 := (HB.out.cell (World.block_lt_of_cell? w _ hx140_21)).trans hx140_21
      replace hx140_22 := (HB.out.cell (World.block_lt_of_cell? w _ hx140_22)).trans hx140_22
      replace hx140_23 := (HB.out.cell (World.block_lt_of_cell? w _ hx140_23)).trans hx140_23
      replace hx140_24 := (HB.out.cell (World.block_lt_of_cell? w _ hx140_24)).trans hx140_24
      replace hx140_25 := (HB.out.cell (World.block_lt_of_cell? w _ hx140_25)).trans hx140_25
      replace hx140_26 := (HB.out.cell (World.block_lt_of_cell? w _ hx140_26)).trans hx140_26
      replace hx140_27 := (HB.out.cell (World.block_lt_of_cell? w _ hx140_27)).trans hx140_27
      replace hx140_28 := (HB.out.cell (World.block_lt_of_cell? w _ hx140_28)).trans hx140_28
      replace hx140_29 := (HB.out.cell (World.block_lt_of_cell? w _ hx140_29)).trans hx140_29
      replace hx140_30 := (HB.out.cell (World.block_lt_of_cell? w _ hx140_30)).trans hx140_30
      replace hx140_31 := (HB.out.cell (World.block_lt_of_cell? w _ hx140_31)).trans hx140_31
      replace hx140_32 := (HB.out.cell (World.block_lt_of_cell? w _ hx140_32)).trans hx140_32
      replace hx140_33 := (HB.out.cell (World.block_lt_of_cell? w _ hx140_33)).trans hx140_33
      replace hx140_34 := (HB.out.cell (World.block_lt_of_cell? w _ hx140_34)).trans hx140_34
      replace hx140_35 := (HB.out.cell (World.block_lt_of_cell? w _ hx140_35)).trans hx140_35
      replace hx140_36 := (HB.out.cell (World.block_lt_of_cell? w _ hx140_36)).trans hx140_36
      replace hx140_37 := (HB.out.cell (World.block_lt_of_cell? w _ hx140_37)).trans hx140_37
      replace hx140_38 := (HB.out.cell (World.block_lt_of_cell? w _ hx140_38)).trans hx140_38
      replace hx140_39 := (HB.out.cell (World.block_lt_of_cell? w _ hx140_39)).trans hx140_39
      replace hx140_40 := (HB.out.cell (World.block_lt_of_cell? w _ hx140_40)).trans hx140_40
      replace hx140_41 := (HB.out.cell (World.block_lt_of_cell? w _ hx140_41)).trans hx140_41
      replace hx140_42 := (HB.out.cell (World.block_lt_of_cell? w _ hx140_42)).trans hx140_42
      replace hx140_43 := (HB.out.cell (World.block_lt_of_cell? w _ hx140_43)).trans hx140_43
      replace p140 := eq_true p140
      replace q140 := eq_true q140
      have hw140_0_32 := Wide.mk32 hx140_0 hx140_1 hx140_2 hx140_3 hx140_4 hx140_5 hx140_6 hx140_7 hx140_8 hx140_9 hx140_10 hx140_11 hx140_12 hx140_13 hx140_14 hx140_15 hx140_16 hx140_17 hx140_18 hx140_19 hx140_20 hx140_21 hx140_22 hx140_23 hx140_24 hx140_25 hx140_26 hx140_27 hx140_28 hx140_29 hx140_30 hx140_31
      have hw140_0_33 := Wide.mk33 hx140_0 hx140_1 hx140_2 hx140_3 hx140_4 hx140_5 hx140_6 hx140_7 hx140_8 hx140_9 hx140_10 hx140_11 hx140_12 hx140_13 hx140_14 hx140_15 hx140_16 hx140_17 hx140_18 hx140_19 hx140_20 hx140_21 hx140_22 hx140_23 hx140_24 hx140_25 hx140_26 hx140_27 hx140_28 hx140_29 hx140_30 hx140_31 hx140_32
      have hw140_0_44 := Wide.mk44 hx140_0 hx140_1 hx140_2 hx140_3 hx140_4 hx140_5 hx140_6 hx140_7 hx140_8 hx140_9 hx140_10 hx140_11 hx140_12 hx140_13 hx140_14 hx140_15 hx140_16 hx140_17 hx140_18 hx140_19 hx140_20 hx140_21 hx140_22 hx140_23 hx140_24 hx140_25 hx140_26 hx140_27 hx140_28 hx140_29 hx140_30 hx140_31 hx140_32 hx140_33 hx140_34 hx140_35 hx140_36 hx140_37 hx140_38 hx140_39 hx140_40 hx140_41 hx140_42 hx140_43
      go_wp2_with (first | ((with_reducible refine gate_callee (f := 43) rfl ?_); refine goesL_ (some 16) rfl rfl Try.func43 (by kernel_rfl) rfl #[.agg #[.int .u8 ((rd_T68 l0 x4_1).f0.f0.f0), .int .u8 ((rd_T68 l0 x4_1).f0.f0.f1), .int .u8 ((rd_T68 l0 x4_1).f0.f0.f2), .int .u8 ((rd_T68 l0 x4_1).f0.f0.f3), .int .u8 ((rd_T68 l0 x4_1).f0.f0.f4), .int .u8 ((rd_T68 l0 x4_1).f0.f0.f5), .int .u8 ((rd_T68 l0 x4_1).f0.f0.f6), .int .u8 ((rd_T68 l0 x4_1).f0.f0.f7), .int .u8 ((rd_T68 l0 x4_1).f0.f0.f8), .int .u8 ((rd_T68 l0 x4_1).f0.f0.f9), .int .u8 ((rd_T68 l0 x4_1).f0.f0.f10), .int .u8 ((rd_T68 l0 x4_1).f0.f0.f11), .int .u8 ((rd_T68 l0 x4_1).f0.f0.f12), .int .u8 ((rd_T68 l0 x4_1).f0.f0.f13), .int .u8 ((rd_T68 l0 x4_1).f0.f0.f14), .int .u8 ((rd_T68 l0 x4_1).f0.f0.f15), .int .u8 ((rd_T68 l0 x4_1).f0.f0.f16), .int .u8 ((rd_T68 l0 x4_1).f0.f0.f17), .int .u8 ((rd_T68 l0 x4_1).f0.f0.f18), .int .u8 ((rd_T68 l0 x4_1).f0.f0.f19), .int .u8 ((rd_T68 l0 x4_1).f0.f0.f20), .int .u8 ((rd_T68 l0 x4_1).f0.f0.f21), .int .u8 ((rd_T68 l0 x4_1).f0.f0.f22), .int .u8 ((rd_T68 l0 x4_1).f0.f0.f23), .int .u8 ((rd_T68 l0 x4_1).f0.f0.f24), .int .u8 ((rd_T68 l0 x4_1).f0.f0.f25), .int .u8 ((rd_T68 l0 x4_1).f0.f0.f26), .int .u8 ((rd_T68 l0 x4_1).f0.f0.f27), .int .u8 ((rd_T68 l0 x4_1).f0.f0.f28), .int .u8 ((rd_T68 l0 x4_1).f0.f0.f29), .int .u8 ((rd_T68 l0 x4_1).f0.f0.f30), .int .u8 ((rd_T68 l0 x4_1).f0.f0.f31), .int .i64 ((rd_T68 l0 x4_1).f0.f1), .int .i64 ((rd_T68 l0 x4_1).f1), .int .i64 ((rd_T68 l0 x4_1).f2.f0.f0), .int .i64 ((rd_T68 l0 x4_1).f2.f0.f1), .string ((rd_T68 l0 x4_1).f2.f0.f2), .int .i64 ((rd_T68 l0 x4_1).f2.f1), .int .i64 ((rd_T68 l0 x4_1).f2.f2), .int .i64 ((rd_T68 l0 x4_1).f2.f3), .int .i64 ((rd_T68 l0 x4_1).f3), .int .i64 ((rd_T68 l0 x4_1).f4), .int .i64 ((rd_T68 l0 x4_1).f5), .int .i64 ((rd_T68 l0 x4_1).f6)]] rfl (by (try simp only [List.map_toArray, List.map_cons, List.map_nil]); first | done | rfl | (simp only [List.length_drop, List.length_take]; rfl)) ?_; (with_reducible refine (coraclelaw17_made.calls ((rd_T68 l0 x4_1).f0.f0.f0) ((rd_T68 l0 x4_1).f0.f0.f1) ((rd_T68 l0 x4_1).f0.f0.f2) ((rd_T68 l0 x4_1).f0.f0.f3) ((rd_T68 l0 x4_1).f0.f0.f4) ((rd_T68 l0 x4_1).f0.f0.f5) ((rd_T68 l0 x4_1).f0.f0.f6) ((rd_T68 l0 x4_1).f0.f0.f7) ((rd_T68 l0 x4_1).f0.f0.f8) ((rd_T68 l0 x4_1).f0.f0.f9) ((rd_T68 l0 x4_1).f0.f0.f10) ((rd_T68 l0 x4_1).f0.f0.f11) ((rd_T68 l0 x4_1).f0.f0.f12) ((rd_T68 l0 x4_1).f0.f0.f13) ((rd_T68 l0 x4_1).f0.f0.f14) ((rd_T68 l0 x4_1).f0.f0.f15) ((rd_T68 l0 x4_1).f0.f0.f16) ((rd_T68 l0 x4_1).f0.f0.f17) ((rd_T68 l0 x4_1).f0.f0.f18) ((rd_T68 l0 x4_1).f0.f0.f19) ((rd_T68 l0 x4_1).f0.f0.f20) ((rd_T68 l0 x4_1).f0.f0.f21) ((rd_T68 l0 x4_1).f0.f0.f22) ((rd_T68 l0 x4_1).f0.f0.f23) ((rd_T68 l0 x4_1).f0.f0.f24) ((rd_T68 l0 x4_1).f0.f0.f25) ((rd_T68 l0 x4_1).f0.f0.f26) ((rd_T68 l0 x4_1).f0.f0.f27) ((rd_T68 l0 x4_1).f0.f0.f28) ((rd_T68 l0 x4_1).f0.f0.f29) ((rd_T68 l0 x4_1).f0.f0.f30) ((rd_T68 l0 x4_1).f0.f0.f31) ((rd_T68 l0 x4_1).f0.f1) ((rd_T68 l0 x4_1).f1) ((rd_T68 l0 x4_1).f2.f0.f0) ((rd_T68 l0 x4_1).f2.f0.f1) ((rd_T68 l0 x4_1).f2.f0.f2) ((rd_T68 l0 x4_1).f2.f1) ((rd_T68 l0 x4_1).f2.f2) ((rd_T68 l0 x4_1).f2.f3) ((rd_T68 l0 x4_1).f3) ((rd_T68 l0 x4_1).f4) ((rd_T68 l0 x4_1).f5) ((rd_T68 l0 x4_1).f6) t141 t142 t143 t144 t145 t146 t147 t148 t149 t150 t151 t152 t153 t154 t155 t156 t157 t158 t159 t160 t161 t162 t163 t164 t165 t166 t167 t168 t169 t170 t171 t172 t173 t174 t175 t176 t177 t178 t179 t180 t181 t182 t183 t184 _ A4.out).mono ?_); rintro e w6 ⟨rfl, hb⟩; refine ⟨_, rfl, ?_⟩; have n0_ := Aside0.mk (Kd.R_below (by (with_reducible repeat (first | apply Kd.R_alloc | apply Kd.R_drewN | apply Kd.R_drew)); exact HO_3.out) hb); have n1_ := Aside0.mk (below_step (by repeat (first | (with_reducible first | exact HB.out | apply below_alloc | apply pw_below_drewN | apply below_drew1) | exact HB.out)) hb); clear HO_3; clear HB; have HO_3 := n0_; have HB := n1_; clear n0_ n1_; (try clear hb); (try clear hb2); (try clear hk); (try clear hi)) | ((with_reducible refine gate_builtin (b := .append) (xs := #[.tmp 11, .tmp 17]) rfl ?_); at_builtin; refine Kd.R_append k90 (w0 := w) w.heap.size rfl (.tmp 11) (.tmp 17) 57 90 (.agg #[(.int .u8 0), (.int .u8 0), (.int .u8 0), (.int .u8 0), (.int .u8 0), (.int .u8 0), (.int .u8 0), (.int .u8 0), (.int .u8 0), (.int .u8 0), (.int .u8 0), (.int .u8 0), (.int .u8 0), (.int .u8 0), (.int .u8 0), (.int .u8 0), (.int .u8 0), (.int .u8 0), (.int .u8 0), (.int .u8 0), (.int .u8 0), (.int .u8 0), (.int .u8 0), (.int .u8 0), (.int .u8 0), (.int .u8 0), (.int .u8 0), (.int .u8 0), (.int .u8 0), (.int .u8 0), (.int .u8 0), (.int .u8 0), (.int .i64 0), (.int .i64 0), (.int .i64 0), (.int .i64 0), (.string ⟨#[]⟩), (.int .i64 0), (.int .i64 0), (.int .i64 0), (.int .i64 0), (.int .i64 0), (.int .i64 0), (.int .i64 0)]) 136 rfl Try.underlying57 info90 rfl (by decide) (by omega) u3 x3_1 (⟨(⟨(⟨t141, t142, t143, t144, t145, t146, t147, t148, t149, t150, t151, t152, t153, t154, t155, t156, t157, t158, t159, t160, t161, t162, t163, t164, t165, t166, t167, t168, t169, t170, t171, t172⟩ : S32), t173⟩ : S34), t174, (⟨(⟨t175, t176, t177⟩ : S36), t178, t179, t180⟩ : S88), t181, t182, t183, t184⟩ : S90) (.int .u8 t141 :: .int .u8 t142 :: .int .u8 t143 :: .int .u8 t144 :: .int .u8 t145 :: .int .u8 t146 :: .int .u8 t147 :: .int .u8 t148 :: .int .u8 t149 :: .int .u8 t150 :: .int .u8 t151 :: .int .u8 t152 :: .int .u8 t153 :: .int .u8 t154 :: .int .u8 t155 :: .int .u8 t156 :: .int .u8 t157 :: .int .u8 t158 :: .int .u8 t159 :: .int .u8 t160 :: .int .u8 t161 :: .int .u8 t162 :: .int .u8 t163 :: .int .u8 t164 :: .int .u8 t165 :: .int .u8 t166 :: .int .u8 t167 :: .int .u8 t168 :: .int .u8 t169 :: .int .u8 t170 :: .int .u8 t171 :: .int .u8 t172 :: .int .i64 t173 :: .int .i64 t174 :: .int .i64 t175 :: .int .i64 t176 :: .string t177 :: .int .i64 t178 :: .int .i64 t179 :: .int .i64 t180 :: .int .i64 t181 :: .int .i64 t182 :: .int .i64 t183 :: .int .i64 t184 :: []) (fun _ => True) (fun _ => False) rfl rfl ?aP (fun _ hk => hk.elim) ?aF ?aO ?aB ?aS ?aL ?_; (case aP => exact k90_mkM _ _ _ (⟨(⟨(⟨t141, t142, t143, t144, t145, t146, t147, t148, t149, t150, t151, t152, t153, t154, t155, t156, t157, t158, t159, t160, t161, t162, t163, t164, t165, t166, t167, t168, t169, t170, t171, t172⟩ : S32), t173⟩ : S34), t174, (⟨(⟨t175, t176, t177⟩ : S36), t178, t179, t180⟩ : S88), t181, t182, t183, t184⟩ : S90)); (case aB => exact (by repeat (first | (with_reducible first | exact HB.out | apply below_alloc | apply pw_below_drewN | apply below_drew1) | exact HB.out))); (case aF => exact (fun _ _ => trivial)); (case aO => exact (by (with_reducible repeat (first | apply Kd.R_alloc | apply Kd.R_drewN | apply Kd.R_drew)); exact HO_3.out)); (case aS => exact (below_size (by repeat (first | (with_reducible first | exact HB.out | apply below_alloc | apply pw_below_drewN | apply below_drew1) | exact HB.out)))); (case aL => have := LMc5.out; omega); intro v186 w7 ho hb hg hat; rw [← Ny185.out] at ho; have n0_ := Aside0.mk (hb); have n1_ := Aside0.mk (ho); clear HB; clear HO_3; have HB := n0_; have HO187 := n1_; clear n0_ n1_; clear ho hb hg hat))
      go_roundg k1
      case measure => have := HK1.out; omega
      case rel => exact ⟨(y185), (wrap64 (x4_1 + 1)), (by first | rfl | (simp; done) | (simp [*]; done)), H', ⟨by have := HK1.out; omega⟩, ⟨by (with_reducible repeat (first | apply Kd.R_alloc | apply Kd.R_drewN | apply Kd.R_drew)); exact HO187.out⟩, ⟨by repeat (first | (with_reducible first | exact HB.out | apply below_alloc | apply pw_below_drewN | apply below_drew1) | exact HB.out)⟩⟩
     ·rw [if_neg c5] at H
      exact absurd H (by simp)
    ·rw [if_neg c3] at H
     exact absurd H (by simp)
   ·rw [if_neg c2] at H
    have c2b0 : decide (x4_1 < (l0.length : Int)) = false := decide_eq_false c2
    clear c2
    obtain rfl := Option.some.inj H
    go_wp2
    go_ret
    exact ⟨_, by first | rfl | (simp [errW_none, errW_some] <;> rfl) | (simp [*, errW_none, errW_some] <;> rfl), by (with_reducible repeat (first | apply Kd.R_alloc | apply Kd.R_drewN | apply Kd.R_drew)); exact HO_3.out, by repeat (first | (with_reducible first | exact HB.out | apply below_alloc | apply pw_below_drewN | apply below_drew1) | exact HB.out)⟩
/-! ### coraclelaw17_few: function 17 -/
mutual
def coraclelaw17_few.l0 : Nat → List (S68) → Int → Option (Bool)
 | 0, _, _ => none
 | k + 1, x0, x3 => if x3 < (x0.length : Int) then (coraclelaw17_few.j1 k x0 x3 (decide (x3 < 60))) else (coraclelaw17_few.j1 k x0 x3 false)
def coraclelaw17_few.j1 : Nat → List (S68) → Int → Bool → Option (Bool)
 | 0, _, _, _ => none
 | k + 1, x0, x3, x11 => if x11 = true then (if 0 ≤ x3 then (if x3 < (x0.length : Int) then (if (((rd_T68 x0 x3).f2.f0.f2).size : Int) > 100 then (some false) else (coraclelaw17_few.l0 k x0 (wrap64 (x3 + 1)))) else (none)) else (none)) else (some (decide ((x0.length : Int) ≤ 40)))
end
def coraclelaw17_few.f (k : Nat) (l0 : List (S68)) : Option (Bool) := coraclelaw17_few.l0 k l0 0
set_option maxHeartbeats 8000000 in
set_option maxRecDepth 100000 in
theorem coraclelaw17_few.calls (k : Nat) (A0 : Option Addr) (c0 : Nat) (l0 : List (S68)) (r : Bool) (w : World) (hr0 : Kd.C k68 w A0 l0.length l0) (hc0 : l0.length ≤ c0) (h : coraclelaw17_few.f k l0 = some r) :
 Calls Try.prog 17 #[.slice A0 l0.length c0] w fun e w' => e = .returned (.bool r) ∧ Drawn0 w w' := by
 have HR0 := Aside0.mk hr0
 have HC0 := Aside0.mk hc0
 clear hr0 hc0
 have H : (coraclelaw17_few.l0 k l0 0) = some r := h
 clear h
 have H' := Aside0.mk H
 clear H
 go_enter Try.func17, Try.ntmps17
 go_wp2
 go_loopg [3] k (fun kq v3 w' => ∃ (x3_1 : Int), v3 = .int .i64 x3_1 ∧ Aside0 (coraclelaw17_few.l0 kq l0 x3_1 = some r) ∧ Aside0 (kq ≤ k) ∧ Drawn0 w w')
 case atStart => exact ⟨(0), (by first | rfl | (simp; done) | (simp [*]; done)), H', ⟨Nat.le_refl _⟩, by repeat (first | exact Drawn0.refl _ | apply Drawn0.step)⟩
 case round =>
  clear H'
  try clear c1
  obtain ⟨x3_1, rfl, HA, HK1, ⟨m1, rfl⟩⟩ := hrel
  cases gk with
  | zero => exact absurd HA.out (by simp [coraclelaw17_few.l0])
  | succ k1 =>
   have H := HA.out
   clear HA
   simp only [coraclelaw17_few.l0] at H
   have HC2 := Aside0.mk H
   clear H
   go_upto_region 2 with (fail)
   go_cut [11] (fun v11 wc => ∃ (kq : Nat) (x11_1 : Bool), v11 = .bool x11_1 ∧ Aside0 (coraclelaw17_few.j1 kq l0 x3_1 x11_1 = some r) ∧ Aside0 (kq ≤ k1) ∧ Drawn0 w wc)
   case first =>
    have H := HC2.out
    clear HC2
    by_cases c3 : x3_1 < (l0.length : Int)
    ·rw [if_pos c3] at H
     have c3b0 : decide (x3_1 < (l0.length : Int)) = true := decide_eq_true c3
     clear c3
     (first | rw [c3b0] | (simp only [i64_w, i32_w]; rw [c3b0]) | skip)
     have H' := Aside0.mk H
     clear H
     go_wp2
     go_meet
     case rel => exact ⟨_, (decide (x3_1 < 60)), (by first | rfl | (simp; done) | (simp [*]; done)), H', ⟨by have := HK1.out; first | omega | exact Nat.le_refl _⟩, by repeat (first | exact Drawn0.refl _ | apply Drawn0.step)⟩
    ·rw [if_neg c3] at H
     have c3b0 : decide (x3_1 < (l0.length : Int)) = false := decide_eq_false c3
     clear c3
     (first | rw [c3b0] | (simp only [i64_w, i32_w]; rw [c3b0]) | skip)
     have H' := Aside0.mk H
     clear H
     go_wp2
     go_meet
     case rel => exact ⟨_, (false), (by first | rfl | (simp; done) | (simp [*]; done)), H', ⟨by have := HK1.out; first | omega | exact Nat.le_refl _⟩, by repeat (first | exact Drawn0.refl _ | apply Drawn0.step)⟩
   case rest =>
    clear HC2
    try clear c1
    try clear p2
    try clear c3
    try clear c3b0
    obtain ⟨kq, x11_1, rfl, HA, HJ1, ⟨mc1, rfl⟩⟩ := hcut
    cases kq with
    | zero => exact absurd HA.out (by simp [coraclelaw17_few.j1])
    | succ kj1 =>
     have H := HA.out
     clear HA
     simp only [coraclelaw17_few.j1] at H
     by_cases c4 : x11_1 = true
     ·subst c4
      have H1 : (if 0 ≤ x3_1 then (if x3_1 < (l0.length : Int) then (if (((rd_T68 l0 x3_1).f2.f0.f2).size : Int) > 100 then (some false) else (coraclelaw17_few.l0 kj1 l0 (wrap64 (x3_1 + 1)))) else (none)) else (none)) = some r := by rw [if_pos rfl] at H; exact H
      clear H
      have H := H1
      clear H1
      by_cases c5 : 0 ≤ x3_1
      ·rw [if_pos c5] at H
       have c5b0 : decide (0 ≤ x3_1) = true := decide_eq_true c5
       clear c5
       by_cases c6 : x3_1 < (l0.length : Int)
       ·rw [if_pos c6] at H
        have c6b0 : decide (x3_1 < (l0.length : Int)) = true := decide_eq_true c6
        clear c6
        by_cases c7 : (((rd_T68 l0 x3_1).f2.f0.f2).size : Int) > 100
        ·rw [if_pos c7] at H
         have c7b0 : decide (100 < (((rd_T68 l0 x3_1).f2.f0.f2).size : Int)) = true := decide_eq_true c7
         have c7b1 : decide (100 < ((rd_T68 l0 x3_1).f2.f0.f2).size) = true := decide_eq_true (by omega)
         clear c7
         obtain rfl := Option.some.inj H
         have p188 : 0 ≤ (x3_1 : Int) := of_decide_eq_true (by first | (with_reducible assumption) | assumption)
         have q188 : x3_1 < (l0.length : Int) := of_decide_eq_true (by first | (with_reducible assumption) | assumption)
         obtain ⟨ad188, e188, hx188_0, hx188_1, hx188_2, hx188_3, hx188_4, hx188_5, hx188_6, hx188_7, hx188_8, hx188_9, hx188_10, hx188_11, hx188_12, hx188_13, hx188_14, hx188_15, hx188_16, hx188_17, hx188_18, hx188_19, hx188_20, hx188_21, hx188_22, hx188_23, hx188_24, hx188_25, hx188_26, hx188_27, hx188_28, hx188_29, hx188_30, hx188_31, hx188_32, hx188_33, hx188_34, hx188_35, hx188_36, hx188_37, hx188_38, hx188_39, hx188_40, hx188_41, hx188_42, hx188_43⟩ := at_T68 HR0.out x3_1 p188 q188
         cases e188
         replace p188 := eq_true p188
         replace q188 := eq_true q188
         have hw188_0_32 := Wide.mk32 hx188_0 hx188_1 hx188_2 hx188_3 hx188_4 hx188_5 hx188_6 hx188_7 hx188_8 hx188_9 hx188_10 hx188_11 hx188_12 hx188_13 hx188_14 hx188_15 hx188_16 hx188_17 hx188_18 hx188_19 hx188_20 hx188_21 hx188_22 hx188_23 hx188_24 hx188_25 hx188_26 hx188_27 hx188_28 hx188_29 hx188_30 hx188_31
         have hw188_0_33 := Wide.mk33 hx188_0 hx188_1 hx188_2 hx188_3 hx188_4 hx188_5 hx188_6 hx188_7 hx188_8 hx188_9 hx188_10 hx188_11 hx188_12 hx188_13 hx188_14 hx188_15 hx188_16 hx188_17 hx188_18 hx188_19 hx188_20 hx188_21 hx188_22 hx188_23 hx188_24 hx188_25 hx188_26 hx188_27 hx188_28 hx188_29 hx188_30 hx188_31 hx188_32
         have hw188_0_44 := Wide.mk44 hx188_0 hx188_1 hx188_2 hx188_3 hx188_4 hx188_5 hx188_6 hx188_7 hx188_8 hx188_9 hx188_10 hx188_11 hx188_12 hx188_13 hx188_14 hx188_15 hx188_16 hx188_17 hx188_18 hx188_19 hx188_20 hx188_21 hx188_22 hx188_23 hx188_24 hx188_25 hx188_26 hx188_27 hx188_28 hx188_29 hx188_30 hx188_31 hx188_32 hx188_33 hx188_34 hx188_35 hx188_36 hx188_37 hx188_38 hx188_39 hx188_40 hx188_41 hx188_42 hx188_43
         go_wp2
         go_ret
         exact ⟨by first | rfl | (simp; done) | (simp [*]; done), by repeat (first | exact Drawn0.refl _ | apply Drawn0.step)⟩
        ·rw [if_neg c7] at H
         have c7b0 : decide (100 < (((rd_T68 l0 x3_1).f2.f0.f2).size : Int)) = false := decide_eq_false c7
         have c7b1 : decide (100 < ((rd_T68 l0 x3_1).f2.f0.f2).size) = false := decide_eq_false (by omega)
         clear c7
         have H' := Aside0.mk H
         clear H
         have p188 : 0 ≤ (x3_1 : Int) := of_decide_eq_true (by first | (with_reducible assumption) | assumption)
         have q188 : x3_1 < (l0.length : Int) := of_decide_eq_true (by first | (with_reducible assumption) | assumption)
         obtain ⟨ad188, e188, hx188_0, hx188_1, hx188_2, hx188_3, hx188_4, hx188_5, hx188_6, hx188_7, hx188_8, hx188_9, hx188_10, hx188_11, hx188_12, hx188_13, hx188_14, hx188_15, hx188_16, hx188_17, hx188_18, hx188_19, hx188_20, hx188_21, hx188_22, hx188_23, hx188_24, hx188_25, hx188_26, hx188_27, hx188_28, hx188_29, hx188_30, hx188_31, hx188_32, hx188_33, hx188_34, hx188_35, hx188_36, hx188_37, hx188_38, hx188_39, hx188_40, hx188_41, hx188_42, hx188_43⟩ := at_T68 HR0.out x3_1 p188 q188
         cases e188
         replace p188 := eq_true p188
         replace q188 := eq_true q188
         have hw188_0_32 := Wide.mk32 hx188_0 hx188_1 hx188_2 hx188_3 hx188_4 hx188_5 hx188_6 hx188_7 hx188_8 hx188_9 hx188_10 hx188_11 hx188_12 hx188_13 hx188_14 hx188_15 hx188_16 hx188_17 hx188_18 hx188_19 hx188_20 hx188_21 hx188_22 hx188_23 hx188_24 hx188_25 hx188_26 hx188_27 hx188_28 hx188_29 hx188_30 hx188_31
         have hw188_0_33 := Wide.mk33 hx188_0 hx188_1 hx188_2 hx188_3 hx188_4 hx188_5 hx188_6 hx188_7 hx188_8 hx188_9 hx188_10 hx188_11 hx188_12 hx188_13 hx188_14 hx188_15 hx188_16 hx188_17 hx188_18 hx188_19 hx188_20 hx188_21 hx188_22 hx188_23 hx188_24 hx188_25 hx188_26 hx188_27 hx188_28 hx188_29 hx188_30 hx188_31 hx188_32
         have hw188_0_44 := Wide.mk44 hx188_0 hx188_1 hx188_2 hx188_3 hx188_4 hx188_5 hx188_6 hx188_7 hx188_8 hx188_9 hx188_10 hx188_11 hx188_12 hx188_13 hx188_14 hx188_15 hx188_16 hx188_17 hx188_18 hx188_19 hx188_20 hx188_21 hx188_22 hx188_23 hx188_24 hx188_25 hx188_26 hx188_27 hx188_28 hx188_29 hx188_30 hx188_31 hx188_32 hx188_33 hx188_34 hx188_35 hx188_36 hx188_37 hx188_38 hx188_39 hx188_40 hx188_41 hx188_42 hx188_43
         go_wp2
         go_roundg kj1
         case measure => have := HK1.out; have := HJ1.out; omega
         case rel => exact ⟨(wrap64 (x3_1 + 1)), (by first | rfl | (simp; done) | (simp [*]; done)), H', ⟨by have := HK1.out; have := HJ1.out; omega⟩, by repeat (first | exact Drawn0.refl _ | apply Drawn0.step)⟩
       ·rw [if_neg c6] at H
        exact absurd H (by simp)
      ·rw [if_neg c5] at H
       exact absurd H (by simp)
     ·replace c4 := Bool.eq_false_iff.mpr c4
      subst c4
      have H1 : (some (decide ((l0.length : Int) ≤ 40))) = some r := by rw [if_neg (show ¬ (false = true) by decide)] at H; exact H
      clear H
      have H := H1
      clear H1
      obtain rfl := Option.some.inj H
      go_wp2
      go_ret
      exact ⟨by first | rfl | (simp; done) | (simp [*]; done), by repeat (first | exact Drawn0.refl _ | apply Drawn0.step)⟩
/-! ### coraclelaw17_one: function 25 -/
def coraclelaw17_one.f (a0 a1 a2 : Int) : Option (Int × Int × Int × Int × Int × Int × Int × Int × Int × Int × Int × Int × Int × Int × Int × Int × Int × Int × Int × Int × Int × Int × Int × Int × Int × Int × Int × Int × Int × Int × Int × Int × Int × Int × Int × Int × ByteArray × Int × Int × Int × Int × Int × Int × Int) := some (0, 0, 0, 0, 0, 0, 0, 0, 0, 0, 0, 0, 0, 0, 0, 0, 0, 0, 0, 0, 0, 0, 0, 0, 0, 0, 0, 0, 0, 0, 0, 0, a0, a1, 1, 2, (⟨#[]⟩ : ByteArray), 0, 0, 0, 0, 0, 10, a2)
/-! ### coracleref1_Money: function 48 -/
def coracleref1_Money.f (a0 : Int) : Option (Bool) := if a0 ≥ 0 then (some (decide (a0 ≤ 2100000000000000))) else (some false)
/-! ### coracleref1_Fee: function 24 -/
def coracleref1_Fee.j0 : Nat → Int → Int → Bool → Option (Int × Int)
 | 0, _, _, _ => none
 | k + 1, x0, x1, x21 => if x21 = true then (some (0, 11)) else (if (Int.tmod (wrap64 (x0 * x1)) 1000) > 0 then ((coracleref1_Money.f (wrap64 ((wrap64 (Int.tdiv (wrap64 (x0 * x1)) 1000)) + 1))).bind fun t191 => (if t191 = true then (some (wrap64 ((wrap64 (Int.tdiv (wrap64 (x0 * x1)) 1000)) + 1), 0)) else (some (0, 11)))) else ((coracleref1_Money.f (wrap64 (Int.tdiv (wrap64 (x0 * x1)) 1000))).bind fun t192 => (if t192 = true then (some (wrap64 (Int.tdiv (wrap64 (x0 * x1)) 1000), 0)) else (some (0, 11)))))
def coracleref1_Fee.f (k : Nat) (a0 a1 : Int) : Option (Int × Int) := if a0 < 0 then (coracleref1_Fee.j0 k a0 a1 true) else (if a0 > 4000000 then (coracleref1_Fee.j0 k a0 a1 true) else (if a1 < 0 then (coracleref1_Fee.j0 k a0 a1 true) else (coracleref1_Fee.j0 k a0 a1 (decide (a1 > 1000000000)))))
theorem coracleref1_Fee.mono_l : ∀ k, (∀ y0 y1 y2, LeO (coracleref1_Fee.j0 k y0 y1 y2) (coracleref1_Fee.j0 (k + 1) y0 y1 y2))
 | 0 => fun _ _ _ r h => by simp [coracleref1_Fee.j0] at h
 | k + 1 => by
  have ih0 := coracleref1_Fee.mono_l k
  ·intro y0 y1 y2
   unfold coracleref1_Fee.j0
   repeat' first
   | (with_reducible exact ih0 _ _ _)
   | (with_reducible exact LeO.refl _)
   | (with_reducible exact LeO.none _)
   | (with_reducible refine LeO.ite ?_ ?_)
   | (with_reducible refine LeO.bind ?_ (fun _ => ?_))
   | exact ih0 _ _ _
   | exact LeO.none _
   | refine LeO.ite ?_ ?_
   | refine LeO.bind ?_ (fun _ => ?_)
theorem coracleref1_Fee.mono : ∀ a0 a1 k, LeO (coracleref1_Fee.f k a0 a1) (coracleref1_Fee.f (k + 1) a0 a1) := by
 intro a0 a1 k
 have ih0 := coracleref1_Fee.mono_l k
 unfold coracleref1_Fee.f
 repeat' first
  | (with_reducible exact ih0 _ _ _)
  | (with_reducible exact LeO.refl _)
  | (with_reducible exact LeO.none _)
  | (with_reducible refine LeO.ite ?_ ?_)
  | (with_reducible refine LeO.bind ?_ (fun _ => ?_))
  | exact ih0 _ _ _
  | exact LeO.none _
  | refine LeO.ite ?_ ?_
  | refine LeO.bind ?_ (fun _ => ?_)
end Go.Proofs.Ytiodebjjbgcbhaa.Hand
/- coraclelaw17.awake answers true. -/
namespace Go.Proofs.Ytiodebjjbgcbhaa.Inp
open Go.RowKit Go.Sort Go.Lib Go.Shelf Go.Proofs.Ytiodebjjbgcbhaa Go.Proofs.Ytiodebjjbgcbhaa.Hand Go.Proofs.YtiodebjjbgcbhaaW.PrintWords Go.Proofs.YtiodebjjbgcbhaaW.PrintLast Go.Proofs.YtiodebjjbgcbhaaW.PrintMore Go.Proofs.Ytiodebjjbgcbhaa.RowK Go.Proofs.Ytiodebjjbgcbhaa.Fill Go.Proofs.Ytiodebjjbgcbhaa.OrdO Go.Proofs.Ytiodebjjbgcbhaa.QLef Go.Proofs.Ytiodebjjbgcbhaa.LefL
attribute [local go_sem ↓ high] Wide.hv44 Wide.hv33 Wide.hv37
set_option linter.unusedVariables false
set_option linter.unusedSectionVars false
set_option linter.unusedSimpArgs false
theorem cells_row {α : Type} {enc : α → List Value} {kk : Nat} (hk : ∀ x, (enc x).length = kk) {w : World} {g t : Nat} {l : List α} (hl : l.length < 1000000) (h : w.heap[g]? = some (.cells (l.flatMap enc).toArray t (0, 0))) : ReadsRow (fun x c => c = enc x) kk w (some ⟨g, 0, none⟩) l.length l := by
 refine ⟨rfl, by omega, fun _ => ⟨⟨g, 0, none⟩, rfl, fun j x hx => ⟨enc x, hk x, rfl, fun i u hu => ?_⟩⟩⟩
 have hj := (List.getElem?_eq_some_iff.1 hx).1
 have hxj := (List.getElem?_eq_some_iff.1 hx).2
 have hch := DelB.flat_chunk enc kk l (fun y _ => hk y) j hj
 rw [hxj] at hch
 have hi : i < kk := by have := (List.getElem?_eq_some_iff.1 hu).1; rwa [hk] at this
 rw [← hch, List.getElem?_take_of_lt hi, List.getElem?_drop] at hu
 rw [Addr.add_lit, Nat.zero_add]
 exact cell_of_block h _ _ hu
theorem row68 {w : World} {A : Option Addr} {n : Nat} {l : List S68} (h : ReadsRow (fun x c => c = J68.enc x) 44 w A n l) : Kd.C k68 w A n l :=
 ReadsRow.imp_ h (Below.refl _ w) (fun x c e => by subst e; exact k68_mk w x)
theorem first39 {w : World} {base : Nat} {v : Value} {b : S39} (h : Kd.R k39 39 w base (fun _ => True) v [b]) : ∃ (g c : Nat) (cells : Array Value) (A0 : Option Addr) (c0 : Nat), v = .slice (some ⟨g, 0, none⟩) 1 c ∧ w.heap[g]? = some (.cells cells 39 (0, 0)) ∧ cells[0]? = some (.slice A0 b.f0.f0.length c0) := by
 obtain ⟨A, c, rfl⟩ := Kd.R_slice h
 obtain ⟨ad, A0, c0, A1, c1, eA, hc, _⟩ := at_T39 (Kd.R_reads' h).2.2 0 (by decide) (by simp)
 subst eA
 obtain ⟨inner, ho⟩ := Kd.R_own h
 rcases ho.2 with ⟨e, _⟩ | ⟨g, cap, cur, e, _, hg, _⟩
 ·cases e
 ·injection e with e1 e2 e3
  injection e1 with e1
  subst e1
  refine ⟨g, c, cur, A0, c0, rfl, hg, ?_⟩
  have h1 := blk_cell hg 0
  rw [← h1]
  have e : rd_T39 [b] 0 = b := rfl
  rw [e] at hc
  simpa [Addr.add] using hc
def awL : List S68 := [one68 1 100000 50000, one68 2 100000 50000]
def awM : List S90 := [to90 (one68 1 100000 50000), to90 (one68 2 100000 50000)]
def awN : List S90 := [to90 (one68 1 100000 50000), to90 (one68 2 100000 50000), to90 (one68 1 100000 50000)]
theorem aw_mades : coraclelaw17_mades.f 5 awL = some awM := by kernel_rfl
theorem aw_1 : (match allC I90 awM 5 400000 1 with | ([b], e) => decide (b.f0.f0.length = 2 ∧ e = 0) | _ => false) = true := by kernel_rfl
theorem aw_2 : allC I90 awM (-1) 400000 1 = ([], 1) := by kernel_rfl
theorem aw_3 : allC I90 awN 5 400000 1 = ([], 6) := by kernel_rfl
theorem aw_4 : makeC I90 [] 300 1 = none := by kernel_rfl
theorem aw_5 : chkC I90 z90 = 1 := by kernel_rfl
theorem aw_6 : (awN.all keyB) = true := by kernel_rfl
theorem aw_7 : (awM.all keyB) = true := by kernel_rfl
theorem aw_some : ∃ b, allC I90 awM 5 400000 1 = ([b], 0) ∧ b.f0.f0.length = 2 := by
 have h := aw_1
 split at h
 ·rename_i b e heq
  have h2 := of_decide_eq_true h
  exact ⟨b, by rw [heq, h2.2], h2.1⟩
 ·cases h
set_option maxHeartbeats 16000000 in
set_option maxRecDepth 100000 in
theorem awake_calls (w : World) :
 Calls Try.prog 18 #[] w fun e w' => e = .returned (.bool true) ∧ Below w.heap.size w w' := by
 have hu90 := Try.underlying90
 have hu39 := Try.underlying39
 have HB := Aside0.mk (Below.refl w.heap.size w)
 obtain ⟨b, hb1, hb2⟩ := aw_some
 have BL := Aside0.mk hb2
 have CM := Aside0.mk (fun (W : World) (A : Option Addr) (hr : Kd.C k68 W A 2 awL) => coraclelaw17_mades.calls 5 A 2 awL awM W hr (Nat.le_refl _) aw_mades)
 have CA1 := Aside0.mk (fun (W : World) (A : Option Addr) (c : Nat) (hr : Kd.C k90 W A 2 awM) => (by have h := all90 (c := c) (l := awM) hr (by decide) aw_7 5 400000 1; rw [hb1] at h; exact h : Calls Try.prog 19 #[.slice A 2 c, .int .i64 5, .int .i64 400000, .int .i64 1] W fun e w' => AllR W e w' ([b], 0)))
 have CA2 := Aside0.mk (fun (W : World) (A : Option Addr) (c : Nat) (hr : Kd.C k90 W A 2 awM) => (by have h := all90 (c := c) (l := awM) hr (by decide) aw_7 (-1) 400000 1; rw [aw_2] at h; exact h : Calls Try.prog 19 #[.slice A 2 c, .int .i64 (-1), .int .i64 400000, .int .i64 1] W fun e w' => AllR W e w' ([], 1)))
 have CA3 := Aside0.mk (fun (W : World) (A : Option Addr) (c : Nat) (hr : Kd.C k90 W A 3 awN) => (by have h := all90 (c := c) (l := awN) hr (by decide) aw_6 5 400000 1; rw [aw_3] at h; exact h : Calls Try.prog 19 #[.slice A 3 c, .int .i64 5, .int .i64 400000, .int .i64 1] W fun e w' => AllR W e w' ([], 6)))
 have CK := Aside0.mk (fun (W : World) => (by have h := make90 (w := W) (A := none) (c := 0) (l := []) ⟨rfl, Nat.zero_le _, fun h => absurd h (Nat.lt_irrefl _)⟩ (by decide) 300 1; rw [aw_4] at h; exact h : Calls Try.prog 38 #[.slice none 0 0, .int .i64 300, .int .i64 1] W fun e w' => Made W e w' none))
 have CC := Aside0.mk (fun (W : World) => (by have h := checkedC I90 z90 W; rw [aw_5] at h; exact h : Calls Try.prog 39 #[.agg #[.int .u8 0, .int .u8 0, .int .u8 0, .int .u8 0, .int .u8 0, .int .u8 0, .int .u8 0, .int .u8 0, .int .u8 0, .int .u8 0, .int .u8 0, .int .u8 0, .int .u8 0, .int .u8 0, .int .u8 0, .int .u8 0, .int .u8 0, .int .u8 0, .int .u8 0, .int .u8 0, .int .u8 0, .int .u8 0, .int .u8 0, .int .u8 0, .int .u8 0, .int .u8 0, .int .u8 0, .int .u8 0, .int .u8 0, .int .u8 0, .int .u8 0, .int .u8 0, .int .i64 0, .int .i64 0, .int .i64 0, .int .i64 0, .string ⟨#[]⟩, .int .i64 0, .int .i64 0, .int .i64 0, .int .i64 0, .int .i64 0, .int .i64 0, .int .i64 0]] W fun e w' => e = .returned (.int .i64 1) ∧ Below W.heap.size W w'))
 clear hb1 hb2
 have HX := Aside0.mk (And.intro (J68.hk (one68 1 100000 50000)) (J68.hk (one68 2 100000 50000)))
 have O1 := Aside0.mk (one_calls' 1 100000 50000)
 have O2 := Aside0.mk (one_calls' 2 100000 50000)
 have FL := Aside0.mk (show J68.enc (one68 1 100000 50000) ++ J68.enc (one68 2 100000 50000) = awL.flatMap J68.enc by simp [awL])
 generalize J68.enc (one68 1 100000 50000) = c1 at HX O1 FL
 generalize J68.enc (one68 2 100000 50000) = c2 at HX O2 FL
 have AP := Aside0.mk (show awN = awM ++ [to90 (one68 1 100000 50000)] from rfl)
 have AT := Aside0.mk (show awM[0]? = some (to90 (one68 1 100000 50000)) from rfl)
 have I1 := Aside0.mk (show (I90.enc (to90 (one68 1 100000 50000))).length = 44 ∧ ∀ (w : World) (base : Nat) (ok : Nat → Prop), k90.M w base ok (to90 (one68 1 100000 50000)) (I90.enc (to90 (one68 1 100000 50000))) from ⟨I90.hk _, fun w base ok => k90_mkM w base ok _⟩)
 have LD := Aside0.mk (fun (W : World) (ad : Addr) (c : Nat) (hr : Kd.C k90 W (some ad) 2 awM) => (by have h := reads_at I90 (W := W) (reads90 hr) (Below.refl _ _) rfl (j := 0) (x := to90 (one68 1 100000 50000)) rfl; rwa [show ad.add (0 * 44) = ad by simp [Addr.add]] at h : Sem.run Try.prog (Wide.heavy0 ad 44) W = .ok (I90.enc (to90 (one68 1 100000 50000))).toArray W))
 generalize I90.enc (to90 (one68 1 100000 50000)) = cx at LD I1
 go_enter Try.func18, Try.ntmps18
 go_wp2_with (first | ((with_reducible refine gate_callee (f := 25) rfl ?_); refine goesL_ (some 10) rfl rfl Try.func25 (by kernel_rfl) rfl #[.int .i64 1, .int .i64 100000, .int .i64 50000] rfl (by (try simp only [List.map_toArray, List.map_cons, List.map_nil]); first | done | rfl) ?_; refine (O1.out _).mono ?_; rintro e w2 ⟨rfl, hb⟩; refine ⟨_, rfl, ?_⟩; have m_HB := Aside0.mk (below_step HB.out hb); clear HB; have HB := m_HB; clear m_HB; clear hb) | ((with_reducible refine gate_callee (f := 25) rfl ?_); refine goesL_ (some 11) rfl rfl Try.func25 (by kernel_rfl) rfl #[.int .i64 2, .int .i64 100000, .int .i64 50000] rfl (by (try simp only [List.map_toArray, List.map_cons, List.map_nil]); first | done | rfl) ?_; refine (O2.out _).mono ?_; rintro e w3 ⟨rfl, hb⟩; refine ⟨_, rfl, ?_⟩; have m_HB := Aside0.mk (below_step HB.out hb); clear HB; have HB := m_HB; clear m_HB; clear hb) | ((with_reducible refine gate_dst (N := 12) rfl ?_); refine Kd.event_run (v := .slice (some ⟨w3.heap.size, 0, none⟩) 2 2) (w1 := w3.alloc (.cells (c1 ++ c2).toArray 68)) ?hg ?hr ?_; (case hg => rfl); (case hr => clear O1 O2 FL; obtain ⟨q0, q1, q2, q3, q4, q5, q6, q7, q8, q9, q10, q11, q12, q13, q14, q15, q16, q17, q18, q19, q20, q21, q22, q23, q24, q25, q26, q27, q28, q29, q30, q31, q32, q33, q34, q35, q36, q37, q38, q39, q40, q41, q42, q43, rfl⟩ := list44 HX.out.1; obtain ⟨p0, p1, p2, p3, p4, p5, p6, p7, p8, p9, p10, p11, p12, p13, p14, p15, p16, p17, p18, p19, p20, p21, p22, p23, p24, p25, p26, p27, p28, p29, p30, p31, p32, p33, p34, p35, p36, p37, p38, p39, p40, p41, p42, p43, rfl⟩ := list44 HX.out.2; first | (go_simp; done) | (go_simp; rfl)); have B12 := Aside0.mk (blk_new w3 (.cells (c1 ++ c2).toArray 68)); have hb := below_alloc (Below.refl w3.heap.size w3) (.cells (c1 ++ c2).toArray 68); rw [FL.out] at B12 hb; have m_HB := Aside0.mk (below_step HB.out hb); clear HB; have HB := m_HB; clear m_HB; clear hb; obtain ⟨g12, hg12⟩ : ∃ g, w3.heap.size = g := ⟨_, rfl⟩; rw [hg12] at B12 ⊢; clear hg12; rw [FL.out]; generalize w3.alloc (.cells (awL.flatMap J68.enc).toArray 68) = w4 at HB B12 ⊢; clear HX O1 O2 FL) | ((with_reducible refine gate_callee (f := 20) rfl ?_); refine goesL_ (some 13) rfl rfl Try.func20 (by kernel_rfl) rfl #[.slice (some ⟨g12, 0, none⟩) 2 2] rfl (by (try simp only [List.map_toArray, List.map_cons, List.map_nil]); first | done | rfl) ?_; refine (CM.out _ _ (row68 (cells_row J68.hk (by decide) B12.out))).mono ?_; rintro e w5 ⟨v13, rfl, h13, hb⟩; refine ⟨_, rfl, ?_⟩; have H13 := Aside0.mk (Kd.R_lower h13 HB.out.size); clear h13 B12; obtain ⟨A13, c13, e13⟩ := Kd.R_slice H13.out; replace e13 : v13 = .slice A13 2 c13 := e13; subst e13; obtain ⟨ad, eA, _⟩ := (Kd.R_reads' H13.out).2.2.2.2 (by decide); subst eA; have m_HB := Aside0.mk (below_step HB.out hb); clear HB; have HB := m_HB; clear m_HB; clear hb) | ((with_reducible refine gate_callee (f := 19) rfl ?_); refine goesL_ (some 16) rfl rfl Try.func19 (by kernel_rfl) rfl #[.slice (some ad) 2 c13, .int .i64 5, .int .i64 400000, .int .i64 1] rfl (by (try simp only [List.map_toArray, List.map_cons, List.map_nil]); first | done | rfl) ?_; refine (CA1.out _ _ _ (Kd.R_reads' H13.out).2.2).mono ?_; rintro e w6 ⟨v16, rfl, h16, hb⟩; refine ⟨_, rfl, ?_⟩; have H16 := Aside0.mk (Kd.R_lower h16 HB.out.size); clear h16; obtain ⟨g16, c16, cs16, A0, c0, e16, hb16, hd16⟩ := first39 H16.out; subst e16; replace hd16 : cs16[0]? = some (.slice A0 2 c0) := (by rw [← BL.out]; exact hd16); have D16 := Aside0.mk hd16; clear H16 hd16; have H16 := Aside0.mk hb16; clear hb16; have m_HB := Aside0.mk (below_step HB.out hb); have m_H13 := Aside0.mk (Kd.R_below H13.out hb); clear HB H13; have HB := m_HB; have H13 := m_H13; clear m_HB m_H13; clear hb) | ((with_reducible refine gate_callee (f := 19) rfl ?_); refine goesL_ (some 21) rfl rfl Try.func19 (by kernel_rfl) rfl #[.slice (some ad) 2 c13, .int .i64 (-1), .int .i64 400000, .int .i64 1] rfl (by (try simp only [List.map_toArray, List.map_cons, List.map_nil]); first | done | rfl) ?_; refine (CA2.out _ _ _ (Kd.R_reads' H13.out).2.2).mono ?_; rintro e w7 ⟨v21, rfl, h21, hb⟩; refine ⟨_, rfl, ?_⟩; clear h21; have m_HB := Aside0.mk (below_step HB.out hb); have m_H13 := Aside0.mk (Kd.R_below H13.out hb); have m_H16 := Aside0.mk (blk_below H16.out hb); clear HB H13 H16; have HB := m_HB; have H13 := m_H13; have H16 := m_H16; clear m_HB m_H13 m_H16; clear hb; have hl28 := LD.out _ ad c13 (Kd.R_reads' H13.out).2.2) | ((with_reducible refine gate_dst (N := 29) rfl ?_); refine Kd.event_run (v := .slice (some ⟨w7.heap.size, 0, none⟩) 1 1) (w1 := w7.alloc (.cells cx.toArray 90)) ?hg ?hr ?_; (case hg => rfl); (case hr => clear LD hl28; obtain ⟨q0, q1, q2, q3, q4, q5, q6, q7, q8, q9, q10, q11, q12, q13, q14, q15, q16, q17, q18, q19, q20, q21, q22, q23, q24, q25, q26, q27, q28, q29, q30, q31, q32, q33, q34, q35, q36, q37, q38, q39, q40, q41, q42, q43, rfl⟩ := list44 I1.out.1; first | (go_simp; done) | (go_simp; rfl)); clear hl28 LD) | ((with_reducible refine gate_builtin (b := .append) (xs := #[.tmp 25, .tmp 29]) rfl ?_); at_builtin; refine Kd.R_append k90 (w0 := w) (W := w7) w.heap.size rfl (.tmp 25) (.tmp 29) 57 90 (.agg #[(.int .u8 0), (.int .u8 0), (.int .u8 0), (.int .u8 0), (.int .u8 0), (.int .u8 0), (.int .u8 0), (.int .u8 0), (.int .u8 0), (.int .u8 0), (.int .u8 0), (.int .u8 0), (.int .u8 0), (.int .u8 0), (.int .u8 0), (.int .u8 0), (.int .u8 0), (.int .u8 0), (.int .u8 0), (.int .u8 0), (.int .u8 0), (.int .u8 0), (.int .u8 0), (.int .u8 0), (.int .u8 0), (.int .u8 0), (.int .u8 0), (.int .u8 0), (.int .u8 0), (.int .u8 0), (.int .u8 0), (.int .u8 0), (.int .i64 0), (.int .i64 0), (.int .i64 0), (.int .i64 0), (.string ⟨#[]⟩), (.int .i64 0), (.int .i64 0), (.int .i64 0), (.int .i64 0), (.int .i64 0), (.int .i64 0), (.int .i64 0)]) 136 rfl Try.underlying57 info90 rfl (by decide) (by omega) (.slice (some ad) 2 c13) awM (to90 (one68 1 100000 50000)) cx (fun _ => True) (fun _ => False) rfl rfl (I1.out.2 _ _ _) (fun _ h => h.elim) (fun _ _ => trivial) H13.out HB.out HB.out.size (by decide) ?_; intro v30 w8 hv hb hg hat; rw [← AP.out] at hv; have m_H16 := Aside0.mk (blk_grown H16.out hg (Kd.R_ne H13.out H16.out (by decide))); clear H13 H16 HB hg hat; have H30 := Aside0.mk hv; have HB := Aside0.mk hb; have H16 := m_H16; clear m_H16 hv hb; obtain ⟨A30, c30, e30⟩ := Kd.R_slice H30.out; replace e30 : v30 = .slice A30 3 c30 := e30; subst e30) | ((with_reducible refine gate_callee (f := 19) rfl ?_); refine goesL_ (some 31) rfl rfl Try.func19 (by kernel_rfl) rfl #[.slice A30 3 c30, .int .i64 5, .int .i64 400000, .int .i64 1] rfl (by (try simp only [List.map_toArray, List.map_cons, List.map_nil]); first | done | rfl) ?_; refine (CA3.out _ _ _ (Kd.R_reads' H30.out).2.2).mono ?_; rintro e w9 ⟨v31, rfl, h31, hb⟩; refine ⟨_, rfl, ?_⟩; clear h31 H30; have m_HB := Aside0.mk (below_step HB.out hb); have m_H16 := Aside0.mk (blk_below H16.out hb); clear HB H16; have HB := m_HB; have H16 := m_H16; clear m_HB m_H16; clear hb) | ((with_reducible refine gate_callee (f := 38) rfl ?_); refine goesL_ (some 35) rfl rfl Try.func38 (by kernel_rfl) rfl #[.slice none 0 0, .int .i64 300, .int .i64 1] rfl (by (try simp only [List.map_toArray, List.map_cons, List.map_nil]); first | done | rfl) ?_; refine (CK.out _).mono ?_; rintro e w10 ⟨m0, m1, rfl, hm0, hm1, hb⟩; refine ⟨_, rfl, ?_⟩; obtain ⟨B0, d0, f0⟩ := Kd.R_slice hm0; replace f0 : m0 = .slice B0 0 d0 := f0; subst f0; obtain ⟨B1, d1, f1⟩ := Kd.R_slice hm1; replace f1 : m1 = .slice B1 0 d1 := f1; subst f1; clear hm0 hm1; have m_HB := Aside0.mk (below_step HB.out hb); have m_H16 := Aside0.mk (blk_below H16.out hb); clear HB H16; have HB := m_HB; have H16 := m_H16; clear m_HB m_H16; clear hb) | ((with_reducible refine gate_dst (N := 8) rfl ?_); refine Fill.fill_event (N := 8) (x := 36) (cs := #[.slice B0 0 d0, .slice B1 0 d1, .int .i64 0, .int .i64 0, .int .i64 0]) (t := 39) rfl rfl rfl rfl rfl rfl Try.zeroValue39 ?fs ?fz ?f1 (fun _ => rfl) (fun _ => rfl) ?_; (case fs => exact fun W => Try.sizeOf39 W); (case fz => rfl); (case f1 => rfl); intro g8 hg8 w11 hbox hb; clear hbox hg8; have m_HB := Aside0.mk (below_step HB.out hb); have m_H16 := Aside0.mk (blk_below H16.out hb); clear HB H16; have HB := m_HB; have H16 := m_H16; clear m_HB m_H16; clear hb; have hc16 : w11.cell? ⟨g16, 0, none⟩ = some (.slice A0 2 c0) := (blk_cell H16.out 0).trans D16.out) | (go_at_call 39; refine (CC.out _).mono ?_; rintro e w12 ⟨rfl, hb⟩; clear hc16; have m_HB := Aside0.mk (below_step HB.out hb); clear HB; have HB := m_HB; clear m_HB; clear hb))
 go_ret
 exact ⟨rfl, HB.out⟩
end Go.Proofs.Ytiodebjjbgcbhaa.Inp
