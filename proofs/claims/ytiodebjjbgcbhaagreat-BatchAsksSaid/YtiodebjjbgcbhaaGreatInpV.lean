import Derived.Test.YtiodebjjbgcbhaaGreatPurBatC
namespace Go.Proofs.YtiodebjjbgcbhaaGreat.Hand
open Go.RowKit Go.Proofs YtiodebjjbgcbhaaGreatW.PrintWords YtiodebjjbgcbhaaGreatW.PrintLast YtiodebjjbgcbhaaGreatW.PrintMore YtiodebjjbgcbhaaGreat QLef
attribute [local go_sem] max2_int min2_int max_two min_two max_three min_three max_four min_four run_equalIn_c run_fop run_feq run_fne run_flt run_fle run_fgt run_fge run_fint run_toi run_real' run_imag' run_complex' run_ceq run_cne run_cadd run_csub Wide.cellsAt_drewN Wide.cellsAt_drew Wide.lw32 Wide.lw33 Wide.lw37 Wide.lw38 Wide.lw39 Wide.lw44
attribute [local go_sem ↓ high] Wide.hv32 Wide.hv33 Wide.hv37 Wide.hv38 Wide.hv39 Wide.hv44
set_option linter.unusedVariables false
set_option linter.unusedSimpArgs false
def coraclelaw17_made.f (a0_0 a0_1 a0_2 a0_3 a0_4 a0_5 a0_6 a0_7 a0_8 a0_9 a0_10 a0_11 a0_12 a0_13 a0_14 a0_15 a0_16 a0_17 a0_18 a0_19 a0_20 a0_21 a0_22 a0_23 a0_24 a0_25 a0_26 a0_27 a0_28 a0_29 a0_30 a0_31 a0_32 a0_33 a0_34 a0_35 : Int) (a0_36 : ByteArray) (a0_37 a0_38 a0_39 a0_40 a0_41 a0_42 a0_43 : Int) : Option (Int × Int × Int × Int × Int × Int × Int × Int × Int × Int × Int × Int × Int × Int × Int × Int × Int × Int × Int × Int × Int × Int × Int × Int × Int × Int × Int × Int × Int × Int × Int × Int × Int × Int × Int × Int × ByteArray × Int × Int × Int × Int × Int × Int × Int) := some (a0_0, a0_1, a0_2, a0_3, a0_4, a0_5, a0_6, a0_7, a0_8, a0_9, a0_10, a0_11, a0_12, a0_13, a0_14, a0_15, a0_16, a0_17, a0_18, a0_19, a0_20, a0_21, a0_22, a0_23, a0_24, a0_25, a0_26, a0_27, a0_28, a0_29, a0_30, a0_31, a0_32, a0_33, a0_34, a0_35, a0_36, a0_37, a0_38, a0_39, a0_40, a0_41, a0_42, a0_43)
set_option maxHeartbeats 8000000 in
set_option maxRecDepth 100000 in
theorem coraclelaw17_made.calls (a0_0 a0_1 a0_2 a0_3 a0_4 a0_5 a0_6 a0_7 a0_8 a0_9 a0_10 a0_11 a0_12 a0_13 a0_14 a0_15 a0_16 a0_17 a0_18 a0_19 a0_20 a0_21 a0_22 a0_23 a0_24 a0_25 a0_26 a0_27 a0_28 a0_29 a0_30 a0_31 a0_32 a0_33 a0_34 a0_35 : Int) (a0_36 : ByteArray) (a0_37 a0_38 a0_39 a0_40 a0_41 a0_42 a0_43 r1 r2 r3 r4 r5 r6 r7 r8 r9 r10 r11 r12 r13 r14 r15 r16 r17 r18 r19 r20 r21 r22 r23 r24 r25 r26 r27 r28 r29 r30 r31 r32 r33 r34 r35 r36 : Int) (r37 : ByteArray) (r38 r39 r40 r41 r42 r43 r44 : Int) (w : World) (h : coraclelaw17_made.f a0_0 a0_1 a0_2 a0_3 a0_4 a0_5 a0_6 a0_7 a0_8 a0_9 a0_10 a0_11 a0_12 a0_13 a0_14 a0_15 a0_16 a0_17 a0_18 a0_19 a0_20 a0_21 a0_22 a0_23 a0_24 a0_25 a0_26 a0_27 a0_28 a0_29 a0_30 a0_31 a0_32 a0_33 a0_34 a0_35 a0_36 a0_37 a0_38 a0_39 a0_40 a0_41 a0_42 a0_43 = some (r1, r2, r3, r4, r5, r6, r7, r8, r9, r10, r11, r12, r13, r14, r15, r16, r17, r18, r19, r20, r21, r22, r23, r24, r25, r26, r27, r28, r29, r30, r31, r32, r33, r34, r35, r36, r37, r38, r39, r40, r41, r42, r43, r44)) :
 Calls Tryz.prog 22 #[.agg #[.int .u8 a0_0, .int .u8 a0_1, .int .u8 a0_2, .int .u8 a0_3, .int .u8 a0_4, .int .u8 a0_5, .int .u8 a0_6, .int .u8 a0_7, .int .u8 a0_8, .int .u8 a0_9, .int .u8 a0_10, .int .u8 a0_11, .int .u8 a0_12, .int .u8 a0_13, .int .u8 a0_14, .int .u8 a0_15, .int .u8 a0_16, .int .u8 a0_17, .int .u8 a0_18, .int .u8 a0_19, .int .u8 a0_20, .int .u8 a0_21, .int .u8 a0_22, .int .u8 a0_23, .int .u8 a0_24, .int .u8 a0_25, .int .u8 a0_26, .int .u8 a0_27, .int .u8 a0_28, .int .u8 a0_29, .int .u8 a0_30, .int .u8 a0_31, .int .i64 a0_32, .int .i64 a0_33, .int .i64 a0_34, .int .i64 a0_35, .string a0_36, .int .i64 a0_37, .int .i64 a0_38, .int .i64 a0_39, .int .i64 a0_40, .int .i64 a0_41, .int .i64 a0_42, .int .i64 a0_43]] w fun e w' => e = .returned (.agg #[.int .u8 r1, .int .u8 r2, .int .u8 r3, .int .u8 r4, .int .u8 r5, .int .u8 r6, .int .u8 r7, .int .u8 r8, .int .u8 r9, .int .u8 r10, .int .u8 r11, .int .u8 r12, .int .u8 r13, .int .u8 r14, .int .u8 r15, .int .u8 r16, .int .u8 r17, .int .u8 r18, .int .u8 r19, .int .u8 r20, .int .u8 r21, .int .u8 r22, .int .u8 r23, .int .u8 r24, .int .u8 r25, .int .u8 r26, .int .u8 r27, .int .u8 r28, .int .u8 r29, .int .u8 r30, .int .u8 r31, .int .u8 r32, .int .i64 r33, .int .i64 r34, .int .i64 r35, .int .i64 r36, .string r37, .int .i64 r38, .int .i64 r39, .int .i64 r40, .int .i64 r41, .int .i64 r42, .int .i64 r43, .int .i64 r44]) ∧ Below w.heap.size w w' := by
 have e := Option.some.inj h
 simp only [Prod.mk.injEq] at e
 obtain ⟨rfl, rfl, rfl, rfl, rfl, rfl, rfl, rfl, rfl, rfl, rfl, rfl, rfl, rfl, rfl, rfl, rfl, rfl, rfl, rfl, rfl, rfl, rfl, rfl, rfl, rfl, rfl, rfl, rfl, rfl, rfl, rfl, rfl, rfl, rfl, rfl, rfl, rfl, rfl, rfl, rfl, rfl, rfl, rfl⟩ := e
 exact Inp.made_calls Inp.J68 (⟨⟨⟨a0_0, a0_1, a0_2, a0_3, a0_4, a0_5, a0_6, a0_7, a0_8, a0_9, a0_10, a0_11, a0_12, a0_13, a0_14, a0_15, a0_16, a0_17, a0_18, a0_19, a0_20, a0_21, a0_22, a0_23, a0_24, a0_25, a0_26, a0_27, a0_28, a0_29, a0_30, a0_31⟩, a0_32⟩, a0_33, ⟨⟨a0_34, a0_35, a0_36⟩, a0_37, a0_38, a0_39⟩, a0_40, a0_41, a0_42, a0_43⟩ : S42) w
def coraclelaw17_mades.l0 : Nat → List (S42) → List (S38) → Int → Option ((List (S38)))
 | 0, _, _, _ => none
 | k + 1, x0, x3, x4 => if x4 < (x0.length : Int) then (if 0 ≤ x4 then ((coraclelaw17_made.f ((rd_T42 x0 x4).f0.f0.f0) ((rd_T42 x0 x4).f0.f0.f1) ((rd_T42 x0 x4).f0.f0.f2) ((rd_T42 x0 x4).f0.f0.f3) ((rd_T42 x0 x4).f0.f0.f4) ((rd_T42 x0 x4).f0.f0.f5) ((rd_T42 x0 x4).f0.f0.f6) ((rd_T42 x0 x4).f0.f0.f7) ((rd_T42 x0 x4).f0.f0.f8) ((rd_T42 x0 x4).f0.f0.f9) ((rd_T42 x0 x4).f0.f0.f10) ((rd_T42 x0 x4).f0.f0.f11) ((rd_T42 x0 x4).f0.f0.f12) ((rd_T42 x0 x4).f0.f0.f13) ((rd_T42 x0 x4).f0.f0.f14) ((rd_T42 x0 x4).f0.f0.f15) ((rd_T42 x0 x4).f0.f0.f16) ((rd_T42 x0 x4).f0.f0.f17) ((rd_T42 x0 x4).f0.f0.f18) ((rd_T42 x0 x4).f0.f0.f19) ((rd_T42 x0 x4).f0.f0.f20) ((rd_T42 x0 x4).f0.f0.f21) ((rd_T42 x0 x4).f0.f0.f22) ((rd_T42 x0 x4).f0.f0.f23) ((rd_T42 x0 x4).f0.f0.f24) ((rd_T42 x0 x4).f0.f0.f25) ((rd_T42 x0 x4).f0.f0.f26) ((rd_T42 x0 x4).f0.f0.f27) ((rd_T42 x0 x4).f0.f0.f28) ((rd_T42 x0 x4).f0.f0.f29) ((rd_T42 x0 x4).f0.f0.f30) ((rd_T42 x0 x4).f0.f0.f31) ((rd_T42 x0 x4).f0.f1) ((rd_T42 x0 x4).f1) ((rd_T42 x0 x4).f2.f0.f0) ((rd_T42 x0 x4).f2.f0.f1) ((rd_T42 x0 x4).f2.f0.f2) ((rd_T42 x0 x4).f2.f1) ((rd_T42 x0 x4).f2.f2) ((rd_T42 x0 x4).f2.f3) ((rd_T42 x0 x4).f3) ((rd_T42 x0 x4).f4) ((rd_T42 x0 x4).f5) ((rd_T42 x0 x4).f6)).bind fun bt117 => (if x3.length < 1034834473200 then (coraclelaw17_mades.l0 k x0 (x3 ++ [(⟨(⟨(⟨bt117.1, bt117.2.1, bt117.2.2.1, bt117.2.2.2.1, bt117.2.2.2.2.1, bt117.2.2.2.2.2.1, bt117.2.2.2.2.2.2.1, bt117.2.2.2.2.2.2.2.1, bt117.2.2.2.2.2.2.2.2.1, bt117.2.2.2.2.2.2.2.2.2.1, bt117.2.2.2.2.2.2.2.2.2.2.1, bt117.2.2.2.2.2.2.2.2.2.2.2.1, bt117.2.2.2.2.2.2.2.2.2.2.2.2.1, bt117.2.2.2.2.2.2.2.2.2.2.2.2.2.1, bt117.2.2.2.2.2.2.2.2.2.2.2.2.2.2.1, bt117.2.2.2.2.2.2.2.2.2.2.2.2.2.2.2.1, bt117.2.2.2.2.2.2.2.2.2.2.2.2.2.2.2.2.1, bt117.2.2.2.2.2.2.2.2.2.2.2.2.2.2.2.2.2.1, bt117.2.2.2.2.2.2.2.2.2.2.2.2.2.2.2.2.2.2.1, bt117.2.2.2.2.2.2.2.2.2.2.2.2.2.2.2.2.2.2.2.1, bt117.2.2.2.2.2.2.2.2.2.2.2.2.2.2.2.2.2.2.2.2.1, bt117.2.2.2.2.2.2.2.2.2.2.2.2.2.2.2.2.2.2.2.2.2.1, bt117.2.2.2.2.2.2.2.2.2.2.2.2.2.2.2.2.2.2.2.2.2.2.1, bt117.2.2.2.2.2.2.2.2.2.2.2.2.2.2.2.2.2.2.2.2.2.2.2.1, bt117.2.2.2.2.2.2.2.2.2.2.2.2.2.2.2.2.2.2.2.2.2.2.2.2.1, bt117.2.2.2.2.2.2.2.2.2.2.2.2.2.2.2.2.2.2.2.2.2.2.2.2.2.1, bt117.2.2.2.2.2.2.2.2.2.2.2.2.2.2.2.2.2.2.2.2.2.2.2.2.2.2.1, bt117.2.2.2.2.2.2.2.2.2.2.2.2.2.2.2.2.2.2.2.2.2.2.2.2.2.2.2.1, bt117.2.2.2.2.2.2.2.2.2.2.2.2.2.2.2.2.2.2.2.2.2.2.2.2.2.2.2.2.1, bt117.2.2.2.2.2.2.2.2.2.2.2.2.2.2.2.2.2.2.2.2.2.2.2.2.2.2.2.2.2.1, bt117.2.2.2.2.2.2.2.2.2.2.2.2.2.2.2.2.2.2.2.2.2.2.2.2.2.2.2.2.2.2.1, bt117.2.2.2.2.2.2.2.2.2.2.2.2.2.2.2.2.2.2.2.2.2.2.2.2.2.2.2.2.2.2.2.1⟩ : S30), bt117.2.2.2.2.2.2.2.2.2.2.2.2.2.2.2.2.2.2.2.2.2.2.2.2.2.2.2.2.2.2.2.2.1⟩ : S32), bt117.2.2.2.2.2.2.2.2.2.2.2.2.2.2.2.2.2.2.2.2.2.2.2.2.2.2.2.2.2.2.2.2.2.1, (⟨(⟨bt117.2.2.2.2.2.2.2.2.2.2.2.2.2.2.2.2.2.2.2.2.2.2.2.2.2.2.2.2.2.2.2.2.2.2.1, bt117.2.2.2.2.2.2.2.2.2.2.2.2.2.2.2.2.2.2.2.2.2.2.2.2.2.2.2.2.2.2.2.2.2.2.2.1, bt117.2.2.2.2.2.2.2.2.2.2.2.2.2.2.2.2.2.2.2.2.2.2.2.2.2.2.2.2.2.2.2.2.2.2.2.2.1⟩ : S34), bt117.2.2.2.2.2.2.2.2.2.2.2.2.2.2.2.2.2.2.2.2.2.2.2.2.2.2.2.2.2.2.2.2.2.2.2.2.2.1, bt117.2.2.2.2.2.2.2.2.2.2.2.2.2.2.2.2.2.2.2.2.2.2.2.2.2.2.2.2.2.2.2.2.2.2.2.2.2.2.1, bt117.2.2.2.2.2.2.2.2.2.2.2.2.2.2.2.2.2.2.2.2.2.2.2.2.2.2.2.2.2.2.2.2.2.2.2.2.2.2.2.1⟩ : S36), bt117.2.2.2.2.2.2.2.2.2.2.2.2.2.2.2.2.2.2.2.2.2.2.2.2.2.2.2.2.2.2.2.2.2.2.2.2.2.2.2.2.1, bt117.2.2.2.2.2.2.2.2.2.2.2.2.2.2.2.2.2.2.2.2.2.2.2.2.2.2.2.2.2.2.2.2.2.2.2.2.2.2.2.2.2.1, bt117.2.2.2.2.2.2.2.2.2.2.2.2.2.2.2.2.2.2.2.2.2.2.2.2.2.2.2.2.2.2.2.2.2.2.2.2.2.2.2.2.2.2.1, bt117.2.2.2.2.2.2.2.2.2.2.2.2.2.2.2.2.2.2.2.2.2.2.2.2.2.2.2.2.2.2.2.2.2.2.2.2.2.2.2.2.2.2.2⟩ : S38)]) (wrap64 (x4 + 1))) else (none))) else (none)) else (some x3)
def coraclelaw17_mades.f (k : Nat) (l0 : List (S42)) : Option ((List (S38))) := coraclelaw17_mades.l0 k l0 ([] : List (S38)) 0
theorem coraclelaw17_mades.mono_l : ∀ k, (∀ y0 y1 y2, LeO (coraclelaw17_mades.l0 k y0 y1 y2) (coraclelaw17_mades.l0 (k + 1) y0 y1 y2))
 | 0 => fun _ _ _ r h => by simp [coraclelaw17_mades.l0] at h
 | k + 1 => by
  have ih0 := coraclelaw17_mades.mono_l k
  ·intro y0 y1 y2
   unfold coraclelaw17_mades.l0
   repeat' first
   | (with_reducible exact ih0 _ _ _)
   | (with_reducible exact LeO.refl _)
   | (with_reducible exact LeO.none _)
   | (with_reducible refine LeO.ite ?_ ?_)
   | (with_reducible refine LeO.bind ?_ (fun _ => ?_))
   | exact ih0 _ _ _
   | exact LeO.none _
   | refine LeO.ite ?_ ?_
   | refine LeO.bind ?_ (fun _ => ?_)
theorem coraclelaw17_mades.mono : ∀ a0 k, LeO (coraclelaw17_mades.f k a0) (coraclelaw17_mades.f (k + 1) a0) := by
 intro a0 k
 have ih0 := coraclelaw17_mades.mono_l k
 unfold coraclelaw17_mades.f
 repeat' first
  | (with_reducible exact ih0 _ _ _)
  | (with_reducible exact LeO.refl _)
  | (with_reducible exact LeO.none _)
  | (with_reducible refine LeO.ite ?_ ?_)
  | (with_reducible refine LeO.bind ?_ (fun _ => ?_))
  | exact ih0 _ _ _
  | exact LeO.none _
  | refine LeO.ite ?_ ?_
  | refine LeO.bind ?_ (fun _ => ?_)
set_option maxHeartbeats 8000000 in
set_option maxRecDepth 100000 in
theorem coraclelaw17_mades.calls (k : Nat) (A0 : Option Addr) (c0 : Nat) (l0 : List (S42)) (r : List (S38)) (w : World) (hr0 : Kd.C k42 w A0 l0.length l0) (hc0 : l0.length ≤ c0) (h : coraclelaw17_mades.f k l0 = some r) :
 Calls Tryz.prog 7 #[.slice A0 l0.length c0] w fun e w' => ∃ v0_ : Value, e = .returned (v0_) ∧ Kd.R k38 38 w' w.heap.size (fun _ => True) v0_ r ∧ Below w.heap.size w w' := by
 have hu42 := Tryz.underlying42
 have HR0 := Ak hr0
 have HC0 := Ak hc0
 clear hr0 hc0
 have HB := Ak (Below.refl w.heap.size w)
 have H : (coraclelaw17_mades.l0 k l0 ([] : List (S38)) 0) = some r := h
 clear h
 have H' := Ak H
 clear H
 go_enter Tryz.func7, Tryz.ntmps7
 go_wp2
 go_loopg [3, 4] k (fun kq v3 v4 w' => ∃ (x3_1 : List (S38)) (x4_1 : Int), v4 = .int .i64 x4_1 ∧ Aside0 (coraclelaw17_mades.l0 kq l0 x3_1 x4_1 = some r) ∧ Aside0 (kq ≤ k) ∧ Aside0 (Kd.R k38 38 w' w.heap.size (fun _ => True) v3 x3_1) ∧ Aside0 (Below w.heap.size w w'))
 case atStart => exact ⟨(([] : List (S38))), (0), (by first | rfl | (simp; done) | (simp [*]; done)), H', ⟨Nat.le_refl _⟩, ⟨by first | exact Kd.R_nil _ _ _ _ _ | exact Kd.N_nil _ _ _ _ _ | exact Kd.V_nil _ _ _ _ _ | exact Kd.Q_nil _ _ _ _ _ | exact Kd.S_nil _ _ _ _ _⟩, ⟨by repeat (first | (with_reducible first | exact HB.1 | apply below_alloc | apply pw_below_drewN | apply below_drew1) | exact HB.1)⟩⟩
 case round =>
  clear H'
  obtain ⟨x3_1, x4_1, rfl, HA, HK1, HO_3, HB⟩ := hrel
  cases gk with
  | zero => exact absurd HA.out (by simp [coraclelaw17_mades.l0])
  | succ k1 =>
   have H := HA.out
   clear HA
   simp only [coraclelaw17_mades.l0] at H
   by_cases c2 : x4_1 < (l0.length : Int)
   ·rw [if_pos c2] at H
    have c2b0 : decide (x4_1 < (l0.length : Int)) = true := decide_eq_true c2
    clear c2
    by_cases c3 : 0 ≤ x4_1
    ·rw [if_pos c3] at H
     have c3b0 : decide (0 ≤ x4_1) = true := decide_eq_true c3
     clear c3
     replace H := Option.bind_eq_some_iff.mp H
     obtain ⟨⟨t117, t118, t119, t120, t121, t122, t123, t124, t125, t126, t127, t128, t129, t130, t131, t132, t133, t134, t135, t136, t137, t138, t139, t140, t141, t142, t143, t144, t145, t146, t147, t148, t149, t150, t151, t152, t153, t154, t155, t156, t157, t158, t159, t160⟩, A40, H⟩ := H
     replace H : (if x3_1.length < 1034834473200 then (coraclelaw17_mades.l0 k1 l0 (x3_1 ++ [(⟨(⟨(⟨t117, t118, t119, t120, t121, t122, t123, t124, t125, t126, t127, t128, t129, t130, t131, t132, t133, t134, t135, t136, t137, t138, t139, t140, t141, t142, t143, t144, t145, t146, t147, t148⟩ : S30), t149⟩ : S32), t150, (⟨(⟨t151, t152, t153⟩ : S34), t154, t155, t156⟩ : S36), t157, t158, t159, t160⟩ : S38)]) (wrap64 (x4_1 + 1))) else (none)) = some r := H
     have A4 := Ak A40
     clear A40
     by_cases c5 : x3_1.length < 1034834473200
     ·rw [if_pos c5] at H
      have LMc5 := Ak c5
      clear c5
      obtain ⟨y161, hy161⟩ : ∃ y_ : List (S38), y_ = (x3_1 ++ [(⟨(⟨(⟨t117, t118, t119, t120, t121, t122, t123, t124, t125, t126, t127, t128, t129, t130, t131, t132, t133, t134, t135, t136, t137, t138, t139, t140, t141, t142, t143, t144, t145, t146, t147, t148⟩ : S30), t149⟩ : S32), t150, (⟨(⟨t151, t152, t153⟩ : S34), t154, t155, t156⟩ : S36), t157, t158, t159, t160⟩ : S38)]) := ⟨_, rfl⟩
      replace H : (coraclelaw17_mades.l0 k1 l0 y161 (wrap64 (x4_1 + 1))) = some r := by first | (rw [hy161]; with_reducible exact H) | (have H2_ := (Option.bind_some _ _).symm.trans H; rw [hy161]; with_reducible exact H2_) | (have H2_ := (Option.bind_some _ _).symm.trans H; with_reducible exact H2_) | with_reducible exact H | (rw [hy161]; exact H) | exact H
      have Ny161 := Ak hy161
      clear hy161
      have H' := Ak H
      clear H
      have p116 : 0 ≤ (x4_1 : Int) := of_decide_eq_true (by first | (with_reducible assumption) | assumption)
      have q116 : x4_1 < (l0.length : Int) := of_decide_eq_true (by first | (with_reducible assumption) | assumption)
      obtain ⟨ad116, e116, hx116_0, hx116_1, hx116_2, hx116_3, hx116_4, hx116_5, hx116_6, hx116_7, hx116_8, hx116_9, hx116_10, hx116_11, hx116_12, hx116_13, hx116_14, hx116_15, hx116_16, hx116_17, hx116_18, hx116_19, hx116_20, hx116_21, hx116_22, hx116_23, hx116_24, hx116_25, hx116_26, hx116_27, hx116_28, hx116_29, hx116_30, hx116_31, hx116_32, hx116_33, hx116_34, hx116_35, hx116_36, hx116_37, hx116_38, hx116_39, hx116_40, hx116_41, hx116_42, hx116_43⟩ := at_T42 HR0.1 x4_1 p116 q116
      cases e116
      replace hx116_0 := (HB.1.cell (World.block_lt_of_cell? w _ hx116_0)).trans hx116_0
      replace hx116_1 := (HB.1.cell (World.block_lt_of_cell? w _ hx116_1)).trans hx116_1
      replace hx116_2 := (HB.1.cell (World.block_lt_of_cell? w _ hx116_2)).trans hx116_2
      replace hx116_3 := (HB.1.cell (World.block_lt_of_cell? w _ hx116_3)).trans hx116_3
      replace hx116_4 := (HB.1.cell (World.block_lt_of_cell? w _ hx116_4)).trans hx116_4
      replace hx116_5 := (HB.1.cell (World.block_lt_of_cell? w _ hx116_5)).trans hx116_5
      replace hx116_6 := (HB.1.cell (World.block_lt_of_cell? w _ hx116_6)).trans hx116_6
      replace hx116_7 := (HB.1.cell (World.block_lt_of_cell? w _ hx116_7)).trans hx116_7
      replace hx116_8 := (HB.1.cell (World.block_lt_of_cell? w _ hx116_8)).trans hx116_8
      replace hx116_9 := (HB.1.cell (World.block_lt_of_cell? w _ hx116_9)).trans hx116_9
      replace hx116_10 := (HB.1.cell (World.block_lt_of_cell? w _ hx116_10)).trans hx116_10
      replace hx116_11 := (HB.1.cell (World.block_lt_of_cell? w _ hx116_11)).trans hx116_11
      replace hx116_12 := (HB.1.cell (World.block_lt_of_cell? w _ hx116_12)).trans hx116_12
      replace hx116_13 := (HB.1.cell (World.block_lt_of_cell? w _ hx116_13)).trans hx116_13
      replace hx116_14 := (HB.1.cell (World.block_lt_of_cell? w _ hx116_14)).trans hx116_14
      replace hx116_15 := (HB.1.cell (World.block_lt_of_cell? w _ hx116_15)).trans hx116_15
      replace hx116_16 := (HB.1.cell (World.block_lt_of_cell? w _ hx116_16)).trans hx116_16
      replace hx116_17 := (HB.1.cell (World.block_lt_of_cell? w _ hx116_17)).trans hx116_17
      replace hx116_18 := (HB.1.cell (World.block_lt_of_cell? w _ hx116_18)).trans hx116_18
      replace hx116_19 := (HB.1.cell (World.block_lt_of_cell? w _ hx116_19)).trans hx116_19
      replace hx116_20 := (HB.1.cell (World.block_lt_of_cell? w _ hx116_20)).trans hx116_20
      replace hx116_21 := (HB.1.cell (World.block_lt_of_cell? w _ hx116_21)).trans hx116_21
      replace hx116_22 := (HB.1.cell (World.block_lt_of_cell? w _ hx116_22)).trans hx116_22
      replace hx116_23 := (HB.1.cell (World.block_lt_of_cell? w _ hx116_23)).trans hx116_23
      replace hx116_24 := (HB.1.cell (World.block_lt_of_cell? w _ hx116_24)).trans hx116_24
      replace hx116_25 := (HB.1.cell (World.block_lt_of_cell? w _ hx116_25)).trans hx116_25
      replace hx116_26 := (HB.1.cell (World.block_lt_of_cell? w _ hx116_26)).trans hx116_26
      replace hx116_27 := (HB.1.cell (World.block_lt_of_cell? w _ hx116_27)).trans hx116_27
      replace hx116_28 := (HB.1.cell (World.block_lt_of_cell? w _ hx116_28)).trans hx116_28
      replace hx116_29 := (HB.1.cell (World.block_lt_of_cell? w _ hx116_29)).trans hx116_29
      replace hx116_30 := (HB.1.cell (World.block_lt_of_cell? w _ hx116_30)).trans hx116_30
      replace hx116_31 := (HB.1.cell (World.block_lt_of_cell? w _ hx116_31)).trans hx116_31
      replace hx116_32 := (HB.1.cell (World.block_lt_of_cell? w _ hx116_32)).trans hx116_32
      replace hx116_33 := (HB.1.cell (World.block_lt_of_cell? w _ hx116_33)).trans hx116_33
      replace hx116_34 := (HB.1.cell (World.block_lt_of_cell? w _ hx116_34)).trans hx116_34
      replace hx116_35 := (HB.1.cell (World.block_lt_of_cell? w _ hx116_35)).trans hx116_35
      replace hx116_36 := (HB.1.cell (World.block_lt_of_cell? w _ hx116_36)).trans hx116_36
      replace hx116_37 := (HB.1.cell (World.block_lt_of_cell? w _ hx116_37)).trans hx116_37
      replace hx116_38 := (HB.1.cell (World.block_lt_of_cell? w _ hx116_38)).trans hx116_38
      replace hx116_39 := (HB.1.cell (World.block_lt_of_cell? w _ hx116_39)).trans hx116_39
      replace hx116_40 := (HB.1.cell (World.block_lt_of_cell? w _ hx116_40)).trans hx116_40
      replace hx116_41 := (HB.1.cell (World.block_lt_of_cell? w _ hx116_41)).trans hx116_41
      replace hx116_42 := (HB.1.cell (World.block_lt_of_cell? w _ hx116_42)).trans hx116_42
      replace hx116_43 := (HB.1.cell (World.block_lt_of_cell? w _ hx116_43)).trans hx116_43
      replace p116 := eq_true p116
      replace q116 := eq_true q116
      have hw116_0_32 := Wide.mk32 hx116_0 hx116_1 hx116_2 hx116_3 hx116_4 hx116_5 hx116_6 hx116_7 hx116_8 hx116_9 hx116_10 hx116_11 hx116_12 hx116_13 hx116_14 hx116_15 hx116_16 hx116_17 hx116_18 hx116_19 hx116_20 hx116_21 hx116_22 hx116_23 hx116_24 hx116_25 hx116_26 hx116_27 hx116_28 hx116_29 hx116_30 hx116_31
      have hw116_0_33 := Wide.mk33 hx116_0 hx116_1 hx116_2 hx116_3 hx116_4 hx116_5 hx116_6 hx116_7 hx116_8 hx116_9 hx116_10 hx116_11 hx116_12 hx116_13 hx116_14 hx116_15 hx116_16 hx116_17 hx116_18 hx116_19 hx116_20 hx116_21 hx116_22 hx116_23 hx116_24 hx116_25 hx116_26 hx116_27 hx116_28 hx116_29 hx116_30 hx116_31 hx116_32
      have hw116_0_44 := Wide.mk44 hx116_0 hx116_1 hx116_2 hx116_3 hx116_4 hx116_5 hx116_6 hx116_7 hx116_8 hx116_9 hx116_10 hx116_11 hx116_12 hx116_13 hx116_14 hx116_15 hx116_16 hx116_17 hx116_18 hx116_19 hx116_20 hx116_21 hx116_22 hx116_23 hx116_24 hx116_25 hx116_26 hx116_27 hx116_28 hx116_29 hx116_30 hx116_31 hx116_32 hx116_33 hx116_34 hx116_35 hx116_36 hx116_37 hx116_38 hx116_39 hx116_40 hx116_41 hx116_42 hx116_43
      go_wp2_with (first | ((with_reducible refine gate_callee (f := 22) rfl ?_); refine goesL_ (some 16) rfl rfl Tryz.func22 (by kernel_rfl) rfl #[.agg #[.int .u8 ((rd_T42 l0 x4_1).f0.f0.f0), .int .u8 ((rd_T42 l0 x4_1).f0.f0.f1), .int .u8 ((rd_T42 l0 x4_1).f0.f0.f2), .int .u8 ((rd_T42 l0 x4_1).f0.f0.f3), .int .u8 ((rd_T42 l0 x4_1).f0.f0.f4), .int .u8 ((rd_T42 l0 x4_1).f0.f0.f5), .int .u8 ((rd_T42 l0 x4_1).f0.f0.f6), .int .u8 ((rd_T42 l0 x4_1).f0.f0.f7), .int .u8 ((rd_T42 l0 x4_1).f0.f0.f8), .int .u8 ((rd_T42 l0 x4_1).f0.f0.f9), .int .u8 ((rd_T42 l0 x4_1).f0.f0.f10), .int .u8 ((rd_T42 l0 x4_1).f0.f0.f11), .int .u8 ((rd_T42 l0 x4_1).f0.f0.f12), .int .u8 ((rd_T42 l0 x4_1).f0.f0.f13), .int .u8 ((rd_T42 l0 x4_1).f0.f0.f14), .int .u8 ((rd_T42 l0 x4_1).f0.f0.f15), .int .u8 ((rd_T42 l0 x4_1).f0.f0.f16), .int .u8 ((rd_T42 l0 x4_1).f0.f0.f17), .int .u8 ((rd_T42 l0 x4_1).f0.f0.f18), .int .u8 ((rd_T42 l0 x4_1).f0.f0.f19), .int .u8 ((rd_T42 l0 x4_1).f0.f0.f20), .int .u8 ((rd_T42 l0 x4_1).f0.f0.f21), .int .u8 ((rd_T42 l0 x4_1).f0.f0.f22), .int .u8 ((rd_T42 l0 x4_1).f0.f0.f23), .int .u8 ((rd_T42 l0 x4_1).f0.f0.f24), .int .u8 ((rd_T42 l0 x4_1).f0.f0.f25), .int .u8 ((rd_T42 l0 x4_1).f0.f0.f26), .int .u8 ((rd_T42 l0 x4_1).f0.f0.f27), .int .u8 ((rd_T42 l0 x4_1).f0.f0.f28), .int .u8 ((rd_T42 l0 x4_1).f0.f0.f29), .int .u8 ((rd_T42 l0 x4_1).f0.f0.f30), .int .u8 ((rd_T42 l0 x4_1).f0.f0.f31), .int .i64 ((rd_T42 l0 x4_1).f0.f1), .int .i64 ((rd_T42 l0 x4_1).f1), .int .i64 ((rd_T42 l0 x4_1).f2.f0.f0), .int .i64 ((rd_T42 l0 x4_1).f2.f0.f1), .string ((rd_T42 l0 x4_1).f2.f0.f2), .int .i64 ((rd_T42 l0 x4_1).f2.f1), .int .i64 ((rd_T42 l0 x4_1).f2.f2), .int .i64 ((rd_T42 l0 x4_1).f2.f3), .int .i64 ((rd_T42 l0 x4_1).f3), .int .i64 ((rd_T42 l0 x4_1).f4), .int .i64 ((rd_T42 l0 x4_1).f5), .int .i64 ((rd_T42 l0 x4_1).f6)]] rfl (by (try simp only [lm_, lc_, ln_]); first | done | rfl | (simp only [List.length_drop, List.length_take]; rfl)) ?_; (with_reducible refine (coraclelaw17_made.calls ((rd_T42 l0 x4_1).f0.f0.f0) ((rd_T42 l0 x4_1).f0.f0.f1) ((rd_T42 l0 x4_1).f0.f0.f2) ((rd_T42 l0 x4_1).f0.f0.f3) ((rd_T42 l0 x4_1).f0.f0.f4) ((rd_T42 l0 x4_1).f0.f0.f5) ((rd_T42 l0 x4_1).f0.f0.f6) ((rd_T42 l0 x4_1).f0.f0.f7) ((rd_T42 l0 x4_1).f0.f0.f8) ((rd_T42 l0 x4_1).f0.f0.f9) ((rd_T42 l0 x4_1).f0.f0.f10) ((rd_T42 l0 x4_1).f0.f0.f11) ((rd_T42 l0 x4_1).f0.f0.f12) ((rd_T42 l0 x4_1).f0.f0.f13) ((rd_T42 l0 x4_1).f0.f0.f14) ((rd_T42 l0 x4_1).f0.f0.f15) ((rd_T42 l0 x4_1).f0.f0.f16) ((rd_T42 l0 x4_1).f0.f0.f17) ((rd_T42 l0 x4_1).f0.f0.f18) ((rd_T42 l0 x4_1).f0.f0.f19) ((rd_T42 l0 x4_1).f0.f0.f20) ((rd_T42 l0 x4_1).f0.f0.f21) ((rd_T42 l0 x4_1).f0.f0.f22) ((rd_T42 l0 x4_1).f0.f0.f23) ((rd_T42 l0 x4_1).f0.f0.f24) ((rd_T42 l0 x4_1).f0.f0.f25) ((rd_T42 l0 x4_1).f0.f0.f26) ((rd_T42 l0 x4_1).f0.f0.f27) ((rd_T42 l0 x4_1).f0.f0.f28) ((rd_T42 l0 x4_1).f0.f0.f29) ((rd_T42 l0 x4_1).f0.f0.f30) ((rd_T42 l0 x4_1).f0.f0.f31) ((rd_T42 l0 x4_1).f0.f1) ((rd_T42 l0 x4_1).f1) ((rd_T42 l0 x4_1).f2.f0.f0) ((rd_T42 l0 x4_1).f2.f0.f1) ((rd_T42 l0 x4_1).f2.f0.f2) ((rd_T42 l0 x4_1).f2.f1) ((rd_T42 l0 x4_1).f2.f2) ((rd_T42 l0 x4_1).f2.f3) ((rd_T42 l0 x4_1).f3) ((rd_T42 l0 x4_1).f4) ((rd_T42 l0 x4_1).f5) ((rd_T42 l0 x4_1).f6) t117 t118 t119 t120 t121 t122 t123 t124 t125 t126 t127 t128 t129 t130 t131 t132 t133 t134 t135 t136 t137 t138 t139 t140 t141 t142 t143 t144 t145 t146 t147 t148 t149 t150 t151 t152 t153 t154 t155 t156 t157 t158 t159 t160 _ A4.1).mono ?_); rintro e w6 ⟨rfl, hb⟩; refine ⟨_, rfl, ?_⟩; replace HO_3 := Ak (Kd.R_below (by (with_reducible repeat (first | apply Kd.R_alloc | apply Kd.R_drewN | apply Kd.R_drew)); exact HO_3.1) hb); replace HB := Ak (below_step (by repeat (first | (with_reducible first | exact HB.1 | apply below_alloc | apply pw_below_drewN | apply below_drew1) | exact HB.1)) hb); (try clear hb); (try clear hb2); (try clear hk); (try clear hi)) | ((with_reducible refine gate_builtin (b := .append) (xs := #[.tmp 11, .tmp 17]) rfl ?_); at_builtin; refine Kd.R_append k38 (w0 := w) w.heap.size rfl (.tmp 11) (.tmp 17) 25 38 (.agg #[(.int .u8 0), (.int .u8 0), (.int .u8 0), (.int .u8 0), (.int .u8 0), (.int .u8 0), (.int .u8 0), (.int .u8 0), (.int .u8 0), (.int .u8 0), (.int .u8 0), (.int .u8 0), (.int .u8 0), (.int .u8 0), (.int .u8 0), (.int .u8 0), (.int .u8 0), (.int .u8 0), (.int .u8 0), (.int .u8 0), (.int .u8 0), (.int .u8 0), (.int .u8 0), (.int .u8 0), (.int .u8 0), (.int .u8 0), (.int .u8 0), (.int .u8 0), (.int .u8 0), (.int .u8 0), (.int .u8 0), (.int .u8 0), (.int .i64 0), (.int .i64 0), (.int .i64 0), (.int .i64 0), (.string ⟨#[]⟩), (.int .i64 0), (.int .i64 0), (.int .i64 0), (.int .i64 0), (.int .i64 0), (.int .i64 0), (.int .i64 0)]) 136 rfl Tryz.underlying25 info38 rfl (by decide) (by omega) u3 x3_1 (⟨(⟨(⟨t117, t118, t119, t120, t121, t122, t123, t124, t125, t126, t127, t128, t129, t130, t131, t132, t133, t134, t135, t136, t137, t138, t139, t140, t141, t142, t143, t144, t145, t146, t147, t148⟩ : S30), t149⟩ : S32), t150, (⟨(⟨t151, t152, t153⟩ : S34), t154, t155, t156⟩ : S36), t157, t158, t159, t160⟩ : S38) (.int .u8 t117 :: .int .u8 t118 :: .int .u8 t119 :: .int .u8 t120 :: .int .u8 t121 :: .int .u8 t122 :: .int .u8 t123 :: .int .u8 t124 :: .int .u8 t125 :: .int .u8 t126 :: .int .u8 t127 :: .int .u8 t128 :: .int .u8 t129 :: .int .u8 t130 :: .int .u8 t131 :: .int .u8 t132 :: .int .u8 t133 :: .int .u8 t134 :: .int .u8 t135 :: .int .u8 t136 :: .int .u8 t137 :: .int .u8 t138 :: .int .u8 t139 :: .int .u8 t140 :: .int .u8 t141 :: .int .u8 t142 :: .int .u8 t143 :: .int .u8 t144 :: .int .u8 t145 :: .int .u8 t146 :: .int .u8 t147 :: .int .u8 t148 :: .int .i64 t149 :: .int .i64 t150 :: .int .i64 t151 :: .int .i64 t152 :: .string t153 :: .int .i64 t154 :: .int .i64 t155 :: .int .i64 t156 :: .int .i64 t157 :: .int .i64 t158 :: .int .i64 t159 :: .int .i64 t160 :: []) (fun _ => True) (fun _ => False) rfl rfl ?aP (fun _ hk => hk.elim) ?aF ?aO ?aB ?aS ?aL ?_; (case aP => exact k38_mkM _ _ _ (⟨(⟨(⟨t117, t118, t119, t120, t121, t122, t123, t124, t125, t126, t127, t128, t129, t130, t131, t132, t133, t134, t135, t136, t137, t138, t139, t140, t141, t142, t143, t144, t145, t146, t147, t148⟩ : S30), t149⟩ : S32), t150, (⟨(⟨t151, t152, t153⟩ : S34), t154, t155, t156⟩ : S36), t157, t158, t159, t160⟩ : S38)); (case aB => exact (by repeat (first | (with_reducible first | exact HB.1 | apply below_alloc | apply pw_below_drewN | apply below_drew1) | exact HB.1))); (case aF => exact (fun _ _ => trivial)); (case aO => exact (by (with_reducible repeat (first | apply Kd.R_alloc | apply Kd.R_drewN | apply Kd.R_drew)); exact HO_3.1)); (case aS => exact (below_size (by repeat (first | (with_reducible first | exact HB.1 | apply below_alloc | apply pw_below_drewN | apply below_drew1) | exact HB.1)))); (case aL => have := LMc5.1; omega); intro v162 w7 ho hb hg hat; rw [← Ny161.1] at ho; have HO163 := Ak (ho); replace HB := Ak (hb); clear HO_3; clear ho hb hg hat))
      go_roundg k1
      case measure => have := HK1.out; omega
      case rel => exact ⟨(y161), (wrap64 (x4_1 + 1)), (by first | rfl | (simp; done) | (simp [*]; done)), H', ⟨by have := HK1.out; omega⟩, ⟨by (with_reducible repeat (first | apply Kd.R_alloc | apply Kd.R_drewN | apply Kd.R_drew)); exact HO163.1⟩, ⟨by repeat (first | (with_reducible first | exact HB.1 | apply below_alloc | apply pw_below_drewN | apply below_drew1) | exact HB.1)⟩⟩
     ·rw [if_neg c5] at H
      exact absurd H (by simp)
    ·rw [if_neg c3] at H
     exact absurd H (by simp)
   ·rw [if_neg c2] at H
    have c2b0 : decide (x4_1 < (l0.length : Int)) = false := decide_eq_false c2
    clear c2
    obtain rfl := Option.some.inj H
    go_wp2
    go_ret
    exact ⟨_, by first | rfl | (simp [errW_none, errW_some] <;> rfl) | (simp [*, errW_none, errW_some] <;> rfl), by (with_reducible repeat (first | apply Kd.R_alloc | apply Kd.R_drewN | apply Kd.R_drew)); exact HO_3.1, by repeat (first | (with_reducible first | exact HB.1 | apply below_alloc | apply pw_below_drewN | apply below_drew1) | exact HB.1)⟩
mutual
def coraclelaw17_few.l0 : Nat → List (S42) → Int → Option (Bool)
 | 0, _, _ => none
 | k + 1, x0, x3 => if x3 < (x0.length : Int) then (coraclelaw17_few.j1 k x0 x3 (decide (x3 < 60))) else (coraclelaw17_few.j1 k x0 x3 false)
def coraclelaw17_few.j1 : Nat → List (S42) → Int → Bool → Option (Bool)
 | 0, _, _, _ => none
 | k + 1, x0, x3, x11 => if x11 = true then (if 0 ≤ x3 then (if x3 < (x0.length : Int) then (if (((rd_T42 x0 x3).f2.f0.f2).size : Int) > 100 then (some false) else (coraclelaw17_few.l0 k x0 (wrap64 (x3 + 1)))) else (none)) else (none)) else (some (decide ((x0.length : Int) ≤ 40)))
end
def coraclelaw17_few.f (k : Nat) (l0 : List (S42)) : Option (Bool) := coraclelaw17_few.l0 k l0 0
set_option maxHeartbeats 8000000 in
set_option maxRecDepth 100000 in
theorem coraclelaw17_few.calls (k : Nat) (A0 : Option Addr) (c0 : Nat) (l0 : List (S42)) (r : Bool) (w : World) (hr0 : Kd.C k42 w A0 l0.length l0) (hc0 : l0.length ≤ c0) (h : coraclelaw17_few.f k l0 = some r) :
 Calls Tryz.prog 5 #[.slice A0 l0.length c0] w fun e w' => e = .returned (.bool r) ∧ Drawn0 w w' := by
 have HR0 := Ak hr0
 have HC0 := Ak hc0
 clear hr0 hc0
 have H : (coraclelaw17_few.l0 k l0 0) = some r := h
 clear h
 have H' := Ak H
 clear H
 go_enter Tryz.func5, Tryz.ntmps5
 go_wp2
 go_loopg [3] k (fun kq v3 w' => ∃ (x3_1 : Int), v3 = .int .i64 x3_1 ∧ Aside0 (coraclelaw17_few.l0 kq l0 x3_1 = some r) ∧ Aside0 (kq ≤ k) ∧ Drawn0 w w')
 case atStart => exact ⟨(0), (by first | rfl | (simp; done) | (simp [*]; done)), H', ⟨Nat.le_refl _⟩, by repeat (first | exact Drawn0.refl _ | apply Drawn0.step)⟩
 case round =>
  clear H'
  obtain ⟨x3_1, rfl, HA, HK1, ⟨m1, rfl⟩⟩ := hrel
  cases gk with
  | zero => exact absurd HA.out (by simp [coraclelaw17_few.l0])
  | succ k1 =>
   have H := HA.out
   clear HA
   simp only [coraclelaw17_few.l0] at H
   have HC2 := Ak H
   clear H
   go_upto_region 2 with (fail)
   go_cut [11] (fun v11 wc => ∃ (kq : Nat) (x11_1 : Bool), v11 = .bool x11_1 ∧ Aside0 (coraclelaw17_few.j1 kq l0 x3_1 x11_1 = some r) ∧ Aside0 (kq ≤ k1) ∧ Drawn0 w wc)
   case first =>
    have H := HC2.1
    clear HC2
    by_cases c3 : x3_1 < (l0.length : Int)
    ·rw [if_pos c3] at H
     have c3b0 : decide (x3_1 < (l0.length : Int)) = true := decide_eq_true c3
     clear c3
     (first | rw [c3b0] | (simp only [i64_w, i32_w]; rw [c3b0]) | skip)
     have H' := Ak H
     clear H
     go_wp2
     go_meet
     case rel => exact ⟨_, (decide (x3_1 < 60)), (by first | rfl | (simp; done) | (simp [*]; done)), H', ⟨by have := HK1.out; first | omega | exact Nat.le_refl _⟩, by repeat (first | exact Drawn0.refl _ | apply Drawn0.step)⟩
    ·rw [if_neg c3] at H
     have c3b0 : decide (x3_1 < (l0.length : Int)) = false := decide_eq_false c3
     clear c3
     (first | rw [c3b0] | (simp only [i64_w, i32_w]; rw [c3b0]) | skip)
     have H' := Ak H
     clear H
     go_wp2
     go_meet
     case rel => exact ⟨_, (false), (by first | rfl | (simp; done) | (simp [*]; done)), H', ⟨by have := HK1.out; first | omega | exact Nat.le_refl _⟩, by repeat (first | exact Drawn0.refl _ | apply Drawn0.step)⟩
   case rest =>
    clear HC2
    try clear p2
    try clear c3
    try clear c3b0
    obtain ⟨kq, x11_1, rfl, HA, HJ1, ⟨mc1, rfl⟩⟩ := hcut
    cases kq with
    | zero => exact absurd HA.out (by simp [coraclelaw17_few.j1])
    | succ kj1 =>
     have H := HA.out
     clear HA
     simp only [coraclelaw17_few.j1] at H
     by_cases c4 : x11_1 = true
     ·subst c4
      have H1 : (if 0 ≤ x3_1 then (if x3_1 < (l0.length : Int) then (if (((rd_T42 l0 x3_1).f2.f0.f2).size : Int) > 100 then (some false) else (coraclelaw17_few.l0 kj1 l0 (wrap64 (x3_1 + 1)))) else (none)) else (none)) = some r := by rw [if_pos rfl] at H; exact H
      clear H
      have H := H1
      clear H1
      by_cases c5 : 0 ≤ x3_1
      ·rw [if_pos c5] at H
       have c5b0 : decide (0 ≤ x3_1) = true := decide_eq_true c5
       clear c5
       by_cases c6 : x3_1 < (l0.length : Int)
       ·rw [if_pos c6] at H
        have c6b0 : decide (x3_1 < (l0.length : Int)) = true := decide_eq_true c6
        clear c6
        by_cases c7 : (((rd_T42 l0 x3_1).f2.f0.f2).size : Int) > 100
        ·rw [if_pos c7] at H
         have c7b0 : decide (100 < (((rd_T42 l0 x3_1).f2.f0.f2).size : Int)) = true := decide_eq_true c7
         have c7b1 : decide (100 < ((rd_T42 l0 x3_1).f2.f0.f2).size) = true := decide_eq_true (by omega)
         clear c7
         obtain rfl := Option.some.inj H
         have p164 : 0 ≤ (x3_1 : Int) := of_decide_eq_true (by first | (with_reducible assumption) | assumption)
         have q164 : x3_1 < (l0.length : Int) := of_decide_eq_true (by first | (with_reducible assumption) | assumption)
         obtain ⟨ad164, e164, hx164_0, hx164_1, hx164_2, hx164_3, hx164_4, hx164_5, hx164_6, hx164_7, hx164_8, hx164_9, hx164_10, hx164_11, hx164_12, hx164_13, hx164_14, hx164_15, hx164_16, hx164_17, hx164_18, hx164_19, hx164_20, hx164_21, hx164_22, hx164_23, hx164_24, hx164_25, hx164_26, hx164_27, hx164_28, hx164_29, hx164_30, hx164_31, hx164_32, hx164_33, hx164_34, hx164_35, hx164_36, hx164_37, hx164_38, hx164_39, hx164_40, hx164_41, hx164_42, hx164_43⟩ := at_T42 HR0.1 x3_1 p164 q164
         cases e164
         replace p164 := eq_true p164
         replace q164 := eq_true q164
         have hw164_0_32 := Wide.mk32 hx164_0 hx164_1 hx164_2 hx164_3 hx164_4 hx164_5 hx164_6 hx164_7 hx164_8 hx164_9 hx164_10 hx164_11 hx164_12 hx164_13 hx164_14 hx164_15 hx164_16 hx164_17 hx164_18 hx164_19 hx164_20 hx164_21 hx164_22 hx164_23 hx164_24 hx164_25 hx164_26 hx164_27 hx164_28 hx164_29 hx164_30 hx164_31
         have hw164_0_33 := Wide.mk33 hx164_0 hx164_1 hx164_2 hx164_3 hx164_4 hx164_5 hx164_6 hx164_7 hx164_8 hx164_9 hx164_10 hx164_11 hx164_12 hx164_13 hx164_14 hx164_15 hx164_16 hx164_17 hx164_18 hx164_19 hx164_20 hx164_21 hx164_22 hx164_23 hx164_24 hx164_25 hx164_26 hx164_27 hx164_28 hx164_29 hx164_30 hx164_31 hx164_32
         have hw164_0_44 := Wide.mk44 hx164_0 hx164_1 hx164_2 hx164_3 hx164_4 hx164_5 hx164_6 hx164_7 hx164_8 hx164_9 hx164_10 hx164_11 hx164_12 hx164_13 hx164_14 hx164_15 hx164_16 hx164_17 hx164_18 hx164_19 hx164_20 hx164_21 hx164_22 hx164_23 hx164_24 hx164_25 hx164_26 hx164_27 hx164_28 hx164_29 hx164_30 hx164_31 hx164_32 hx164_33 hx164_34 hx164_35 hx164_36 hx164_37 hx164_38 hx164_39 hx164_40 hx164_41 hx164_42 hx164_43
         go_wp2
         go_ret
         exact ⟨by first | rfl | (simp; done) | (simp [*]; done), by repeat (first | exact Drawn0.refl _ | apply Drawn0.step)⟩
        ·rw [if_neg c7] at H
         have c7b0 : decide (100 < (((rd_T42 l0 x3_1).f2.f0.f2).size : Int)) = false := decide_eq_false c7
         have c7b1 : decide (100 < ((rd_T42 l0 x3_1).f2.f0.f2).size) = false := decide_eq_false (by omega)
         clear c7
         have H' := Ak H
         clear H
         have p164 : 0 ≤ (x3_1 : Int) := of_decide_eq_true (by first | (with_reducible assumption) | assumption)
         have q164 : x3_1 < (l0.length : Int) := of_decide_eq_true (by first | (with_reducible assumption) | assumption)
         obtain ⟨ad164, e164, hx164_0, hx164_1, hx164_2, hx164_3, hx164_4, hx164_5, hx164_6, hx164_7, hx164_8, hx164_9, hx164_10, hx164_11, hx164_12, hx164_13, hx164_14, hx164_15, hx164_16, hx164_17, hx164_18, hx164_19, hx164_20, hx164_21, hx164_22, hx164_23, hx164_24, hx164_25, hx164_26, hx164_27, hx164_28, hx164_29, hx164_30, hx164_31, hx164_32, hx164_33, hx164_34, hx164_35, hx164_36, hx164_37, hx164_38, hx164_39, hx164_40, hx164_41, hx164_42, hx164_43⟩ := at_T42 HR0.1 x3_1 p164 q164
         cases e164
         replace p164 := eq_true p164
         replace q164 := eq_true q164
         have hw164_0_32 := Wide.mk32 hx164_0 hx164_1 hx164_2 hx164_3 hx164_4 hx164_5 hx164_6 hx164_7 hx164_8 hx164_9 hx164_10 hx164_11 hx164_12 hx164_13 hx164_14 hx164_15 hx164_16 hx164_17 hx164_18 hx164_19 hx164_20 hx164_21 hx164_22 hx164_23 hx164_24 hx164_25 hx164_26 hx164_27 hx164_28 hx164_29 hx164_30 hx164_31
         have hw164_0_33 := Wide.mk33 hx164_0 hx164_1 hx164_2 hx164_3 hx164_4 hx164_5 hx164_6 hx164_7 hx164_8 hx164_9 hx164_10 hx164_11 hx164_12 hx164_13 hx164_14 hx164_15 hx164_16 hx164_17 hx164_18 hx164_19 hx164_20 hx164_21 hx164_22 hx164_23 hx164_24 hx164_25 hx164_26 hx164_27 hx164_28 hx164_29 hx164_30 hx164_31 hx164_32
         have hw164_0_44 := Wide.mk44 hx164_0 hx164_1 hx164_2 hx164_3 hx164_4 hx164_5 hx164_6 hx164_7 hx164_8 hx164_9 hx164_10 hx164_11 hx164_12 hx164_13 hx164_14 hx164_15 hx164_16 hx164_17 hx164_18 hx164_19 hx164_20 hx164_21 hx164_22 hx164_23 hx164_24 hx164_25 hx164_26 hx164_27 hx164_28 hx164_29 hx164_30 hx164_31 hx164_32 hx164_33 hx164_34 hx164_35 hx164_36 hx164_37 hx164_38 hx164_39 hx164_40 hx164_41 hx164_42 hx164_43
         go_wp2
         go_roundg kj1
         case measure => have := HK1.out; have := HJ1.out; omega
         case rel => exact ⟨(wrap64 (x3_1 + 1)), (by first | rfl | (simp; done) | (simp [*]; done)), H', ⟨by have := HK1.out; have := HJ1.out; omega⟩, by repeat (first | exact Drawn0.refl _ | apply Drawn0.step)⟩
       ·rw [if_neg c6] at H
        exact absurd H (by simp)
      ·rw [if_neg c5] at H
       exact absurd H (by simp)
     ·replace c4 := Bool.eq_false_iff.mpr c4
      subst c4
      have H1 : (some (decide ((l0.length : Int) ≤ 40))) = some r := by rw [if_neg (show ¬ (false = true) by decide)] at H; exact H
      clear H
      have H := H1
      clear H1
      obtain rfl := Option.some.inj H
      go_wp2
      go_ret
      exact ⟨by first | rfl | (simp; done) | (simp [*]; done), by repeat (first | exact Drawn0.refl _ | apply Drawn0.step)⟩
def coraclelaw17_one.f (a0 a1 a2 : Int) : Option (Int × Int × Int × Int × Int × Int × Int × Int × Int × Int × Int × Int × Int × Int × Int × Int × Int × Int × Int × Int × Int × Int × Int × Int × Int × Int × Int × Int × Int × Int × Int × Int × Int × Int × Int × Int × ByteArray × Int × Int × Int × Int × Int × Int × Int) := some (0, 0, 0, 0, 0, 0, 0, 0, 0, 0, 0, 0, 0, 0, 0, 0, 0, 0, 0, 0, 0, 0, 0, 0, 0, 0, 0, 0, 0, 0, 0, 0, a0, a1, 1, 2, (⟨#[]⟩ : ByteArray), 0, 0, 0, 0, 0, 10, a2)
def coracleref1_Money.f (a0 : Int) : Option (Bool) := if a0 ≥ 0 then (some (decide (a0 ≤ 2100000000000000))) else (some false)
def coracleref1_Fee.j0 : Nat → Int → Int → Bool → Option (Int × Int)
 | 0, _, _, _ => none
 | k + 1, x0, x1, x21 => if x21 = true then (some (0, 11)) else (if (Int.tmod (wrap64 (x0 * x1)) 1000) > 0 then ((coracleref1_Money.f (wrap64 ((wrap64 (Int.tdiv (wrap64 (x0 * x1)) 1000)) + 1))).bind fun t167 => (if t167 = true then (some (wrap64 ((wrap64 (Int.tdiv (wrap64 (x0 * x1)) 1000)) + 1), 0)) else (some (0, 11)))) else ((coracleref1_Money.f (wrap64 (Int.tdiv (wrap64 (x0 * x1)) 1000))).bind fun t168 => (if t168 = true then (some (wrap64 (Int.tdiv (wrap64 (x0 * x1)) 1000), 0)) else (some (0, 11)))))
def coracleref1_Fee.f (k : Nat) (a0 a1 : Int) : Option (Int × Int) := if a0 < 0 then (coracleref1_Fee.j0 k a0 a1 true) else (if a0 > 4000000 then (coracleref1_Fee.j0 k a0 a1 true) else (if a1 < 0 then (coracleref1_Fee.j0 k a0 a1 true) else (coracleref1_Fee.j0 k a0 a1 (decide (a1 > 1000000000)))))
theorem coracleref1_Fee.mono_l : ∀ k, (∀ y0 y1 y2, LeO (coracleref1_Fee.j0 k y0 y1 y2) (coracleref1_Fee.j0 (k + 1) y0 y1 y2))
 | 0 => fun _ _ _ r h => by simp [coracleref1_Fee.j0] at h
 | k + 1 => by
  have ih0 := coracleref1_Fee.mono_l k
  ·intro y0 y1 y2
   unfold coracleref1_Fee.j0
   repeat' first
   | (with_reducible exact ih0 _ _ _)
   | (with_reducible exact LeO.refl _)
   | (with_reducible exact LeO.none _)
   | (with_reducible refine LeO.ite ?_ ?_)
   | (with_reducible refine LeO.bind ?_ (fun _ => ?_))
   | exact ih0 _ _ _
   | exact LeO.none _
   | refine LeO.ite ?_ ?_
   | refine LeO.bind ?_ (fun _ => ?_)
theorem coracleref1_Fee.mono : ∀ a0 a1 k, LeO (coracleref1_Fee.f k a0 a1) (coracleref1_Fee.f (k + 1) a0 a1) := by
 intro a0 a1 k
 have ih0 := coracleref1_Fee.mono_l k
 unfold coracleref1_Fee.f
 repeat' first
  | (with_reducible exact ih0 _ _ _)
  | (with_reducible exact LeO.refl _)
  | (with_reducible exact LeO.none _)
  | (with_reducible refine LeO.ite ?_ ?_)
  | (with_reducible refine LeO.bind ?_ (fun _ => ?_))
  | exact ih0 _ _ _
  | exact LeO.none _
  | refine LeO.ite ?_ ?_
  | refine LeO.bind ?_ (fun _ => ?_)
end Go.Proofs.YtiodebjjbgcbhaaGreat.Hand
namespace Go.Proofs.YtiodebjjbgcbhaaGreat.Inp
open Go.RowKit Go.Sort Go.Lib Go.Shelf Go.Proofs YtiodebjjbgcbhaaGreatW.PrintWords YtiodebjjbgcbhaaGreatW.PrintLast YtiodebjjbgcbhaaGreatW.PrintMore YtiodebjjbgcbhaaGreat Hand RowK Fill OrdO QLef LefL
attribute [local go_sem ↓ high] Wide.hv44 Wide.hv33 Wide.hv37
set_option linter.unusedVariables false
set_option linter.unusedSectionVars false
set_option linter.unusedSimpArgs false
theorem cells_row {α : Type} {enc : α → List Value} {kk : Nat} (hk : ∀ x, (enc x).length = kk) {w : World} {g t : Nat} {l : List α} (hl : l.length < 1000000) (h : w.heap[g]? = some (.cells (l.flatMap enc).toArray t (0, 0))) : ReadsRow (fun x c => c = enc x) kk w (some ⟨g, 0, none⟩) l.length l := by
 refine ⟨rfl, by omega, fun _ => ⟨⟨g, 0, none⟩, rfl, fun j x hx => ⟨enc x, hk x, rfl, fun i u hu => ?_⟩⟩⟩
 have hj := (List.getElem?_eq_some_iff.1 hx).1
 have hxj := (List.getElem?_eq_some_iff.1 hx).2
 have hch := DelB.flat_chunk enc kk l (fun y _ => hk y) j hj
 rw [hxj] at hch
 have hi : i < kk := by have := (List.getElem?_eq_some_iff.1 hu).1; rwa [hk] at this
 rw [← hch, List.getElem?_take_of_lt hi, List.getElem?_drop] at hu
 rw [Addr.add_lit, Nat.zero_add]
 exact cell_of_block h _ _ hu
theorem row68 {w : World} {A : Option Addr} {n : Nat} {l : List S42} (h : ReadsRow (fun x c => c = J68.enc x) 44 w A n l) : Kd.C k42 w A n l :=
 ReadsRow.imp_ h (Below.refl _ w) (fun x c e => by subst e; exact k42_mk w x)
theorem first39 {w : World} {base : Nat} {v : Value} {b : S50} (h : Kd.R k50 50 w base (fun _ => True) v [b]) : ∃ (g c : Nat) (cells : Array Value) (A0 : Option Addr) (c0 : Nat), v = .slice (some ⟨g, 0, none⟩) 1 c ∧ w.heap[g]? = some (.cells cells 50 (0, 0)) ∧ cells[0]? = some (.slice A0 b.f0.f0.length c0) := by
 obtain ⟨A, c, rfl⟩ := Kd.R_slice h
 obtain ⟨ad, A0, c0, A1, c1, eA, hc, _⟩ := at_T50 (Kd.R_reads' h).2.2 0 (by decide) (by simp)
 subst eA
 obtain ⟨inner, ho⟩ := Kd.R_own h
 rcases ho.2 with ⟨e, _⟩ | ⟨g, cap, cur, e, _, hg, _⟩
 ·cases e
 ·injection e with e1 e2 e3
  injection e1 with e1
  subst e1
  refine ⟨g, c, cur, A0, c0, rfl, hg, ?_⟩
  have h1 := blk_cell hg 0
  rw [← h1]
  have e : rd_T50 [b] 0 = b := rfl
  rw [e] at hc
  simpa [Addr.add] using hc
def awL : List S42 := [one68 1 100000 50000, one68 2 100000 50000]
def awM : List S38 := [to90 (one68 1 100000 50000), to90 (one68 2 100000 50000)]
def awN : List S38 := [to90 (one68 1 100000 50000), to90 (one68 2 100000 50000), to90 (one68 1 100000 50000)]
theorem aw_mades : coraclelaw17_mades.f 5 awL = some awM := by kernel_rfl
theorem aw_1 : (match allC I90 awM 5 400000 1 with | ([b], e) => decide (b.f0.f0.length = 2 ∧ e = 0) | _ => false) = true := by kernel_rfl
theorem aw_2 : allC I90 awM (-1) 400000 1 = ([], 1) := by kernel_rfl
theorem aw_3 : allC I90 awN 5 400000 1 = ([], 6) := by kernel_rfl
theorem aw_4 : makeC I90 [] 300 1 = none := by kernel_rfl
theorem aw_5 : chkC I90 z38 = 1 := by kernel_rfl
theorem aw_6 : (awN.all keyB) = true := by kernel_rfl
theorem aw_7 : (awM.all keyB) = true := by kernel_rfl
theorem aw_some : ∃ b, allC I90 awM 5 400000 1 = ([b], 0) ∧ b.f0.f0.length = 2 := by
 have h := aw_1
 split at h
 ·rename_i b e heq
  have h2 := of_decide_eq_true h
  exact ⟨b, by rw [heq, h2.2], h2.1⟩
 ·cases h
set_option maxHeartbeats 16000000 in
set_option maxRecDepth 100000 in
theorem awake_calls (w : World) :
 Calls Tryz.prog 6 #[] w fun e w' => e = .returned (.bool true) ∧ Below w.heap.size w w' := by
 have hu90 := Tryz.underlying38
 have hu39 := Tryz.underlying50
 have HB := Ak (Below.refl w.heap.size w)
 obtain ⟨b, hb1, hb2⟩ := aw_some
 have BL := Ak hb2
 have CM := Ak (fun (W : World) (A : Option Addr) (hr : Kd.C k42 W A 2 awL) => coraclelaw17_mades.calls 5 A 2 awL awM W hr (Nat.le_refl _) aw_mades)
 have CA1 := Ak (fun (W : World) (A : Option Addr) (c : Nat) (hr : Kd.C k38 W A 2 awM) => (by have h := all90 (c := c) (l := awM) hr (by decide) aw_7 5 400000 1; rw [hb1] at h; exact h : Calls Tryz.prog 19 #[.slice A 2 c, .int .i64 5, .int .i64 400000, .int .i64 1] W fun e w' => AllR W e w' ([b], 0)))
 have CA2 := Ak (fun (W : World) (A : Option Addr) (c : Nat) (hr : Kd.C k38 W A 2 awM) => (by have h := all90 (c := c) (l := awM) hr (by decide) aw_7 (-1) 400000 1; rw [aw_2] at h; exact h : Calls Tryz.prog 19 #[.slice A 2 c, .int .i64 (-1), .int .i64 400000, .int .i64 1] W fun e w' => AllR W e w' ([], 1)))
 have CA3 := Ak (fun (W : World) (A : Option Addr) (c : Nat) (hr : Kd.C k38 W A 3 awN) => (by have h := all90 (c := c) (l := awN) hr (by decide) aw_6 5 400000 1; rw [aw_3] at h; exact h : Calls Tryz.prog 19 #[.slice A 3 c, .int .i64 5, .int .i64 400000, .int .i64 1] W fun e w' => AllR W e w' ([], 6)))
 have CK := Ak (fun (W : World) => (by have h := make90 (w := W) (A := none) (c := 0) (l := []) ⟨rfl, Nat.zero_le _, fun h => absurd h (Nat.lt_irrefl _)⟩ (by decide) 300 1; rw [aw_4] at h; exact h : Calls Tryz.prog 12 #[.slice none 0 0, .int .i64 300, .int .i64 1] W fun e w' => Made W e w' none))
 have CC := Ak (fun (W : World) => (by have h := checkedC I90 z38 W; rw [aw_5] at h; exact h : Calls Tryz.prog 8 #[.agg #[.int .u8 0, .int .u8 0, .int .u8 0, .int .u8 0, .int .u8 0, .int .u8 0, .int .u8 0, .int .u8 0, .int .u8 0, .int .u8 0, .int .u8 0, .int .u8 0, .int .u8 0, .int .u8 0, .int .u8 0, .int .u8 0, .int .u8 0, .int .u8 0, .int .u8 0, .int .u8 0, .int .u8 0, .int .u8 0, .int .u8 0, .int .u8 0, .int .u8 0, .int .u8 0, .int .u8 0, .int .u8 0, .int .u8 0, .int .u8 0, .int .u8 0, .int .u8 0, .int .i64 0, .int .i64 0, .int .i64 0, .int .i64 0, .string ⟨#[]⟩, .int .i64 0, .int .i64 0, .int .i64 0, .int .i64 0, .int .i64 0, .int .i64 0, .int .i64 0]] W fun e w' => e = .returned (.int .i64 1) ∧ Below W.heap.size W w'))
 clear hb1 hb2
 have HX := Ak (And.intro (J68.hk (one68 1 100000 50000)) (J68.hk (one68 2 100000 50000)))
 have O1 := Ak (one_calls' 1 100000 50000)
 have O2 := Ak (one_calls' 2 100000 50000)
 have FL := Ak (show J68.enc (one68 1 100000 50000) ++ J68.enc (one68 2 100000 50000) = awL.flatMap J68.enc by simp [awL])
 generalize J68.enc (one68 1 100000 50000) = c1 at HX O1 FL
 generalize J68.enc (one68 2 100000 50000) = c2 at HX O2 FL
 have AP := Ak (show awN = awM ++ [to90 (one68 1 100000 50000)] from rfl)
 have AT := Ak (show awM[0]? = some (to90 (one68 1 100000 50000)) from rfl)
 have I1 := Ak (show (I90.enc (to90 (one68 1 100000 50000))).length = 44 ∧ ∀ (w : World) (base : Nat) (ok : Nat → Prop), k38.M w base ok (to90 (one68 1 100000 50000)) (I90.enc (to90 (one68 1 100000 50000))) from ⟨I90.hk _, fun w base ok => k38_mkM w base ok _⟩)
 have LD := Ak (fun (W : World) (ad : Addr) (c : Nat) (hr : Kd.C k38 W (some ad) 2 awM) => (by have h := reads_at I90 (W := W) (reads90 hr) (Below.refl _ _) rfl (j := 0) (x := to90 (one68 1 100000 50000)) rfl; rwa [show ad.add (0 * 44) = ad by simp [Addr.add]] at h : Sem.run Tryz.prog (Wide.heavy0 ad 44) W = .ok (I90.enc (to90 (one68 1 100000 50000))).toArray W))
 generalize I90.enc (to90 (one68 1 100000 50000)) = cx at LD I1
 go_enter Tryz.func6, Tryz.ntmps6
 go_wp2_with (first | ((with_reducible refine gate_callee (f := 21) rfl ?_); refine goesL_ (some 10) rfl rfl Tryz.func21 (by kernel_rfl) rfl #[.int .i64 1, .int .i64 100000, .int .i64 50000] rfl (by (try simp only [lm_, lc_, ln_]); first | done | rfl) ?_; refine (O1.1 _).mono ?_; rintro e w2 ⟨rfl, hb⟩; refine ⟨_, rfl, ?_⟩; replace HB := Ak (below_step HB.1 hb); clear hb) | ((with_reducible refine gate_callee (f := 21) rfl ?_); refine goesL_ (some 11) rfl rfl Tryz.func21 (by kernel_rfl) rfl #[.int .i64 2, .int .i64 100000, .int .i64 50000] rfl (by (try simp only [lm_, lc_, ln_]); first | done | rfl) ?_; refine (O2.1 _).mono ?_; rintro e w3 ⟨rfl, hb⟩; refine ⟨_, rfl, ?_⟩; replace HB := Ak (below_step HB.1 hb); clear hb) | ((with_reducible refine gate_dst (N := 12) rfl ?_); refine Kd.event_run (v := .slice (some ⟨w3.heap.size, 0, none⟩) 2 2) (w1 := w3.alloc (.cells (c1 ++ c2).toArray 42)) ?hg ?hr ?_; (case hg => rfl); (case hr => clear O1 O2 FL; obtain ⟨q0, q1, q2, q3, q4, q5, q6, q7, q8, q9, q10, q11, q12, q13, q14, q15, q16, q17, q18, q19, q20, q21, q22, q23, q24, q25, q26, q27, q28, q29, q30, q31, q32, q33, q34, q35, q36, q37, q38, q39, q40, q41, q42, q43, rfl⟩ := list44 HX.1.1; obtain ⟨p0, p1, p2, p3, p4, p5, p6, p7, p8, p9, p10, p11, p12, p13, p14, p15, p16, p17, p18, p19, p20, p21, p22, p23, p24, p25, p26, p27, p28, p29, p30, p31, p32, p33, p34, p35, p36, p37, p38, p39, p40, p41, p42, p43, rfl⟩ := list44 HX.1.2; first | (go_simp; done) | (go_simp; rfl)); have B12 := Ak (blk_new w3 (.cells (c1 ++ c2).toArray 42)); have hb := below_alloc (Below.refl w3.heap.size w3) (.cells (c1 ++ c2).toArray 42); rw [FL.1] at B12 hb; replace HB := Ak (below_step HB.1 hb); clear hb; obtain ⟨g12, hg12⟩ : ∃ g, w3.heap.size = g := ⟨_, rfl⟩; rw [hg12] at B12 ⊢; clear hg12; rw [FL.1]; generalize w3.alloc (.cells (awL.flatMap J68.enc).toArray 42) = w4 at HB B12 ⊢; clear HX O1 O2 FL) | ((with_reducible refine gate_callee (f := 7) rfl ?_); refine goesL_ (some 13) rfl rfl Tryz.func7 (by kernel_rfl) rfl #[.slice (some ⟨g12, 0, none⟩) 2 2] rfl (by (try simp only [lm_, lc_, ln_]); first | done | rfl) ?_; refine (CM.1 _ _ (row68 (cells_row J68.hk (by decide) B12.1))).mono ?_; rintro e w5 ⟨v13, rfl, h13, hb⟩; refine ⟨_, rfl, ?_⟩; have H13 := Ak (Kd.R_lower h13 HB.1.size); clear h13 B12; obtain ⟨A13, c13, e13⟩ := Kd.R_slice H13.1; replace e13 : v13 = .slice A13 2 c13 := e13; subst e13; obtain ⟨ad, eA, _⟩ := (Kd.R_reads' H13.1).2.2.2.2 (by decide); subst eA; replace HB := Ak (below_step HB.1 hb); clear hb) | ((with_reducible refine gate_callee (f := 19) rfl ?_); refine goesL_ (some 16) rfl rfl Tryz.func19 (by kernel_rfl) rfl #[.slice (some ad) 2 c13, .int .i64 5, .int .i64 400000, .int .i64 1] rfl (by (try simp only [lm_, lc_, ln_]); first | done | rfl) ?_; refine (CA1.1 _ _ _ (Kd.R_reads' H13.1).2.2).mono ?_; rintro e w6 ⟨v16, rfl, h16, hb⟩; refine ⟨_, rfl, ?_⟩; have H16 := Ak (Kd.R_lower h16 HB.1.size); clear h16; obtain ⟨g16, c16, cs16, A0, c0, e16, hb16, hd16⟩ := first39 H16.1; subst e16; replace hd16 : cs16[0]? = some (.slice A0 2 c0) := (by rw [← BL.1]; exact hd16); have D16 := Ak hd16; clear H16 hd16; have H16 := Ak hb16; clear hb16; replace HB := Ak (below_step HB.1 hb); replace H13 := Ak (Kd.R_below H13.1 hb); clear hb) | ((with_reducible refine gate_callee (f := 19) rfl ?_); refine goesL_ (some 21) rfl rfl Tryz.func19 (by kernel_rfl) rfl #[.slice (some ad) 2 c13, .int .i64 (-1), .int .i64 400000, .int .i64 1] rfl (by (try simp only [lm_, lc_, ln_]); first | done | rfl) ?_; refine (CA2.1 _ _ _ (Kd.R_reads' H13.1).2.2).mono ?_; rintro e w7 ⟨v21, rfl, h21, hb⟩; refine ⟨_, rfl, ?_⟩; clear h21; replace HB := Ak (below_step HB.1 hb); replace H13 := Ak (Kd.R_below H13.1 hb); replace H16 := Ak (blk_below H16.1 hb); clear hb; have hl28 := LD.1 _ ad c13 (Kd.R_reads' H13.1).2.2) | ((with_reducible refine gate_dst (N := 29) rfl ?_); refine Kd.event_run (v := .slice (some ⟨w7.heap.size, 0, none⟩) 1 1) (w1 := w7.alloc (.cells cx.toArray 38)) ?hg ?hr ?_; (case hg => rfl); (case hr => clear LD hl28; obtain ⟨q0, q1, q2, q3, q4, q5, q6, q7, q8, q9, q10, q11, q12, q13, q14, q15, q16, q17, q18, q19, q20, q21, q22, q23, q24, q25, q26, q27, q28, q29, q30, q31, q32, q33, q34, q35, q36, q37, q38, q39, q40, q41, q42, q43, rfl⟩ := list44 I1.1.1; first | (go_simp; done) | (go_simp; rfl)); clear hl28 LD) | ((with_reducible refine gate_builtin (b := .append) (xs := #[.tmp 25, .tmp 29]) rfl ?_); at_builtin; refine Kd.R_append k38 (w0 := w) (W := w7) w.heap.size rfl (.tmp 25) (.tmp 29) 25 38 (.agg #[(.int .u8 0), (.int .u8 0), (.int .u8 0), (.int .u8 0), (.int .u8 0), (.int .u8 0), (.int .u8 0), (.int .u8 0), (.int .u8 0), (.int .u8 0), (.int .u8 0), (.int .u8 0), (.int .u8 0), (.int .u8 0), (.int .u8 0), (.int .u8 0), (.int .u8 0), (.int .u8 0), (.int .u8 0), (.int .u8 0), (.int .u8 0), (.int .u8 0), (.int .u8 0), (.int .u8 0), (.int .u8 0), (.int .u8 0), (.int .u8 0), (.int .u8 0), (.int .u8 0), (.int .u8 0), (.int .u8 0), (.int .u8 0), (.int .i64 0), (.int .i64 0), (.int .i64 0), (.int .i64 0), (.string ⟨#[]⟩), (.int .i64 0), (.int .i64 0), (.int .i64 0), (.int .i64 0), (.int .i64 0), (.int .i64 0), (.int .i64 0)]) 136 rfl Tryz.underlying25 info38 rfl (by decide) (by omega) (.slice (some ad) 2 c13) awM (to90 (one68 1 100000 50000)) cx (fun _ => True) (fun _ => False) rfl rfl (I1.1.2 _ _ _) (fun _ h => h.elim) (fun _ _ => trivial) H13.1 HB.1 HB.1.size (by decide) ?_; intro v30 w8 hv hb hg hat; rw [← AP.1] at hv; have m_H16 := Ak (blk_grown H16.1 hg (Kd.R_ne H13.1 H16.1 (by decide))); clear H13 H16 HB hg hat; have H30 := Ak hv; have HB := Ak hb; have H16 := m_H16; clear m_H16 hv hb; obtain ⟨A30, c30, e30⟩ := Kd.R_slice H30.1; replace e30 : v30 = .slice A30 3 c30 := e30; subst e30) | ((with_reducible refine gate_callee (f := 19) rfl ?_); refine goesL_ (some 31) rfl rfl Tryz.func19 (by kernel_rfl) rfl #[.slice A30 3 c30, .int .i64 5, .int .i64 400000, .int .i64 1] rfl (by (try simp only [lm_, lc_, ln_]); first | done | rfl) ?_; refine (CA3.1 _ _ _ (Kd.R_reads' H30.1).2.2).mono ?_; rintro e w9 ⟨v31, rfl, h31, hb⟩; refine ⟨_, rfl, ?_⟩; clear h31 H30; replace HB := Ak (below_step HB.1 hb); replace H16 := Ak (blk_below H16.1 hb); clear hb) | ((with_reducible refine gate_callee (f := 12) rfl ?_); refine goesL_ (some 35) rfl rfl Tryz.func12 (by kernel_rfl) rfl #[.slice none 0 0, .int .i64 300, .int .i64 1] rfl (by (try simp only [lm_, lc_, ln_]); first | done | rfl) ?_; refine (CK.1 _).mono ?_; rintro e w10 ⟨m0, m1, rfl, hm0, hm1, hb⟩; refine ⟨_, rfl, ?_⟩; obtain ⟨B0, d0, f0⟩ := Kd.R_slice hm0; replace f0 : m0 = .slice B0 0 d0 := f0; subst f0; obtain ⟨B1, d1, f1⟩ := Kd.R_slice hm1; replace f1 : m1 = .slice B1 0 d1 := f1; subst f1; clear hm0 hm1; replace HB := Ak (below_step HB.1 hb); replace H16 := Ak (blk_below H16.1 hb); clear hb) | ((with_reducible refine gate_dst (N := 8) rfl ?_); refine Fill.fill_event (N := 8) (x := 36) (cs := #[.slice B0 0 d0, .slice B1 0 d1, .int .i64 0, .int .i64 0, .int .i64 0]) (t := 50) rfl rfl rfl rfl rfl rfl Tryz.zeroValue50 ?fs ?fz ?f1 (fun _ => rfl) (fun _ => rfl) ?_; (case fs => exact fun W => Tryz.sizeOf50 W); (case fz => rfl); (case f1 => rfl); intro g8 hg8 w11 hbox hb; clear hbox hg8; replace HB := Ak (below_step HB.1 hb); replace H16 := Ak (blk_below H16.1 hb); clear hb; have hc16 : w11.cell? ⟨g16, 0, none⟩ = some (.slice A0 2 c0) := (blk_cell H16.1 0).trans D16.1) | (go_at_call 8; refine (CC.1 _).mono ?_; rintro e w12 ⟨rfl, hb⟩; clear hc16; replace HB := Ak (below_step HB.1 hb); clear hb))
 go_ret
 exact ⟨rfl, HB.1⟩
end Go.Proofs.YtiodebjjbgcbhaaGreat.Inp
