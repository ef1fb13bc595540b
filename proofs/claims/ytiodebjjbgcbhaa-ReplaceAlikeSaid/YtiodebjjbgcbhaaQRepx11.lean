/- Functions of the program as plain Lean functions, and that its calls come to what these tell: written by a program of this session; Lean checks it. -/
import Derived.Test.YtiodebjjbgcbhaaQRepx0
import Derived.Test.YtiodebjjbgcbhaaQRepx1
namespace Go.Proofs.Ytiodebjjbgcbhaa.QRep
open Go.RowKit Go.Proofs.YtiodebjjbgcbhaaW.PrintWords Go.Proofs.YtiodebjjbgcbhaaW.PrintLast Go.Proofs.YtiodebjjbgcbhaaW.PrintMore
attribute [local go_sem] max2_int min2_int max_two min_two max_three min_three max_four min_four  run_fop run_feq run_fne run_flt run_fle run_fgt run_fge run_fint run_toi run_real' run_imag' run_complex' run_ceq run_cne run_cadd run_csub run_cmul Go.Proofs.Ytiodebjjbgcbhaa.Wide.cellsAt_drewN Go.Proofs.Ytiodebjjbgcbhaa.Wide.cellsAt_drew Go.Proofs.Ytiodebjjbgcbhaa.Wide.lw32 Go.Proofs.Ytiodebjjbgcbhaa.Wide.lw33 Go.Proofs.Ytiodebjjbgcbhaa.Wide.lw37 Go.Proofs.Ytiodebjjbgcbhaa.Wide.lw38 Go.Proofs.Ytiodebjjbgcbhaa.Wide.lw39 Go.Proofs.Ytiodebjjbgcbhaa.Wide.lw44
attribute [local go_sem ↓ high] Go.Proofs.Ytiodebjjbgcbhaa.Wide.hv32 Go.Proofs.Ytiodebjjbgcbhaa.Wide.hv33 Go.Proofs.Ytiodebjjbgcbhaa.Wide.hv37 Go.Proofs.Ytiodebjjbgcbhaa.Wide.hv38 Go.Proofs.Ytiodebjjbgcbhaa.Wide.hv39 Go.Proofs.Ytiodebjjbgcbhaa.Wide.hv44
set_option linter.unusedVariables false
set_option linter.unusedSimpArgs false

attribute [local go_sem high] eqA34
/-! ### coracleref1_Spends: function 14 -/
def coracleref1_Spends.l0 : Nat → Int → List (S38) → List (S64) → Int → Int → Int → Int → Int → Int → Int → Int → Int → Int → Int → Int → Int → Int → Int → Int → Int → Int → Int → Int → Int → Int → Int → Int → Int → Int → Int → Int → Int → Int → Int → Int → Int → Int → Option (Int)
  | 0, _, _, _, _, _, _, _, _, _, _, _, _, _, _, _, _, _, _, _, _, _, _, _, _, _, _, _, _, _, _, _, _, _, _, _, _, _ => none
  | k + 1, x5, x313000, x313001, x313002, x314000, x314001, x314002, x314003, x314004, x314005, x314006, x314007, x314008, x314009, x314010, x314011, x314012, x314013, x314014, x314015, x314016, x314017, x314018, x314019, x314020, x314021, x314022, x314023, x314024, x314025, x314026, x314027, x314028, x314029, x314030, x314031, x314032 => if x5 < (x313000.length : Int) then (if 0 ≤ x5 then (if ((((rd_T38 x313000 x5).f0.f0.f0) == x314000 && (((rd_T38 x313000 x5).f0.f0.f1) == x314001 && (((rd_T38 x313000 x5).f0.f0.f2) == x314002 && (((rd_T38 x313000 x5).f0.f0.f3) == x314003 && (((rd_T38 x313000 x5).f0.f0.f4) == x314004 && (((rd_T38 x313000 x5).f0.f0.f5) == x314005 && (((rd_T38 x313000 x5).f0.f0.f6) == x314006 && (((rd_T38 x313000 x5).f0.f0.f7) == x314007 && (((rd_T38 x313000 x5).f0.f0.f8) == x314008 && (((rd_T38 x313000 x5).f0.f0.f9) == x314009 && (((rd_T38 x313000 x5).f0.f0.f10) == x314010 && (((rd_T38 x313000 x5).f0.f0.f11) == x314011 && (((rd_T38 x313000 x5).f0.f0.f12) == x314012 && (((rd_T38 x313000 x5).f0.f0.f13) == x314013 && (((rd_T38 x313000 x5).f0.f0.f14) == x314014 && (((rd_T38 x313000 x5).f0.f0.f15) == x314015 && (((rd_T38 x313000 x5).f0.f0.f16) == x314016 && (((rd_T38 x313000 x5).f0.f0.f17) == x314017 && (((rd_T38 x313000 x5).f0.f0.f18) == x314018 && (((rd_T38 x313000 x5).f0.f0.f19) == x314019 && (((rd_T38 x313000 x5).f0.f0.f20) == x314020 && (((rd_T38 x313000 x5).f0.f0.f21) == x314021 && (((rd_T38 x313000 x5).f0.f0.f22) == x314022 && (((rd_T38 x313000 x5).f0.f0.f23) == x314023 && (((rd_T38 x313000 x5).f0.f0.f24) == x314024 && (((rd_T38 x313000 x5).f0.f0.f25) == x314025 && (((rd_T38 x313000 x5).f0.f0.f26) == x314026 && (((rd_T38 x313000 x5).f0.f0.f27) == x314027 && (((rd_T38 x313000 x5).f0.f0.f28) == x314028 && (((rd_T38 x313000 x5).f0.f0.f29) == x314029 && (((rd_T38 x313000 x5).f0.f0.f30) == x314030 && (((rd_T38 x313000 x5).f0.f0.f31) == x314031)))))))))))))))))))))))))))))))) && (((rd_T38 x313000 x5).f0.f1) == x314032)) = true then (some x5) else (coracleref1_Spends.l0 k (wrap64 (x5 + 1)) x313000 x313001 x313002 x314000 x314001 x314002 x314003 x314004 x314005 x314006 x314007 x314008 x314009 x314010 x314011 x314012 x314013 x314014 x314015 x314016 x314017 x314018 x314019 x314020 x314021 x314022 x314023 x314024 x314025 x314026 x314027 x314028 x314029 x314030 x314031 x314032)) else (none)) else (some (-1))
def coracleref1_Spends.f (k : Nat) (l0_0 : List (S38)) (l0_1 : List (S64)) (a0_2 : Int) (a1_0 : Int) (a1_1 : Int) (a1_2 : Int) (a1_3 : Int) (a1_4 : Int) (a1_5 : Int) (a1_6 : Int) (a1_7 : Int) (a1_8 : Int) (a1_9 : Int) (a1_10 : Int) (a1_11 : Int) (a1_12 : Int) (a1_13 : Int) (a1_14 : Int) (a1_15 : Int) (a1_16 : Int) (a1_17 : Int) (a1_18 : Int) (a1_19 : Int) (a1_20 : Int) (a1_21 : Int) (a1_22 : Int) (a1_23 : Int) (a1_24 : Int) (a1_25 : Int) (a1_26 : Int) (a1_27 : Int) (a1_28 : Int) (a1_29 : Int) (a1_30 : Int) (a1_31 : Int) (a1_32 : Int) : Option (Int) := coracleref1_Spends.l0 k 0 l0_0 l0_1 a0_2 a1_0 a1_1 a1_2 a1_3 a1_4 a1_5 a1_6 a1_7 a1_8 a1_9 a1_10 a1_11 a1_12 a1_13 a1_14 a1_15 a1_16 a1_17 a1_18 a1_19 a1_20 a1_21 a1_22 a1_23 a1_24 a1_25 a1_26 a1_27 a1_28 a1_29 a1_30 a1_31 a1_32
theorem coracleref1_Spends.mono_l : ∀ k, (∀ y0 y1 y2 y3 y4 y5 y6 y7 y8 y9 y10 y11 y12 y13 y14 y15 y16 y17 y18 y19 y20 y21 y22 y23 y24 y25 y26 y27 y28 y29 y30 y31 y32 y33 y34 y35 y36, LeO (coracleref1_Spends.l0 k y0 y1 y2 y3 y4 y5 y6 y7 y8 y9 y10 y11 y12 y13 y14 y15 y16 y17 y18 y19 y20 y21 y22 y23 y24 y25 y26 y27 y28 y29 y30 y31 y32 y33 y34 y35 y36) (coracleref1_Spends.l0 (k + 1) y0 y1 y2 y3 y4 y5 y6 y7 y8 y9 y10 y11 y12 y13 y14 y15 y16 y17 y18 y19 y20 y21 y22 y23 y24 y25 y26 y27 y28 y29 y30 y31 y32 y33 y34 y35 y36))
  | 0 => fun _ _ _ _ _ _ _ _ _ _ _ _ _ _ _ _ _ _ _ _ _ _ _ _ _ _ _ _ _ _ _ _ _ _ _ _ _ r h => by simp [coracleref1_Spends.l0] at h
  | k + 1 => by
    have ih0 := coracleref1_Spends.mono_l k
    · intro y0 y1 y2 y3 y4 y5 y6 y7 y8 y9 y10 y11 y12 y13 y14 y15 y16 y17 y18 y19 y20 y21 y22 y23 y24 y25 y26 y27 y28 y29 y30 y31 y32 y33 y34 y35 y36
      unfold coracleref1_Spends.l0
      repeat' first
      | (with_reducible exact ih0 _ _ _ _ _ _ _ _ _ _ _ _ _ _ _ _ _ _ _ _ _ _ _ _ _ _ _ _ _ _ _ _ _ _ _ _ _)
      | (with_reducible exact LeO.refl _)
      | (with_reducible exact LeO.none _)
      | (with_reducible refine LeO.ite ?_ ?_)
      | (with_reducible refine LeO.bind ?_ (fun _ => ?_))
      | exact ih0 _ _ _ _ _ _ _ _ _ _ _ _ _ _ _ _ _ _ _ _ _ _ _ _ _ _ _ _ _ _ _ _ _ _ _ _ _
      | exact LeO.none _
      | refine LeO.ite ?_ ?_
      | refine LeO.bind ?_ (fun _ => ?_)
theorem coracleref1_Spends.mono : ∀ a0 a1 a2 a3 a4 a5 a6 a7 a8 a9 a10 a11 a12 a13 a14 a15 a16 a17 a18 a19 a20 a21 a22 a23 a24 a25 a26 a27 a28 a29 a30 a31 a32 a33 a34 a35 k, LeO (coracleref1_Spends.f k a0 a1 a2 a3 a4 a5 a6 a7 a8 a9 a10 a11 a12 a13 a14 a15 a16 a17 a18 a19 a20 a21 a22 a23 a24 a25 a26 a27 a28 a29 a30 a31 a32 a33 a34 a35) (coracleref1_Spends.f (k + 1) a0 a1 a2 a3 a4 a5 a6 a7 a8 a9 a10 a11 a12 a13 a14 a15 a16 a17 a18 a19 a20 a21 a22 a23 a24 a25 a26 a27 a28 a29 a30 a31 a32 a33 a34 a35) := by
  intro a0 a1 a2 a3 a4 a5 a6 a7 a8 a9 a10 a11 a12 a13 a14 a15 a16 a17 a18 a19 a20 a21 a22 a23 a24 a25 a26 a27 a28 a29 a30 a31 a32 a33 a34 a35 k
  have ih0 := coracleref1_Spends.mono_l k
  unfold coracleref1_Spends.f
  repeat' first
      | (with_reducible exact ih0 _ _ _ _ _ _ _ _ _ _ _ _ _ _ _ _ _ _ _ _ _ _ _ _ _ _ _ _ _ _ _ _ _ _ _ _ _)
      | (with_reducible exact LeO.refl _)
      | (with_reducible exact LeO.none _)
      | (with_reducible refine LeO.ite ?_ ?_)
      | (with_reducible refine LeO.bind ?_ (fun _ => ?_))
      | exact ih0 _ _ _ _ _ _ _ _ _ _ _ _ _ _ _ _ _ _ _ _ _ _ _ _ _ _ _ _ _ _ _ _ _ _ _ _ _
      | exact LeO.none _
      | refine LeO.ite ?_ ?_
      | refine LeO.bind ?_ (fun _ => ?_)
set_option maxHeartbeats 8000000 in
set_option maxRecDepth 100000 in
theorem coracleref1_Spends.calls (k : Nat) (A0_0 : Option Addr) (c0_0 : Nat) (l0_0 : List (S38)) (A0_1 : Option Addr) (c0_1 : Nat) (l0_1 : List (S64)) (a0_2 : Int) (a1_0 : Int) (a1_1 : Int) (a1_2 : Int) (a1_3 : Int) (a1_4 : Int) (a1_5 : Int) (a1_6 : Int) (a1_7 : Int) (a1_8 : Int) (a1_9 : Int) (a1_10 : Int) (a1_11 : Int) (a1_12 : Int) (a1_13 : Int) (a1_14 : Int) (a1_15 : Int) (a1_16 : Int) (a1_17 : Int) (a1_18 : Int) (a1_19 : Int) (a1_20 : Int) (a1_21 : Int) (a1_22 : Int) (a1_23 : Int) (a1_24 : Int) (a1_25 : Int) (a1_26 : Int) (a1_27 : Int) (a1_28 : Int) (a1_29 : Int) (a1_30 : Int) (a1_31 : Int) (a1_32 : Int) (r : Int) (w : World) (hr0_0 : Kd.C k38 w A0_0 l0_0.length l0_0) (hc0_0 : l0_0.length ≤ c0_0) (hr0_1 : Kd.C k64 w A0_1 l0_1.length l0_1) (hc0_1 : l0_1.length ≤ c0_1) (h : coracleref1_Spends.f k l0_0 l0_1 a0_2 a1_0 a1_1 a1_2 a1_3 a1_4 a1_5 a1_6 a1_7 a1_8 a1_9 a1_10 a1_11 a1_12 a1_13 a1_14 a1_15 a1_16 a1_17 a1_18 a1_19 a1_20 a1_21 a1_22 a1_23 a1_24 a1_25 a1_26 a1_27 a1_28 a1_29 a1_30 a1_31 a1_32 = some r) :
  Calls Try.prog 14 #[.agg #[.slice A0_0 l0_0.length c0_0, .slice A0_1 l0_1.length c0_1, .int .i64 a0_2], .agg #[.int .u8 a1_0, .int .u8 a1_1, .int .u8 a1_2, .int .u8 a1_3, .int .u8 a1_4, .int .u8 a1_5, .int .u8 a1_6, .int .u8 a1_7, .int .u8 a1_8, .int .u8 a1_9, .int .u8 a1_10, .int .u8 a1_11, .int .u8 a1_12, .int .u8 a1_13, .int .u8 a1_14, .int .u8 a1_15, .int .u8 a1_16, .int .u8 a1_17, .int .u8 a1_18, .int .u8 a1_19, .int .u8 a1_20, .int .u8 a1_21, .int .u8 a1_22, .int .u8 a1_23, .int .u8 a1_24, .int .u8 a1_25, .int .u8 a1_26, .int .u8 a1_27, .int .u8 a1_28, .int .u8 a1_29, .int .u8 a1_30, .int .u8 a1_31, .int .i64 a1_32]] w fun e w' => e = .returned (.int .i64 r) ∧ Below w.heap.size w w' := by
 have hu28 := Try.underlying28
 have hu34 := Try.underlying34
 have HR0_0 := Aside0.mk hr0_0
 have HC0_0 := Aside0.mk hc0_0
 clear hr0_0 hc0_0
 have HR0_1 := Aside0.mk hr0_1
 have HC0_1 := Aside0.mk hc0_1
 clear hr0_1 hc0_1
 have HB := Aside0.mk (Below.refl w.heap.size w)
 have H : (coracleref1_Spends.l0 k 0 l0_0 l0_1 a0_2 a1_0 a1_1 a1_2 a1_3 a1_4 a1_5 a1_6 a1_7 a1_8 a1_9 a1_10 a1_11 a1_12 a1_13 a1_14 a1_15 a1_16 a1_17 a1_18 a1_19 a1_20 a1_21 a1_22 a1_23 a1_24 a1_25 a1_26 a1_27 a1_28 a1_29 a1_30 a1_31 a1_32) = some r := h
 clear h
 have H' := Aside0.mk H
 clear H
 go_enter Try.func14, Try.ntmps14
 go_wp2_with (first | ((with_reducible refine gate_dst (N := 2) rfl ?_); refine box_event ?hg (N := 2) ?hd (cs := #[.slice A0_0 l0_0.length c0_0, .slice A0_1 l0_1.length c0_1, .int .i64 a0_2]) (t := 28) ?hr ?_; (case hd => rfl); (case hg => rfl); (case hr => first | (go_simp; done) | (go_simp; rfl)); intro gb312 hg w3 hbox hb; have n0_ := Aside0.mk (below_step (by repeat (first | (with_reducible first | exact HB.out | apply below_alloc | apply pw_below_drewN | apply below_drew1) | exact HB.out)) hb); have n1_ := Aside0.mk (hbox); have n2_ := Aside0.mk ((by rw [hg]; exact (below_size (by repeat (first | (with_reducible first | exact HB.out | apply below_alloc | apply pw_below_drewN | apply below_drew1) | exact HB.out))) : w.heap.size ≤ gb312)); have n3_ := Aside0.mk ((by rw [hg]; exact (below_size (by repeat (first | (with_reducible first | exact HB.out | apply below_alloc | apply pw_below_drewN | apply below_drew1) | exact HB.out))) : w.heap.size ≤ gb312)); clear HB; have HB := n0_; have BK312 := n1_; have GW312 := n2_; have GE312 := n3_; clear n0_ n1_ n2_ n3_; clear hb hbox hg) | ((with_reducible refine gate_dst (N := 3) rfl ?_); refine box_event ?hg (N := 3) ?hd (cs := #[.int .u8 a1_0, .int .u8 a1_1, .int .u8 a1_2, .int .u8 a1_3, .int .u8 a1_4, .int .u8 a1_5, .int .u8 a1_6, .int .u8 a1_7, .int .u8 a1_8, .int .u8 a1_9, .int .u8 a1_10, .int .u8 a1_11, .int .u8 a1_12, .int .u8 a1_13, .int .u8 a1_14, .int .u8 a1_15, .int .u8 a1_16, .int .u8 a1_17, .int .u8 a1_18, .int .u8 a1_19, .int .u8 a1_20, .int .u8 a1_21, .int .u8 a1_22, .int .u8 a1_23, .int .u8 a1_24, .int .u8 a1_25, .int .u8 a1_26, .int .u8 a1_27, .int .u8 a1_28, .int .u8 a1_29, .int .u8 a1_30, .int .u8 a1_31, .int .i64 a1_32]) (t := 34) ?hr ?_; (case hd => rfl); (case hg => rfl); (case hr => first | (go_simp; done) | (go_simp; rfl)); intro gb313 hg w4 hbox hb; have n0_ := Aside0.mk (blk_below (g := gb312) (o := .cells #[.slice A0_0 l0_0.length c0_0, .slice A0_1 l0_1.length c0_1, .int .i64 a0_2] 28 (0, 0)) (by (with_reducible repeat (first | refine blk_drewN ?_ _ | refine blk_drew ?_ | refine blk_alloc ?_ _)); exact BK312.out) hb); have n1_ := Aside0.mk (below_step (by repeat (first | (with_reducible first | exact HB.out | apply below_alloc | apply pw_below_drewN | apply below_drew1 | refine below_set ?_ GE312.out) | exact HB.out)) hb); have n2_ := Aside0.mk (hbox); have n3_ := Aside0.mk ((by rw [hg]; exact (below_size (by repeat (first | (with_reducible first | exact HB.out | apply below_alloc | apply pw_below_drewN | apply below_drew1 | refine below_set ?_ GE312.out) | exact HB.out))) : w.heap.size ≤ gb313)); have n4_ := Aside0.mk ((by rw [hg]; exact (below_size (by repeat (first | (with_reducible first | exact HB.out | apply below_alloc | apply pw_below_drewN | apply below_drew1 | refine below_set ?_ GE312.out) | exact HB.out))) : w.heap.size ≤ gb313)); have n5_ := Aside0.mk ((by rw [hg]; exact Nat.ne_of_lt (blk_lt (g := gb312) (o := .cells #[.slice A0_0 l0_0.length c0_0, .slice A0_1 l0_1.length c0_1, .int .i64 a0_2] 28 (0, 0)) (by (with_reducible repeat (first | refine blk_drewN ?_ _ | refine blk_drew ?_ | refine blk_alloc ?_ _)); exact BK312.out)) : gb312 ≠ gb313)); have n6_ := Aside0.mk ((by rw [hg]; exact Nat.ne_of_gt (blk_lt (g := gb312) (o := .cells #[.slice A0_0 l0_0.length c0_0, .slice A0_1 l0_1.length c0_1, .int .i64 a0_2] 28 (0, 0)) (by (with_reducible repeat (first | refine blk_drewN ?_ _ | refine blk_drew ?_ | refine blk_alloc ?_ _)); exact BK312.out)) : gb313 ≠ gb312)); clear BK312; clear HB; have BK312 := n0_; have HB := n1_; have BK313 := n2_; have GW313 := n3_; have GE313 := n4_; have NB312_313 := n5_; have NB313_312 := n6_; clear n0_ n1_ n2_ n3_ n4_ n5_ n6_; clear hb hbox hg))
 repeat (go_quiet (first | ((with_reducible refine gate_dst (N := 2) rfl ?_); refine box_event ?hg (N := 2) ?hd (cs := #[.slice A0_0 l0_0.length c0_0, .slice A0_1 l0_1.length c0_1, .int .i64 a0_2]) (t := 28) ?hr ?_; (case hd => rfl); (case hg => rfl); (case hr => first | (go_simp; done) | (go_simp; rfl)); intro gb312 hg w3 hbox hb; have n0_ := Aside0.mk (below_step (by repeat (first | (with_reducible first | exact HB.out | apply below_alloc | apply pw_below_drewN | apply below_drew1) | exact HB.out)) hb); have n1_ := Aside0.mk (hbox); have n2_ := Aside0.mk ((by rw [hg]; exact (below_size (by repeat (first | (with_reducible first | exact HB.out | apply below_alloc | apply pw_below_drewN | apply below_drew1) | exact HB.out))) : w.heap.size ≤ gb312)); have n3_ := Aside0.mk ((by rw [hg]; exact (below_size (by repeat (first | (with_reducible first | exact HB.out | apply below_alloc | apply pw_below_drewN | apply below_drew1) | exact HB.out))) : w.heap.size ≤ gb312)); clear HB; have HB := n0_; have BK312 := n1_; have GW312 := n2_; have GE312 := n3_; clear n0_ n1_ n2_ n3_; clear hb hbox hg) | ((with_reducible refine gate_dst (N := 3) rfl ?_); refine box_event ?hg (N := 3) ?hd (cs := #[.int .u8 a1_0, .int .u8 a1_1, .int .u8 a1_2, .int .u8 a1_3, .int .u8 a1_4, .int .u8 a1_5, .int .u8 a1_6, .int .u8 a1_7, .int .u8 a1_8, .int .u8 a1_9, .int .u8 a1_10, .int .u8 a1_11, .int .u8 a1_12, .int .u8 a1_13, .int .u8 a1_14, .int .u8 a1_15, .int .u8 a1_16, .int .u8 a1_17, .int .u8 a1_18, .int .u8 a1_19, .int .u8 a1_20, .int .u8 a1_21, .int .u8 a1_22, .int .u8 a1_23, .int .u8 a1_24, .int .u8 a1_25, .int .u8 a1_26, .int .u8 a1_27, .int .u8 a1_28, .int .u8 a1_29, .int .u8 a1_30, .int .u8 a1_31, .int .i64 a1_32]) (t := 34) ?hr ?_; (case hd => rfl); (case hg => rfl); (case hr => first | (go_simp; done) | (go_simp; rfl)); intro gb313 hg w4 hbox hb; have n0_ := Aside0.mk (blk_below (g := gb312) (o := .cells #[.slice A0_0 l0_0.length c0_0, .slice A0_1 l0_1.length c0_1, .int .i64 a0_2] 28 (0, 0)) (by (with_reducible repeat (first | refine blk_drewN ?_ _ | refine blk_drew ?_ | refine blk_alloc ?_ _)); exact BK312.out) hb); have n1_ := Aside0.mk (below_step (by repeat (first | (with_reducible first | exact HB.out | apply below_alloc | apply pw_below_drewN | apply below_drew1 | refine below_set ?_ GE312.out) | exact HB.out)) hb); have n2_ := Aside0.mk (hbox); have n3_ := Aside0.mk ((by rw [hg]; exact (below_size (by repeat (first | (with_reducible first | exact HB.out | apply below_alloc | apply pw_below_drewN | apply below_drew1 | refine below_set ?_ GE312.out) | exact HB.out))) : w.heap.size ≤ gb313)); have n4_ := Aside0.mk ((by rw [hg]; exact (below_size (by repeat (first | (with_reducible first | exact HB.out | apply below_alloc | apply pw_below_drewN | apply below_drew1 | refine below_set ?_ GE312.out) | exact HB.out))) : w.heap.size ≤ gb313)); have n5_ := Aside0.mk ((by rw [hg]; exact Nat.ne_of_lt (blk_lt (g := gb312) (o := .cells #[.slice A0_0 l0_0.length c0_0, .slice A0_1 l0_1.length c0_1, .int .i64 a0_2] 28 (0, 0)) (by (with_reducible repeat (first | refine blk_drewN ?_ _ | refine blk_drew ?_ | refine blk_alloc ?_ _)); exact BK312.out)) : gb312 ≠ gb313)); have n6_ := Aside0.mk ((by rw [hg]; exact Nat.ne_of_gt (blk_lt (g := gb312) (o := .cells #[.slice A0_0 l0_0.length c0_0, .slice A0_1 l0_1.length c0_1, .int .i64 a0_2] 28 (0, 0)) (by (with_reducible repeat (first | refine blk_drewN ?_ _ | refine blk_drew ?_ | refine blk_alloc ?_ _)); exact BK312.out)) : gb313 ≠ gb312)); clear BK312; clear HB; have BK312 := n0_; have HB := n1_; have BK313 := n2_; have GW313 := n3_; have GE313 := n4_; have NB312_313 := n5_; have NB313_312 := n6_; clear n0_ n1_ n2_ n3_ n4_ n5_ n6_; clear hb hbox hg)); try go_wp2_with (first | ((with_reducible refine gate_dst (N := 2) rfl ?_); refine box_event ?hg (N := 2) ?hd (cs := #[.slice A0_0 l0_0.length c0_0, .slice A0_1 l0_1.length c0_1, .int .i64 a0_2]) (t := 28) ?hr ?_; (case hd => rfl); (case hg => rfl); (case hr => first | (go_simp; done) | (go_simp; rfl)); intro gb312 hg w3 hbox hb; have n0_ := Aside0.mk (below_step (by repeat (first | (with_reducible first | exact HB.out | apply below_alloc | apply pw_below_drewN | apply below_drew1) | exact HB.out)) hb); have n1_ := Aside0.mk (hbox); have n2_ := Aside0.mk ((by rw [hg]; exact (below_size (by repeat (first | (with_reducible first | exact HB.out | apply below_alloc | apply pw_below_drewN | apply below_drew1) | exact HB.out))) : w.heap.size ≤ gb312)); have n3_ := Aside0.mk ((by rw [hg]; exact (below_size (by repeat (first | (with_reducible first | exact HB.out | apply below_alloc | apply pw_below_drewN | apply below_drew1) | exact HB.out))) : w.heap.size ≤ gb312)); clear HB; have HB := n0_; have BK312 := n1_; have GW312 := n2_; have GE312 := n3_; clear n0_ n1_ n2_ n3_; clear hb hbox hg) | ((with_reducible refine gate_dst (N := 3) rfl ?_); refine box_event ?hg (N := 3) ?hd (cs := #[.int .u8 a1_0, .int .u8 a1_1, .int .u8 a1_2, .int .u8 a1_3, .int .u8 a1_4, .int .u8 a1_5, .int .u8 a1_6, .int .u8 a1_7, .int .u8 a1_8, .int .u8 a1_9, .int .u8 a1_10, .int .u8 a1_11, .int .u8 a1_12, .int .u8 a1_13, .int .u8 a1_14, .int .u8 a1_15, .int .u8 a1_16, .int .u8 a1_17, .int .u8 a1_18, .int .u8 a1_19, .int .u8 a1_20, .int .u8 a1_21, .int .u8 a1_22, .int .u8 a1_23, .int .u8 a1_24, .int .u8 a1_25, .int .u8 a1_26, .int .u8 a1_27, .int .u8 a1_28, .int .u8 a1_29, .int .u8 a1_30, .int .u8 a1_31, .int .i64 a1_32]) (t := 34) ?hr ?_; (case hd => rfl); (case hg => rfl); (case hr => first | (go_simp; done) | (go_simp; rfl)); intro gb313 hg w4 hbox hb; have n0_ := Aside0.mk (blk_below (g := gb312) (o := .cells #[.slice A0_0 l0_0.length c0_0, .slice A0_1 l0_1.length c0_1, .int .i64 a0_2] 28 (0, 0)) (by (with_reducible repeat (first | refine blk_drewN ?_ _ | refine blk_drew ?_ | refine blk_alloc ?_ _)); exact BK312.out) hb); have n1_ := Aside0.mk (below_step (by repeat (first | (with_reducible first | exact HB.out | apply below_alloc | apply pw_below_drewN | apply below_drew1 | refine below_set ?_ GE312.out) | exact HB.out)) hb); have n2_ := Aside0.mk (hbox); have n3_ := Aside0.mk ((by rw [hg]; exact (below_size (by repeat (first | (with_reducible first | exact HB.out | apply below_alloc | apply pw_below_drewN | apply below_drew1 | refine below_set ?_ GE312.out) | exact HB.out))) : w.heap.size ≤ gb313)); have n4_ := Aside0.mk ((by rw [hg]; exact (below_size (by repeat (first | (with_reducible first | exact HB.out | apply below_alloc | apply pw_below_drewN | apply below_drew1 | refine below_set ?_ GE312.out) | exact HB.out))) : w.heap.size ≤ gb313)); have n5_ := Aside0.mk ((by rw [hg]; exact Nat.ne_of_lt (blk_lt (g := gb312) (o := .cells #[.slice A0_0 l0_0.length c0_0, .slice A0_1 l0_1.length c0_1, .int .i64 a0_2] 28 (0, 0)) (by (with_reducible repeat (first | refine blk_drewN ?_ _ | refine blk_drew ?_ | refine blk_alloc ?_ _)); exact BK312.out)) : gb312 ≠ gb313)); have n6_ := Aside0.mk ((by rw [hg]; exact Nat.ne_of_gt (blk_lt (g := gb312) (o := .cells #[.slice A0_0 l0_0.length c0_0, .slice A0_1 l0_1.length c0_1, .int .i64 a0_2] 28 (0, 0)) (by (with_reducible repeat (first | refine blk_drewN ?_ _ | refine blk_drew ?_ | refine blk_alloc ?_ _)); exact BK312.out)) : gb313 ≠ gb312)); clear BK312; clear HB; have BK312 := n0_; have HB := n1_; have BK313 := n2_; have GW313 := n3_; have GE313 := n4_; have NB312_313 := n5_; have NB313_312 := n6_; clear n0_ n1_ n2_ n3_ n4_ n5_ n6_; clear hb hbox hg)))
 go_loopg [5] k (fun kq v5 w' => ∃ (x5_1 : Int), v5 = .int .i64 x5_1 ∧ Aside0 (coracleref1_Spends.l0 kq x5_1 l0_0 l0_1 a0_2 a1_0 a1_1 a1_2 a1_3 a1_4 a1_5 a1_6 a1_7 a1_8 a1_9 a1_10 a1_11 a1_12 a1_13 a1_14 a1_15 a1_16 a1_17 a1_18 a1_19 a1_20 a1_21 a1_22 a1_23 a1_24 a1_25 a1_26 a1_27 a1_28 a1_29 a1_30 a1_31 a1_32 = some r) ∧ Aside0 (kq ≤ k) ∧ Aside0 (w'.heap[gb312]? = some (.cells #[(.slice A0_0 l0_0.length c0_0), (.slice A0_1 l0_1.length c0_1), .int .i64 a0_2] 28 (0, 0))) ∧ Aside0 (w'.heap[gb313]? = some (.cells #[.int .u8 a1_0, .int .u8 a1_1, .int .u8 a1_2, .int .u8 a1_3, .int .u8 a1_4, .int .u8 a1_5, .int .u8 a1_6, .int .u8 a1_7, .int .u8 a1_8, .int .u8 a1_9, .int .u8 a1_10, .int .u8 a1_11, .int .u8 a1_12, .int .u8 a1_13, .int .u8 a1_14, .int .u8 a1_15, .int .u8 a1_16, .int .u8 a1_17, .int .u8 a1_18, .int .u8 a1_19, .int .u8 a1_20, .int .u8 a1_21, .int .u8 a1_22, .int .u8 a1_23, .int .u8 a1_24, .int .u8 a1_25, .int .u8 a1_26, .int .u8 a1_27, .int .u8 a1_28, .int .u8 a1_29, .int .u8 a1_30, .int .u8 a1_31, .int .i64 a1_32] 34 (0, 0))) ∧ Aside0 (Below w.heap.size w w'))
 case atStart => exact ⟨(0), (by first | rfl | (simp; done) | (simp [*]; done)), H', ⟨Nat.le_refl _⟩, ⟨by (with_reducible repeat (first | refine blk_drewN ?_ _ | refine blk_drew ?_ | refine blk_alloc ?_ _)); exact BK312.out⟩, ⟨by (with_reducible repeat (first | refine blk_drewN ?_ _ | refine blk_drew ?_ | refine blk_alloc ?_ _)); exact BK313.out⟩, ⟨by repeat (first | (with_reducible first | exact HB.out | apply below_alloc | apply pw_below_drewN | apply below_drew1 | refine below_set ?_ GE312.out | refine below_set ?_ GE313.out) | exact HB.out)⟩⟩
 case round =>
  clear H'
  try clear c1
  try clear p2
  obtain ⟨x5_1, rfl, HA, HK1, BK312, BK313, HB⟩ := hrel
  cases gk with
  | zero => exact absurd HA.out (by simp [coracleref1_Spends.l0])
  | succ k1 =>
   have H := HA.out
   clear HA
   simp only [coracleref1_Spends.l0] at H
   by_cases c5 : x5_1 < (l0_0.length : Int)
   ·
    rw [if_pos c5] at H
    have c5b0 : decide (x5_1 < (l0_0.length : Int)) = true := decide_eq_true c5
    clear c5
    by_cases c6 : 0 ≤ x5_1
    ·
     rw [if_pos c6] at H
     have c6b0 : decide (0 ≤ x5_1) = true := decide_eq_true c6
     clear c6
     by_cases c7 : ((((rd_T38 l0_0 x5_1).f0.f0.f0) == a1_0 && (((rd_T38 l0_0 x5_1).f0.f0.f1) == a1_1 && (((rd_T38 l0_0 x5_1).f0.f0.f2) == a1_2 && (((rd_T38 l0_0 x5_1).f0.f0.f3) == a1_3 && (((rd_T38 l0_0 x5_1).f0.f0.f4) == a1_4 && (((rd_T38 l0_0 x5_1).f0.f0.f5) == a1_5 && (((rd_T38 l0_0 x5_1).f0.f0.f6) == a1_6 && (((rd_T38 l0_0 x5_1).f0.f0.f7) == a1_7 && (((rd_T38 l0_0 x5_1).f0.f0.f8) == a1_8 && (((rd_T38 l0_0 x5_1).f0.f0.f9) == a1_9 && (((rd_T38 l0_0 x5_1).f0.f0.f10) == a1_10 && (((rd_T38 l0_0 x5_1).f0.f0.f11) == a1_11 && (((rd_T38 l0_0 x5_1).f0.f0.f12) == a1_12 && (((rd_T38 l0_0 x5_1).f0.f0.f13) == a1_13 && (((rd_T38 l0_0 x5_1).f0.f0.f14) == a1_14 && (((rd_T38 l0_0 x5_1).f0.f0.f15) == a1_15 && (((rd_T38 l0_0 x5_1).f0.f0.f16) == a1_16 && (((rd_T38 l0_0 x5_1).f0.f0.f17) == a1_17 && (((rd_T38 l0_0 x5_1).f0.f0.f18) == a1_18 && (((rd_T38 l0_0 x5_1).f0.f0.f19) == a1_19 && (((rd_T38 l0_0 x5_1).f0.f0.f20) == a1_20 && (((rd_T38 l0_0 x5_1).f0.f0.f21) == a1_21 && (((rd_T38 l0_0 x5_1).f0.f0.f22) == a1_22 && (((rd_T38 l0_0 x5_1).f0.f0.f23) == a1_23 && (((rd_T38 l0_0 x5_1).f0.f0.f24) == a1_24 && (((rd_T38 l0_0 x5_1).f0.f0.f25) == a1_25 && (((rd_T38 l0_0 x5_1).f0.f0.f26) == a1_26 && (((rd_T38 l0_0 x5_1).f0.f0.f27) == a1_27 && (((rd_T38 l0_0 x5_1).f0.f0.f28) == a1_28 && (((rd_T38 l0_0 x5_1).f0.f0.f29) == a1_29 && (((rd_T38 l0_0 x5_1).f0.f0.f30) == a1_30 && (((rd_T38 l0_0 x5_1).f0.f0.f31) == a1_31)))))))))))))))))))))))))))))))) && (((rd_T38 l0_0 x5_1).f0.f1) == a1_32)) = true
     ·
      rw [if_pos c7] at H
      have c7b0 : ((((rd_T38 l0_0 x5_1).f0.f0.f0) == a1_0 && (((rd_T38 l0_0 x5_1).f0.f0.f1) == a1_1 && (((rd_T38 l0_0 x5_1).f0.f0.f2) == a1_2 && (((rd_T38 l0_0 x5_1).f0.f0.f3) == a1_3 && (((rd_T38 l0_0 x5_1).f0.f0.f4) == a1_4 && (((rd_T38 l0_0 x5_1).f0.f0.f5) == a1_5 && (((rd_T38 l0_0 x5_1).f0.f0.f6) == a1_6 && (((rd_T38 l0_0 x5_1).f0.f0.f7) == a1_7 && (((rd_T38 l0_0 x5_1).f0.f0.f8) == a1_8 && (((rd_T38 l0_0 x5_1).f0.f0.f9) == a1_9 && (((rd_T38 l0_0 x5_1).f0.f0.f10) == a1_10 && (((rd_T38 l0_0 x5_1).f0.f0.f11) == a1_11 && (((rd_T38 l0_0 x5_1).f0.f0.f12) == a1_12 && (((rd_T38 l0_0 x5_1).f0.f0.f13) == a1_13 && (((rd_T38 l0_0 x5_1).f0.f0.f14) == a1_14 && (((rd_T38 l0_0 x5_1).f0.f0.f15) == a1_15 && (((rd_T38 l0_0 x5_1).f0.f0.f16) == a1_16 && (((rd_T38 l0_0 x5_1).f0.f0.f17) == a1_17 && (((rd_T38 l0_0 x5_1).f0.f0.f18) == a1_18 && (((rd_T38 l0_0 x5_1).f0.f0.f19) == a1_19 && (((rd_T38 l0_0 x5_1).f0.f0.f20) == a1_20 && (((rd_T38 l0_0 x5_1).f0.f0.f21) == a1_21 && (((rd_T38 l0_0 x5_1).f0.f0.f22) == a1_22 && (((rd_T38 l0_0 x5_1).f0.f0.f23) == a1_23 && (((rd_T38 l0_0 x5_1).f0.f0.f24) == a1_24 && (((rd_T38 l0_0 x5_1).f0.f0.f25) == a1_25 && (((rd_T38 l0_0 x5_1).f0.f0.f26) == a1_26 && (((rd_T38 l0_0 x5_1).f0.f0.f27) == a1_27 && (((rd_T38 l0_0 x5_1).f0.f0.f28) == a1_28 && (((rd_T38 l0_0 x5_1).f0.f0.f29) == a1_29 && (((rd_T38 l0_0 x5_1).f0.f0.f30) == a1_30 && (((rd_T38 l0_0 x5_1).f0.f0.f31) == a1_31)))))))))))))))))))))))))))))))) && (((rd_T38 l0_0 x5_1).f0.f1) == a1_32)) = true := c7
      clear c7
      obtain rfl := Option.some.inj H
      have hnb8 := NB312_313.out
      have hnc8 := NB313_312.out
      have hcz9_0 : wr.cell? ⟨gb312, 0, none⟩ = some (.slice A0_0 l0_0.length c0_0) := (blk_cell BK312.out 0).trans rfl
      have hcz9_1 : wr.cell? ⟨gb312, 1, none⟩ = some (.slice A0_1 l0_1.length c0_1) := (blk_cell BK312.out 1).trans rfl
      have hcz9_2 : wr.cell? ⟨gb312, 2, none⟩ = some (.int .i64 a0_2) := (blk_cell BK312.out 2).trans rfl
      have hfz9_0 := blk_frozen BK312.out 0
      have hfz9_1 := blk_frozen BK312.out 1
      have hfz9_2 := blk_frozen BK312.out 2
      have p314 : 0 ≤ (x5_1 : Int) := of_decide_eq_true (by first | (with_reducible assumption) | assumption)
      have q314 : x5_1 < (l0_0.length : Int) := of_decide_eq_true (by first | (with_reducible assumption) | assumption)
      obtain ⟨ad314, e314, hx314_0, hx314_1, hx314_2, hx314_3, hx314_4, hx314_5, hx314_6, hx314_7, hx314_8, hx314_9, hx314_10, hx314_11, hx314_12, hx314_13, hx314_14, hx314_15, hx314_16, hx314_17, hx314_18, hx314_19, hx314_20, hx314_21, hx314_22, hx314_23, hx314_24, hx314_25, hx314_26, hx314_27, hx314_28, hx314_29, hx314_30, hx314_31, hx314_32, hx314_33, hx314_34, hx314_35, hx314_36⟩ := at_T38 HR0_0.out x5_1 p314 q314
      cases e314
      replace hx314_0 := (HB.out.cell (World.block_lt_of_cell? w _ hx314_0)).trans hx314_0
      replace hx314_1 := (HB.out.cell (World.block_lt_of_cell? w _ hx314_1)).trans hx314_1
      replace hx314_2 := (HB.out.cell (World.block_lt_of_cell? w _ hx314_2)).trans hx314_2
      replace hx314_3 := (HB.out.cell (World.block_lt_of_cell? w _ hx314_3)).trans hx314_3
      replace hx314_4 := (HB.out.cell (World.block_lt_of_cell? w _ hx314_4)).trans hx314_4
      replace hx314_5 := (HB.out.cell (World.block_lt_of_cell? w _ hx314_5)).trans hx314_5
      replace hx314_6 := (HB.out.cell (World.block_lt_of_cell? w _ hx314_6)).trans hx314_6
      replace hx314_7 := (HB.out.cell (World.block_lt_of_cell? w _ hx314_7)).trans hx314_7
      replace hx314_8 := (HB.out.cell (World.block_lt_of_cell? w _ hx314_8)).trans hx314_8
      replace hx314_9 := (HB.out.cell (World.block_lt_of_cell? w _ hx314_9)).trans hx314_9
      replace hx314_10 := (HB.out.cell (World.block_lt_of_cell? w _ hx314_10)).trans hx314_10
      replace hx314_11 := (HB.out.cell (World.block_lt_of_cell? w _ hx314_11)).trans hx314_11
      replace hx314_12 := (HB.out.cell (World.block_lt_of_cell? w _ hx314_12)).trans hx314_12
      replace hx314_13 := (HB.out.cell (World.block_lt_of_cell? w _ hx314_13)).trans hx314_13
      replace hx314_14 := (HB.out.cell (World.block_lt_of_cell? w _ hx314_14)).trans hx314_14
      replace hx314_15 := (HB.out.cell (World.block_lt_of_cell? w _ hx314_15)).trans hx314_15
      replace hx314_16 := (HB.out.cell (World.block_lt_of_cell? w _ hx314_16)).trans hx314_16
      replace hx314_17 := (HB.out.cell (World.block_lt_of_cell? w _ hx314_17)).trans hx314_17
      replace hx314_18 := (HB.out.cell (World.block_lt_of_cell? w _ hx314_18)).trans hx314_18
      replace hx314_19 := (HB.out.cell (World.block_lt_of_cell? w _ hx314_19)).trans hx314_19
      replace hx314_20 := (HB.out.cell (World.block_lt_of_cell? w _ hx314_20)).trans hx314_20
      replace hx314_21 := (HB.out.cell (World.block_lt_of_cell? w _ hx314_21)).trans hx314_21
      replace hx314_22 := (HB.out.cell (World.block_lt_of_cell? w _ hx314_22)).trans hx314_22
      replace hx314_23 := (HB.out.cell (World.block_lt_of_cell? w _ hx314_23)).trans hx314_23
      replace hx314_24 := (HB.out.cell (World.block_lt_of_cell? w _ hx314_24)).trans hx314_24
      replace hx314_25 := (HB.out.cell (World.block_lt_of_cell? w _ hx314_25)).trans hx314_25
      replace hx314_26 := (HB.out.cell (World.block_lt_of_cell? w _ hx314_26)).trans hx314_26
      replace hx314_27 := (HB.out.cell (World.block_lt_of_cell? w _ hx314_27)).trans hx314_27
      replace hx314_28 := (HB.out.cell (World.block_lt_of_cell? w _ hx314_28)).trans hx314_28
      replace hx314_29 := (HB.out.cell (World.block_lt_of_cell? w _ hx314_29)).trans hx314_29
      replace hx314_30 := (HB.out.cell (World.block_lt_of_cell? w _ hx314_30)).trans hx314_30
      replace hx314_31 := (HB.out.cell (World.block_lt_of_cell? w _ hx314_31)).trans hx314_31
      replace hx314_32 := (HB.out.cell (World.block_lt_of_cell? w _ hx314_32)).trans hx314_32
      replace hx314_33 := (HB.out.cell (World.block_lt_of_cell? w _ hx314_33)).trans hx314_33
      replace hx314_34 := (HB.out.cell (World.block_lt_of_cell? w _ hx314_34)).trans hx314_34
      replace hx314_35 := (HB.out.cell (World.block_lt_of_cell? w _ hx314_35)).trans hx314_35
      replace hx314_36 := (HB.out.cell (World.block_lt_of_cell? w _ hx314_36)).trans hx314_36
      replace p314 := eq_true p314
      replace q314 := eq_true q314
      have hw314_0_32 := Go.Proofs.Ytiodebjjbgcbhaa.Wide.mk32 hx314_0 hx314_1 hx314_2 hx314_3 hx314_4 hx314_5 hx314_6 hx314_7 hx314_8 hx314_9 hx314_10 hx314_11 hx314_12 hx314_13 hx314_14 hx314_15 hx314_16 hx314_17 hx314_18 hx314_19 hx314_20 hx314_21 hx314_22 hx314_23 hx314_24 hx314_25 hx314_26 hx314_27 hx314_28 hx314_29 hx314_30 hx314_31
      have hw314_0_33 := Go.Proofs.Ytiodebjjbgcbhaa.Wide.mk33 hx314_0 hx314_1 hx314_2 hx314_3 hx314_4 hx314_5 hx314_6 hx314_7 hx314_8 hx314_9 hx314_10 hx314_11 hx314_12 hx314_13 hx314_14 hx314_15 hx314_16 hx314_17 hx314_18 hx314_19 hx314_20 hx314_21 hx314_22 hx314_23 hx314_24 hx314_25 hx314_26 hx314_27 hx314_28 hx314_29 hx314_30 hx314_31 hx314_32
      have hw314_0_37 := Go.Proofs.Ytiodebjjbgcbhaa.Wide.mk37 hx314_0 hx314_1 hx314_2 hx314_3 hx314_4 hx314_5 hx314_6 hx314_7 hx314_8 hx314_9 hx314_10 hx314_11 hx314_12 hx314_13 hx314_14 hx314_15 hx314_16 hx314_17 hx314_18 hx314_19 hx314_20 hx314_21 hx314_22 hx314_23 hx314_24 hx314_25 hx314_26 hx314_27 hx314_28 hx314_29 hx314_30 hx314_31 hx314_32 hx314_33 hx314_34 hx314_35 hx314_36
      have hcz10_0 : wr.cell? ⟨gb313, 0, none⟩ = some (.int .u8 a1_0) := (blk_cell BK313.out 0).trans rfl
      have hcz10_1 : wr.cell? ⟨gb313, 1, none⟩ = some (.int .u8 a1_1) := (blk_cell BK313.out 1).trans rfl
      have hcz10_2 : wr.cell? ⟨gb313, 2, none⟩ = some (.int .u8 a1_2) := (blk_cell BK313.out 2).trans rfl
      have hcz10_3 : wr.cell? ⟨gb313, 3, none⟩ = some (.int .u8 a1_3) := (blk_cell BK313.out 3).trans rfl
      have hcz10_4 : wr.cell? ⟨gb313, 4, none⟩ = some (.int .u8 a1_4) := (blk_cell BK313.out 4).trans rfl
      have hcz10_5 : wr.cell? ⟨gb313, 5, none⟩ = some (.int .u8 a1_5) := (blk_cell BK313.out 5).trans rfl
      have hcz10_6 : wr.cell? ⟨gb313, 6, none⟩ = some (.int .u8 a1_6) := (blk_cell BK313.out 6).trans rfl
      have hcz10_7 : wr.cell? ⟨gb313, 7, none⟩ = some (.int .u8 a1_7) := (blk_cell BK313.out 7).trans rfl
      have hcz10_8 : wr.cell? ⟨gb313, 8, none⟩ = some (.int .u8 a1_8) := (blk_cell BK313.out 8).trans rfl
      have hcz10_9 : wr.cell? ⟨gb313, 9, none⟩ = some (.int .u8 a1_9) := (blk_cell BK313.out 9).trans rfl
      have hcz10_10 : wr.cell? ⟨gb313, 10, none⟩ = some (.int .u8 a1_10) := (blk_cell BK313.out 10).trans rfl
      have hcz10_11 : wr.cell? ⟨gb313, 11, none⟩ = some (.int .u8 a1_11) := (blk_cell BK313.out 11).trans rfl
      have hcz10_12 : wr.cell? ⟨gb313, 12, none⟩ = some (.int .u8 a1_12) := (blk_cell BK313.out 12).trans rfl
      have hcz10_13 : wr.cell? ⟨gb313, 13, none⟩ = some (.int .u8 a1_13) := (blk_cell BK313.out 13).trans rfl
      have hcz10_14 : wr.cell? ⟨gb313, 14, none⟩ = some (.int .u8 a1_14) := (blk_cell BK313.out 14).trans rfl
      have hcz10_15 : wr.cell? ⟨gb313, 15, none⟩ = some (.int .u8 a1_15) := (blk_cell BK313.out 15).trans rfl
      have hcz10_16 : wr.cell? ⟨gb313, 16, none⟩ = some (.int .u8 a1_16) := (blk_cell BK313.out 16).trans rfl
      have hcz10_17 : wr.cell? ⟨gb313, 17, none⟩ = some (.int .u8 a1_17) := (blk_cell BK313.out 17).trans rfl
      have hcz10_18 : wr.cell? ⟨gb313, 18, none⟩ = some (.int .u8 a1_18) := (blk_cell BK313.out 18).trans rfl
      have hcz10_19 : wr.cell? ⟨gb313, 19, none⟩ = some (.int .u8 a1_19) := (blk_cell BK313.out 19).trans rfl
      have hcz10_20 : wr.cell? ⟨gb313, 20, none⟩ = some (.int .u8 a1_20) := (blk_cell BK313.out 20).trans rfl
      have hcz10_21 : wr.cell? ⟨gb313, 21, none⟩ = some (.int .u8 a1_21) := (blk_cell BK313.out 21).trans rfl
      have hcz10_22 : wr.cell? ⟨gb313, 22, none⟩ = some (.int .u8 a1_22) := (blk_cell BK313.out 22).trans rfl
      have hcz10_23 : wr.cell? ⟨gb313, 23, none⟩ = some (.int .u8 a1_23) := (blk_cell BK313.out 23).trans rfl
      have hcz10_24 : wr.cell? ⟨gb313, 24, none⟩ = some (.int .u8 a1_24) := (blk_cell BK313.out 24).trans rfl
      have hcz10_25 : wr.cell? ⟨gb313, 25, none⟩ = some (.int .u8 a1_25) := (blk_cell BK313.out 25).trans rfl
      have hcz10_26 : wr.cell? ⟨gb313, 26, none⟩ = some (.int .u8 a1_26) := (blk_cell BK313.out 26).trans rfl
      have hcz10_27 : wr.cell? ⟨gb313, 27, none⟩ = some (.int .u8 a1_27) := (blk_cell BK313.out 27).trans rfl
      have hcz10_28 : wr.cell? ⟨gb313, 28, none⟩ = some (.int .u8 a1_28) := (blk_cell BK313.out 28).trans rfl
      have hcz10_29 : wr.cell? ⟨gb313, 29, none⟩ = some (.int .u8 a1_29) := (blk_cell BK313.out 29).trans rfl
      have hcz10_30 : wr.cell? ⟨gb313, 30, none⟩ = some (.int .u8 a1_30) := (blk_cell BK313.out 30).trans rfl
      have hcz10_31 : wr.cell? ⟨gb313, 31, none⟩ = some (.int .u8 a1_31) := (blk_cell BK313.out 31).trans rfl
      have hcz10_32 : wr.cell? ⟨gb313, 32, none⟩ = some (.int .i64 a1_32) := (blk_cell BK313.out 32).trans rfl
      have hwz10_0_32 := Go.Proofs.Ytiodebjjbgcbhaa.Wide.mk32 (a := ⟨gb313, 0, none⟩) hcz10_0 hcz10_1 hcz10_2 hcz10_3 hcz10_4 hcz10_5 hcz10_6 hcz10_7 hcz10_8 hcz10_9 hcz10_10 hcz10_11 hcz10_12 hcz10_13 hcz10_14 hcz10_15 hcz10_16 hcz10_17 hcz10_18 hcz10_19 hcz10_20 hcz10_21 hcz10_22 hcz10_23 hcz10_24 hcz10_25 hcz10_26 hcz10_27 hcz10_28 hcz10_29 hcz10_30 hcz10_31
      have hwz10_0_33 := Go.Proofs.Ytiodebjjbgcbhaa.Wide.mk33 (a := ⟨gb313, 0, none⟩) hcz10_0 hcz10_1 hcz10_2 hcz10_3 hcz10_4 hcz10_5 hcz10_6 hcz10_7 hcz10_8 hcz10_9 hcz10_10 hcz10_11 hcz10_12 hcz10_13 hcz10_14 hcz10_15 hcz10_16 hcz10_17 hcz10_18 hcz10_19 hcz10_20 hcz10_21 hcz10_22 hcz10_23 hcz10_24 hcz10_25 hcz10_26 hcz10_27 hcz10_28 hcz10_29 hcz10_30 hcz10_31 hcz10_32
      have hfz10_0 := blk_frozen BK313.out 0
      have hfz10_1 := blk_frozen BK313.out 1
      have hfz10_2 := blk_frozen BK313.out 2
      have hfz10_3 := blk_frozen BK313.out 3
      have hfz10_4 := blk_frozen BK313.out 4
      have hfz10_5 := blk_frozen BK313.out 5
      have hfz10_6 := blk_frozen BK313.out 6
      have hfz10_7 := blk_frozen BK313.out 7
      have hfz10_8 := blk_frozen BK313.out 8
      have hfz10_9 := blk_frozen BK313.out 9
      have hfz10_10 := blk_frozen BK313.out 10
      have hfz10_11 := blk_frozen BK313.out 11
      have hfz10_12 := blk_frozen BK313.out 12
      have hfz10_13 := blk_frozen BK313.out 13
      have hfz10_14 := blk_frozen BK313.out 14
      have hfz10_15 := blk_frozen BK313.out 15
      have hfz10_16 := blk_frozen BK313.out 16
      have hfz10_17 := blk_frozen BK313.out 17
      have hfz10_18 := blk_frozen BK313.out 18
      have hfz10_19 := blk_frozen BK313.out 19
      have hfz10_20 := blk_frozen BK313.out 20
      have hfz10_21 := blk_frozen BK313.out 21
      have hfz10_22 := blk_frozen BK313.out 22
      have hfz10_23 := blk_frozen BK313.out 23
      have hfz10_24 := blk_frozen BK313.out 24
      have hfz10_25 := blk_frozen BK313.out 25
      have hfz10_26 := blk_frozen BK313.out 26
      have hfz10_27 := blk_frozen BK313.out 27
      have hfz10_28 := blk_frozen BK313.out 28
      have hfz10_29 := blk_frozen BK313.out 29
      have hfz10_30 := blk_frozen BK313.out 30
      have hfz10_31 := blk_frozen BK313.out 31
      have hfz10_32 := blk_frozen BK313.out 32
      go_wp2
      repeat (go_quiet (fail); try go_wp2)
      go_ret
      exact ⟨by first | rfl | (simp [errW_none, errW_some] <;> rfl) | (simp [*, errW_none, errW_some] <;> rfl), by repeat (first | (with_reducible first | exact HB.out | apply below_alloc | apply pw_below_drewN | apply below_drew1 | refine below_set ?_ GE312.out | refine below_set ?_ GE313.out) | exact HB.out)⟩
     ·
      rw [if_neg c7] at H
      have c7b0 : ((((rd_T38 l0_0 x5_1).f0.f0.f0) == a1_0 && (((rd_T38 l0_0 x5_1).f0.f0.f1) == a1_1 && (((rd_T38 l0_0 x5_1).f0.f0.f2) == a1_2 && (((rd_T38 l0_0 x5_1).f0.f0.f3) == a1_3 && (((rd_T38 l0_0 x5_1).f0.f0.f4) == a1_4 && (((rd_T38 l0_0 x5_1).f0.f0.f5) == a1_5 && (((rd_T38 l0_0 x5_1).f0.f0.f6) == a1_6 && (((rd_T38 l0_0 x5_1).f0.f0.f7) == a1_7 && (((rd_T38 l0_0 x5_1).f0.f0.f8) == a1_8 && (((rd_T38 l0_0 x5_1).f0.f0.f9) == a1_9 && (((rd_T38 l0_0 x5_1).f0.f0.f10) == a1_10 && (((rd_T38 l0_0 x5_1).f0.f0.f11) == a1_11 && (((rd_T38 l0_0 x5_1).f0.f0.f12) == a1_12 && (((rd_T38 l0_0 x5_1).f0.f0.f13) == a1_13 && (((rd_T38 l0_0 x5_1).f0.f0.f14) == a1_14 && (((rd_T38 l0_0 x5_1).f0.f0.f15) == a1_15 && (((rd_T38 l0_0 x5_1).f0.f0.f16) == a1_16 && (((rd_T38 l0_0 x5_1).f0.f0.f17) == a1_17 && (((rd_T38 l0_0 x5_1).f0.f0.f18) == a1_18 && (((rd_T38 l0_0 x5_1).f0.f0.f19) == a1_19 && (((rd_T38 l0_0 x5_1).f0.f0.f20) == a1_20 && (((rd_T38 l0_0 x5_1).f0.f0.f21) == a1_21 && (((rd_T38 l0_0 x5_1).f0.f0.f22) == a1_22 && (((rd_T38 l0_0 x5_1).f0.f0.f23) == a1_23 && (((rd_T38 l0_0 x5_1).f0.f0.f24) == a1_24 && (((rd_T38 l0_0 x5_1).f0.f0.f25) == a1_25 && (((rd_T38 l0_0 x5_1).f0.f0.f26) == a1_26 && (((rd_T38 l0_0 x5_1).f0.f0.f27) == a1_27 && (((rd_T38 l0_0 x5_1).f0.f0.f28) == a1_28 && (((rd_T38 l0_0 x5_1).f0.f0.f29) == a1_29 && (((rd_T38 l0_0 x5_1).f0.f0.f30) == a1_30 && (((rd_T38 l0_0 x5_1).f0.f0.f31) == a1_31)))))))))))))))))))))))))))))))) && (((rd_T38 l0_0 x5_1).f0.f1) == a1_32)) = false := by simpa using c7
      clear c7
      have H' := Aside0.mk H
      clear H
      have hnb11 := NB312_313.out
      have hnc11 := NB313_312.out
      have hcz12_0 : wr.cell? ⟨gb312, 0, none⟩ = some (.slice A0_0 l0_0.length c0_0) := (blk_cell BK312.out 0).trans rfl
      have hcz12_1 : wr.cell? ⟨gb312, 1, none⟩ = some (.slice A0_1 l0_1.length c0_1) := (blk_cell BK312.out 1).trans rfl
      have hcz12_2 : wr.cell? ⟨gb312, 2, none⟩ = some (.int .i64 a0_2) := (blk_cell BK312.out 2).trans rfl
      have hfz12_0 := blk_frozen BK312.out 0
      have hfz12_1 := blk_frozen BK312.out 1
      have hfz12_2 := blk_frozen BK312.out 2
      have p314 : 0 ≤ (x5_1 : Int) := of_decide_eq_true (by first | (with_reducible assumption) | assumption)
      have q314 : x5_1 < (l0_0.length : Int) := of_decide_eq_true (by first | (with_reducible assumption) | assumption)
      obtain ⟨ad314, e314, hx314_0, hx314_1, hx314_2, hx314_3, hx314_4, hx314_5, hx314_6, hx314_7, hx314_8, hx314_9, hx314_10, hx314_11, hx314_12, hx314_13, hx314_14, hx314_15, hx314_16, hx314_17, hx314_18, hx314_19, hx314_20, hx314_21, hx314_22, hx314_23, hx314_24, hx314_25, hx314_26, hx314_27, hx314_28, hx314_29, hx314_30, hx314_31, hx314_32, hx314_33, hx314_34, hx314_35, hx314_36⟩ := at_T38 HR0_0.out x5_1 p314 q314
      cases e314
      replace hx314_0 := (HB.out.cell (World.block_lt_of_cell? w _ hx314_0)).trans hx314_0
      replace hx314_1 := (HB.out.cell (World.block_lt_of_cell? w _ hx314_1)).trans hx314_1
      replace hx314_2 := (HB.out.cell (World.block_lt_of_cell? w _ hx314_2)).trans hx314_2
      replace hx314_3 := (HB.out.cell (World.block_lt_of_cell? w _ hx314_3)).trans hx314_3
      replace hx314_4 := (HB.out.cell (World.block_lt_of_cell? w _ hx314_4)).trans hx314_4
      replace hx314_5 := (HB.out.cell (World.block_lt_of_cell? w _ hx314_5)).trans hx314_5
      replace hx314_6 := (HB.out.cell (World.block_lt_of_cell? w _ hx314_6)).trans hx314_6
      replace hx314_7 := (HB.out.cell (World.block_lt_of_cell? w _ hx314_7)).trans hx314_7
      replace hx314_8 := (HB.out.cell (World.block_lt_of_cell? w _ hx314_8)).trans hx314_8
      replace hx314_9 := (HB.out.cell (World.block_lt_of_cell? w _ hx314_9)).trans hx314_9
      replace hx314_10 := (HB.out.cell (World.block_lt_of_cell? w _ hx314_10)).trans hx314_10
      replace hx314_11 := (HB.out.cell (World.block_lt_of_cell? w _ hx314_11)).trans hx314_11
      replace hx314_12 := (HB.out.cell (World.block_lt_of_cell? w _ hx314_12)).trans hx314_12
      replace hx314_13 := (HB.out.cell (World.block_lt_of_cell? w _ hx314_13)).trans hx314_13
      replace hx314_14 := (HB.out.cell (World.block_lt_of_cell? w _ hx314_14)).trans hx314_14
      replace hx314_15 := (HB.out.cell (World.block_lt_of_cell? w _ hx314_15)).trans hx314_15
      replace hx314_16 := (HB.out.cell (World.block_lt_of_cell? w _ hx314_16)).trans hx314_16
      replace hx314_17 := (HB.out.cell (World.block_lt_of_cell? w _ hx314_17)).trans hx314_17
      replace hx314_18 := (HB.out.cell (World.block_lt_of_cell? w _ hx314_18)).trans hx314_18
      replace hx314_19 := (HB.out.cell (World.block_lt_of_cell? w _ hx314_19)).trans hx314_19
      replace hx314_20 := (HB.out.cell (World.block_lt_of_cell? w _ hx314_20)).trans hx314_20
      replace hx314_21 := (HB.out.cell (World.block_lt_of_cell? w _ hx314_21)).trans hx314_21
      replace hx314_22 := (HB.out.cell (World.block_lt_of_cell? w _ hx314_22)).trans hx314_22
      replace hx314_23 := (HB.out.cell (World.block_lt_of_cell? w _ hx314_23)).trans hx314_23
      replace hx314_24 := (HB.out.cell (World.block_lt_of_cell? w _ hx314_24)).trans hx314_24
      replace hx314_25 := (HB.out.cell (World.block_lt_of_cell? w _ hx314_25)).trans hx314_25
      replace hx314_26 := (HB.out.cell (World.block_lt_of_cell? w _ hx314_26)).trans hx314_26
      replace hx314_27 := (HB.out.cell (World.block_lt_of_cell? w _ hx314_27)).trans hx314_27
      replace hx314_28 := (HB.out.cell (World.block_lt_of_cell? w _ hx314_28)).trans hx314_28
      replace hx314_29 := (HB.out.cell (World.block_lt_of_cell? w _ hx314_29)).trans hx314_29
      replace hx314_30 := (HB.out.cell (World.block_lt_of_cell? w _ hx314_30)).trans hx314_30
      replace hx314_31 := (HB.out.cell (World.block_lt_of_cell? w _ hx314_31)).trans hx314_31
      replace hx314_32 := (HB.out.cell (World.block_lt_of_cell? w _ hx314_32)).trans hx314_32
      replace hx314_33 := (HB.out.cell (World.block_lt_of_cell? w _ hx314_33)).trans hx314_33
      replace hx314_34 := (HB.out.cell (World.block_lt_of_cell? w _ hx314_34)).trans hx314_34
      replace hx314_35 := (HB.out.cell (World.block_lt_of_cell? w _ hx314_35)).trans hx314_35
      replace hx314_36 := (HB.out.cell (World.block_lt_of_cell? w _ hx314_36)).trans hx314_36
      replace p314 := eq_true p314
      replace q314 := eq_true q314
      have hw314_0_32 := Go.Proofs.Ytiodebjjbgcbhaa.Wide.mk32 hx314_0 hx314_1 hx314_2 hx314_3 hx314_4 hx314_5 hx314_6 hx314_7 hx314_8 hx314_9 hx314_10 hx314_11 hx314_12 hx314_13 hx314_14 hx314_15 hx314_16 hx314_17 hx314_18 hx314_19 hx314_20 hx314_21 hx314_22 hx314_23 hx314_24 hx314_25 hx314_26 hx314_27 hx314_28 hx314_29 hx314_30 hx314_31
      have hw314_0_33 := Go.Proofs.Ytiodebjjbgcbhaa.Wide.mk33 hx314_0 hx314_1 hx314_2 hx314_3 hx314_4 hx314_5 hx314_6 hx314_7 hx314_8 hx314_9 hx314_10 hx314_11 hx314_12 hx314_13 hx314_14 hx314_15 hx314_16 hx314_17 hx314_18 hx314_19 hx314_20 hx314_21 hx314_22 hx314_23 hx314_24 hx314_25 hx314_26 hx314_27 hx314_28 hx314_29 hx314_30 hx314_31 hx314_32
      have hw314_0_37 := Go.Proofs.Ytiodebjjbgcbhaa.Wide.mk37 hx314_0 hx314_1 hx314_2 hx314_3 hx314_4 hx314_5 hx314_6 hx314_7 hx314_8 hx314_9 hx314_10 hx314_11 hx314_12 hx314_13 hx314_14 hx314_15 hx314_16 hx314_17 hx314_18 hx314_19 hx314_20 hx314_21 hx314_22 hx314_23 hx314_24 hx314_25 hx314_26 hx314_27 hx314_28 hx314_29 hx314_30 hx314_31 hx314_32 hx314_33 hx314_34 hx314_35 hx314_36
      have hcz13_0 : wr.cell? ⟨gb313, 0, none⟩ = some (.int .u8 a1_0) := (blk_cell BK313.out 0).trans rfl
      have hcz13_1 : wr.cell? ⟨gb313, 1, none⟩ = some (.int .u8 a1_1) := (blk_cell BK313.out 1).trans rfl
      have hcz13_2 : wr.cell? ⟨gb313, 2, none⟩ = some (.int .u8 a1_2) := (blk_cell BK313.out 2).trans rfl
      have hcz13_3 : wr.cell? ⟨gb313, 3, none⟩ = some (.int .u8 a1_3) := (blk_cell BK313.out 3).trans rfl
      have hcz13_4 : wr.cell? ⟨gb313, 4, none⟩ = some (.int .u8 a1_4) := (blk_cell BK313.out 4).trans rfl
      have hcz13_5 : wr.cell? ⟨gb313, 5, none⟩ = some (.int .u8 a1_5) := (blk_cell BK313.out 5).trans rfl
      have hcz13_6 : wr.cell? ⟨gb313, 6, none⟩ = some (.int .u8 a1_6) := (blk_cell BK313.out 6).trans rfl
      have hcz13_7 : wr.cell? ⟨gb313, 7, none⟩ = some (.int .u8 a1_7) := (blk_cell BK313.out 7).trans rfl
      have hcz13_8 : wr.cell? ⟨gb313, 8, none⟩ = some (.int .u8 a1_8) := (blk_cell BK313.out 8).trans rfl
      have hcz13_9 : wr.cell? ⟨gb313, 9, none⟩ = some (.int .u8 a1_9) := (blk_cell BK313.out 9).trans rfl
      have hcz13_10 : wr.cell? ⟨gb313, 10, none⟩ = some (.int .u8 a1_10) := (blk_cell BK313.out 10).trans rfl
      have hcz13_11 : wr.cell? ⟨gb313, 11, none⟩ = some (.int .u8 a1_11) := (blk_cell BK313.out 11).trans rfl
      have hcz13_12 : wr.cell? ⟨gb313, 12, none⟩ = some (.int .u8 a1_12) := (blk_cell BK313.out 12).trans rfl
      have hcz13_13 : wr.cell? ⟨gb313, 13, none⟩ = some (.int .u8 a1_13) := (blk_cell BK313.out 13).trans rfl
      have hcz13_14 : wr.cell? ⟨gb313, 14, none⟩ = some (.int .u8 a1_14) := (blk_cell BK313.out 14).trans rfl
      have hcz13_15 : wr.cell? ⟨gb313, 15, none⟩ = some (.int .u8 a1_15) := (blk_cell BK313.out 15).trans rfl
      have hcz13_16 : wr.cell? ⟨gb313, 16, none⟩ = some (.int .u8 a1_16) := (blk_cell BK313.out 16).trans rfl
      have hcz13_17 : wr.cell? ⟨gb313, 17, none⟩ = some (.int .u8 a1_17) := (blk_cell BK313.out 17).trans rfl
      have hcz13_18 : wr.cell? ⟨gb313, 18, none⟩ = some (.int .u8 a1_18) := (blk_cell BK313.out 18).trans rfl
      have hcz13_19 : wr.cell? ⟨gb313, 19, none⟩ = some (.int .u8 a1_19) := (blk_cell BK313.out 19).trans rfl
      have hcz13_20 : wr.cell? ⟨gb313, 20, none⟩ = some (.int .u8 a1_20) := (blk_cell BK313.out 20).trans rfl
      have hcz13_21 : wr.cell? ⟨gb313, 21, none⟩ = some (.int .u8 a1_21) := (blk_cell BK313.out 21).trans rfl
      have hcz13_22 : wr.cell? ⟨gb313, 22, none⟩ = some (.int .u8 a1_22) := (blk_cell BK313.out 22).trans rfl
      have hcz13_23 : wr.cell? ⟨gb313, 23, none⟩ = some (.int .u8 a1_23) := (blk_cell BK313.out 23).trans rfl
      have hcz13_24 : wr.cell? ⟨gb313, 24, none⟩ = some (.int .u8 a1_24) := (blk_cell BK313.out 24).trans rfl
      have hcz13_25 : wr.cell? ⟨gb313, 25, none⟩ = some (.int .u8 a1_25) := (blk_cell BK313.out 25).trans rfl
      have hcz13_26 : wr.cell? ⟨gb313, 26, none⟩ = some (.int .u8 a1_26) := (blk_cell BK313.out 26).trans rfl
      have hcz13_27 : wr.cell? ⟨gb313, 27, none⟩ = some (.int .u8 a1_27) := (blk_cell BK313.out 27).trans rfl
      have hcz13_28 : wr.cell? ⟨gb313, 28, none⟩ = some (.int .u8 a1_28) := (blk_cell BK313.out 28).trans rfl
      have hcz13_29 : wr.cell? ⟨gb313, 29, none⟩ = some (.int .u8 a1_29) := (blk_cell BK313.out 29).trans rfl
      have hcz13_30 : wr.cell? ⟨gb313, 30, none⟩ = some (.int .u8 a1_30) := (blk_cell BK313.out 30).trans rfl
      have hcz13_31 : wr.cell? ⟨gb313, 31, none⟩ = some (.int .u8 a1_31) := (blk_cell BK313.out 31).trans rfl
      have hcz13_32 : wr.cell? ⟨gb313, 32, none⟩ = some (.int .i64 a1_32) := (blk_cell BK313.out 32).trans rfl
      have hwz13_0_32 := Go.Proofs.Ytiodebjjbgcbhaa.Wide.mk32 (a := ⟨gb313, 0, none⟩) hcz13_0 hcz13_1 hcz13_2 hcz13_3 hcz13_4 hcz13_5 hcz13_6 hcz13_7 hcz13_8 hcz13_9 hcz13_10 hcz13_11 hcz13_12 hcz13_13 hcz13_14 hcz13_15 hcz13_16 hcz13_17 hcz13_18 hcz13_19 hcz13_20 hcz13_21 hcz13_22 hcz13_23 hcz13_24 hcz13_25 hcz13_26 hcz13_27 hcz13_28 hcz13_29 hcz13_30 hcz13_31
      have hwz13_0_33 := Go.Proofs.Ytiodebjjbgcbhaa.Wide.mk33 (a := ⟨gb313, 0, none⟩) hcz13_0 hcz13_1 hcz13_2 hcz13_3 hcz13_4 hcz13_5 hcz13_6 hcz13_7 hcz13_8 hcz13_9 hcz13_10 hcz13_11 hcz13_12 hcz13_13 hcz13_14 hcz13_15 hcz13_16 hcz13_17 hcz13_18 hcz13_19 hcz13_20 hcz13_21 hcz13_22 hcz13_23 hcz13_24 hcz13_25 hcz13_26 hcz13_27 hcz13_28 hcz13_29 hcz13_30 hcz13_31 hcz13_32
      have hfz13_0 := blk_frozen BK313.out 0
      have hfz13_1 := blk_frozen BK313.out 1
      have hfz13_2 := blk_frozen BK313.out 2
      have hfz13_3 := blk_frozen BK313.out 3
      have hfz13_4 := blk_frozen BK313.out 4
      have hfz13_5 := blk_frozen BK313.out 5
      have hfz13_6 := blk_frozen BK313.out 6
      have hfz13_7 := blk_frozen BK313.out 7
      have hfz13_8 := blk_frozen BK313.out 8
      have hfz13_9 := blk_frozen BK313.out 9
      have hfz13_10 := blk_frozen BK313.out 10
      have hfz13_11 := blk_frozen BK313.out 11
      have hfz13_12 := blk_frozen BK313.out 12
      have hfz13_13 := blk_frozen BK313.out 13
      have hfz13_14 := blk_frozen BK313.out 14
      have hfz13_15 := blk_frozen BK313.out 15
      have hfz13_16 := blk_frozen BK313.out 16
      have hfz13_17 := blk_frozen BK313.out 17
      have hfz13_18 := blk_frozen BK313.out 18
      have hfz13_19 := blk_frozen BK313.out 19
      have hfz13_20 := blk_frozen BK313.out 20
      have hfz13_21 := blk_frozen BK313.out 21
      have hfz13_22 := blk_frozen BK313.out 22
      have hfz13_23 := blk_frozen BK313.out 23
      have hfz13_24 := blk_frozen BK313.out 24
      have hfz13_25 := blk_frozen BK313.out 25
      have hfz13_26 := blk_frozen BK313.out 26
      have hfz13_27 := blk_frozen BK313.out 27
      have hfz13_28 := blk_frozen BK313.out 28
      have hfz13_29 := blk_frozen BK313.out 29
      have hfz13_30 := blk_frozen BK313.out 30
      have hfz13_31 := blk_frozen BK313.out 31
      have hfz13_32 := blk_frozen BK313.out 32
      go_wp2
      repeat (go_quiet (fail); try go_wp2)
      go_roundg k1
      case measure => have := HK1.out; omega
      case rel => exact ⟨(wrap64 (x5_1 + 1)), (by first | rfl | (simp; done) | (simp [*]; done)), H', ⟨by have := HK1.out; omega⟩, ⟨by (with_reducible repeat (first | refine blk_drewN ?_ _ | refine blk_drew ?_ | refine blk_alloc ?_ _)); exact BK312.out⟩, ⟨by (with_reducible repeat (first | refine blk_drewN ?_ _ | refine blk_drew ?_ | refine blk_alloc ?_ _)); exact BK313.out⟩, ⟨by repeat (first | (with_reducible first | exact HB.out | apply below_alloc | apply pw_below_drewN | apply below_drew1 | refine below_set ?_ GE312.out | refine below_set ?_ GE313.out) | exact HB.out)⟩⟩
    ·
     rw [if_neg c6] at H
     exact absurd H (by simp)
   ·
    rw [if_neg c5] at H
    have c5b0 : decide (x5_1 < (l0_0.length : Int)) = false := decide_eq_false c5
    clear c5
    obtain rfl := Option.some.inj H
    have hnb14 := NB312_313.out
    have hnc14 := NB313_312.out
    have hcz15_0 : wr.cell? ⟨gb312, 0, none⟩ = some (.slice A0_0 l0_0.length c0_0) := (blk_cell BK312.out 0).trans rfl
    have hcz15_1 : wr.cell? ⟨gb312, 1, none⟩ = some (.slice A0_1 l0_1.length c0_1) := (blk_cell BK312.out 1).trans rfl
    have hcz15_2 : wr.cell? ⟨gb312, 2, none⟩ = some (.int .i64 a0_2) := (blk_cell BK312.out 2).trans rfl
    have hfz15_0 := blk_frozen BK312.out 0
    have hfz15_1 := blk_frozen BK312.out 1
    have hfz15_2 := blk_frozen BK312.out 2
    go_wp2
    repeat (go_quiet (fail); try go_wp2)
    go_ret
    exact ⟨by first | rfl | (simp [errW_none, errW_some] <;> rfl) | (simp [*, errW_none, errW_some] <;> rfl), by repeat (first | (with_reducible first | exact HB.out | apply below_alloc | apply pw_below_drewN | apply below_drew1 | refine below_set ?_ GE312.out | refine below_set ?_ GE313.out) | exact HB.out)⟩

end Go.Proofs.Ytiodebjjbgcbhaa.QRep
