/- Functions of the program as plain Lean functions, and that its calls come to what these tell: written by a program of this session; Lean checks it. -/
import Derived.Test.YtmoecidfmgeafaaDoorQPntx0
import Derived.Test.YtmoecidfmgeafaaDoorQPntx3
import Derived.Test.YtmoecidfmgeafaaDoorQPntx4
import Derived.Test.YtmoecidfmgeafaaDoorQPntx5
import Derived.Test.YtmoecidfmgeafaaDoorQPntx6
import Derived.Test.YtmoecidfmgeafaaDoorQPntx7
import Derived.Test.YtmoecidfmgeafaaDoorQPntx8
import Derived.Test.YtmoecidfmgeafaaDoorPurePointOrder
namespace Go.Proofs.YtmoecidfmgeafaaDoor.QPnt
open Go.RowKit Go.Proofs.YtmoecidfmgeafaaDoorW.PrintWords Go.Proofs.YtmoecidfmgeafaaDoorW.PrintLast Go.Proofs.YtmoecidfmgeafaaDoorW.PrintMore
attribute [local go_sem] max2_int min2_int max_two min_two max_three min_three max_four min_four  run_fop run_feq run_fne run_flt run_fle run_fgt run_fge run_fint run_toi run_real' run_imag' run_complex' run_ceq run_cne run_cadd run_csub run_cmul Go.Proofs.YtmoecidfmgeafaaDoor.Wide.cellsAt_drewN Go.Proofs.YtmoecidfmgeafaaDoor.Wide.cellsAt_drew Go.Proofs.YtmoecidfmgeafaaDoor.Wide.lw32 Go.Proofs.YtmoecidfmgeafaaDoor.Wide.lw33
attribute [local go_sem ↓ high] Go.Proofs.YtmoecidfmgeafaaDoor.Wide.hv32 Go.Proofs.YtmoecidfmgeafaaDoor.Wide.hv33
set_option linter.unusedVariables false
set_option linter.unusedSimpArgs false

set_option maxHeartbeats 8000000 in
set_option maxRecDepth 100000 in
theorem coraclelaw3_PointOrder.calls (k : Nat) (A0 : Option Addr) (c0 : Nat) (l0 : List (S25)) (a1 : Int) (r : Bool) (w : World) (hr0 : Kd.C k25 w A0 l0.length l0) (hc0 : l0.length ≤ c0) (h : coraclelaw3_PointOrder.f k l0 a1 = some r) :
  Calls Tryd.prog 5 #[.slice A0 l0.length c0, .int .i64 a1] w fun e w' => e = .returned (.bool r) ∧ Below w.heap.size w w' := by
 have hu25 := Tryd.underlying25
 have HR0 := Aside0.mk hr0
 have HC0 := Aside0.mk hc0
 clear hr0 hc0
 have HB := Aside0.mk (Below.refl w.heap.size w)
 have H : (if (l0.length : Int) = 0 then (coraclelaw3_PointOrder.j0 k l0 a1 true) else (coraclelaw3_PointOrder.j0 k l0 a1 (decide ((l0.length : Int) > 60)))) = some r := h
 have HTOLD := Aside0.mk (Go.Proofs.YtmoecidfmgeafaaDoor.PurePointOrder.told h)
 clear h
 have HC3 := Aside0.mk H
 clear H
 go_enter Tryd.func5, Tryd.ntmps5
 go_upto_region 1 with (fail)
 go_cut [17] (fun v17 wc => ∃ (kq : Nat) (x17_2 : Bool), v17 = .bool x17_2 ∧ Aside0 (coraclelaw3_PointOrder.j0 kq l0 a1 x17_2 = some r) ∧ Aside0 (kq ≤ k) ∧ Aside0 (Below w.heap.size w wc))
 case first =>
  have H := HC3.out
  clear HC3
  by_cases c4 : (l0.length : Int) = 0
  ·
   rw [if_pos c4] at H
   have c4b0 : ((l0.length : Int) == 0) = true := beq_iff_eq.mpr c4
   have c4b1 : ((l0.length : Int) != 0) = false := bne_eq_false_iff_eq.mpr c4
   clear c4
   (first | rw [c4b0] | (simp only [i64_w, i32_w]; rw [c4b0]) | skip)
   have H' := Aside0.mk H
   clear H
   go_wp2
   go_meet
   case rel => exact ⟨_, (true), (by first | rfl | (simp; done) | (simp [*]; done)), H', ⟨by first | omega | exact Nat.le_refl _⟩, ⟨by repeat (first | (with_reducible first | exact HB.out | apply below_alloc | apply pw_below_drewN | apply below_drew1) | exact HB.out)⟩⟩
  ·
   rw [if_neg c4] at H
   have c4b0 : ((l0.length : Int) == 0) = false := beq_eq_false_iff_ne.mpr c4
   have c4b1 : ((l0.length : Int) != 0) = true := bne_iff_ne.mpr c4
   have c4b2 : ¬ (l0 = []) := fun h_ => c4 (by rw [h_]; rfl)
   (first | rw [c4b0] | (simp only [i64_w, i32_w]; rw [c4b0]) | skip)
   have H' := Aside0.mk H
   clear H
   go_wp2
   go_meet
   case rel => exact ⟨_, (decide ((l0.length : Int) > 60)), (by first | rfl | (simp; done) | (simp [*]; done)), H', ⟨by first | omega | exact Nat.le_refl _⟩, ⟨by repeat (first | (with_reducible first | exact HB.out | apply below_alloc | apply pw_below_drewN | apply below_drew1) | exact HB.out)⟩⟩
 case rest =>
  clear HC3
  try clear p2
  try clear c4
  try clear c4b0
  try clear c4b1
  try clear c4b2
  obtain ⟨kq, x17_2, rfl, HA, HJ2, HB⟩ := hcut
  cases kq with
  | zero => exact absurd HA.out (by simp [coraclelaw3_PointOrder.j0])
  | succ kj2 =>
   have H := HA.out
   clear HA
   simp only [coraclelaw3_PointOrder.j0] at H
   by_cases c5 : x17_2 = true
   ·
    subst c5
    have H1 : ((coraclelaw3_awake.f).bind fun t266 => (some t266)) = some r := by rw [if_pos rfl] at H; exact H
    clear H
    have H := H1
    clear H1
    replace H := Option.bind_eq_some_iff.mp H
    obtain ⟨t266, A60, H⟩ := H
    replace H : (some t266) = some r := H
    have A6 := Aside0.mk A60
    clear A60
    obtain rfl := Option.some.inj H
    go_wp2_with (first | ((with_reducible refine gate_callee (f := 7) rfl ?_); refine goesL_ (some 18) rfl rfl Tryd.func7 (by kernel_rfl) rfl #[] rfl (by (try simp only [List.map_toArray, List.map_cons, List.map_nil]); first | done | rfl | (simp only [List.length_drop, List.length_take]; rfl)) ?_; (with_reducible refine (coraclelaw3_awake.calls  t266 _ A6.out).mono ?_); rintro e w7 ⟨rfl, hb⟩; refine ⟨_, rfl, ?_⟩; have n0_ := Aside0.mk (below_step (by repeat (first | (with_reducible first | exact HB.out | apply below_alloc | apply pw_below_drewN | apply below_drew1) | exact HB.out)) hb); clear HB; have HB := n0_; clear n0_; (try clear hb); (try clear hb2); (try clear hk); (try clear hi)))
    go_ret
    exact ⟨by first | rfl | (simp [errW_none, errW_some] <;> rfl) | (simp [*, errW_none, errW_some] <;> rfl), by repeat (first | (with_reducible first | exact HB.out | apply below_alloc | apply pw_below_drewN | apply below_drew1) | exact HB.out)⟩
   ·
    replace c5 := Bool.eq_false_iff.mpr c5
    subst c5
    have H1 : ((point_Sort.f l0).bind fun t267 => ((coraclealike_Round.f a1 (l0.length : Int)).bind fun t270 => ((some (([] : List (S25)) : List (S25))).bind fun y271 => (if 0 ≤ t270 then (if t270 ≤ (l0.length : Int) then ((some (l0.drop (t270 : Int).toNat : List (S25))).bind fun y274 => (if y271.length + y274.length < 3518437208883 then ((some (y271 ++ y274 : List (S25))).bind fun y278 => ((some (l0.take (t270 : Int).toNat : List (S25))).bind fun y281 => (if y278.length + y281.length < 3518437208883 then ((point_Sort.f (y278 ++ y281)).bind fun t288 => (coraclelaw3_PointOrder.l0 kj2 l0 t267 t270 t288 0)) else (none)))) else (none))) else (none)) else (none))))) = some r := by rw [if_neg (show ¬ (false = true) by decide)] at H; exact H
    clear H
    have H := H1
    clear H1
    replace H := Option.bind_eq_some_iff.mp H
    obtain ⟨t267, A80, H⟩ := H
    replace H : ((coraclealike_Round.f a1 (l0.length : Int)).bind fun t270 => ((some (([] : List (S25)) : List (S25))).bind fun y271 => (if 0 ≤ t270 then (if t270 ≤ (l0.length : Int) then ((some (l0.drop (t270 : Int).toNat : List (S25))).bind fun y274 => (if y271.length + y274.length < 3518437208883 then ((some (y271 ++ y274 : List (S25))).bind fun y278 => ((some (l0.take (t270 : Int).toNat : List (S25))).bind fun y281 => (if y278.length + y281.length < 3518437208883 then ((point_Sort.f (y278 ++ y281)).bind fun t288 => (coraclelaw3_PointOrder.l0 kj2 l0 t267 t270 t288 0)) else (none)))) else (none))) else (none)) else (none)))) = some r := H
    have A8 := Aside0.mk A80
    clear A80
    replace H := Option.bind_eq_some_iff.mp H
    obtain ⟨t270, A90, H⟩ := H
    replace H : ((some (([] : List (S25)) : List (S25))).bind fun y271 => (if 0 ≤ t270 then (if t270 ≤ (l0.length : Int) then ((some (l0.drop (t270 : Int).toNat : List (S25))).bind fun y274 => (if y271.length + y274.length < 3518437208883 then ((some (y271 ++ y274 : List (S25))).bind fun y278 => ((some (l0.take (t270 : Int).toNat : List (S25))).bind fun y281 => (if y278.length + y281.length < 3518437208883 then ((point_Sort.f (y278 ++ y281)).bind fun t288 => (coraclelaw3_PointOrder.l0 kj2 l0 t267 t270 t288 0)) else (none)))) else (none))) else (none)) else (none))) = some r := H
    have A9 := Aside0.mk A90
    clear A90
    obtain ⟨y271, hy271⟩ : ∃ y_ : List (S25), y_ = (([] : List (S25))) := ⟨_, rfl⟩
    replace H : (if 0 ≤ t270 then (if t270 ≤ (l0.length : Int) then ((some (l0.drop (t270 : Int).toNat : List (S25))).bind fun y274 => (if y271.length + y274.length < 3518437208883 then ((some (y271 ++ y274 : List (S25))).bind fun y278 => ((some (l0.take (t270 : Int).toNat : List (S25))).bind fun y281 => (if y278.length + y281.length < 3518437208883 then ((point_Sort.f (y278 ++ y281)).bind fun t288 => (coraclelaw3_PointOrder.l0 kj2 l0 t267 t270 t288 0)) else (none)))) else (none))) else (none)) else (none)) = some r := by first | (rw [hy271]; with_reducible exact H) | (have H2_ := (Option.bind_some _ _).symm.trans H; rw [hy271]; with_reducible exact H2_) | (have H2_ := (Option.bind_some _ _).symm.trans H; with_reducible exact H2_) | with_reducible exact H | (rw [hy271]; exact H) | exact H
    have Ny271 := Aside0.mk hy271
    clear hy271
    by_cases c10 : 0 ≤ t270
    ·
     rw [if_pos c10] at H
     have c10b0 := eq_true c10
     have c10b1 : decide (0 ≤ t270) = true := decide_eq_true c10
     clear c10
     by_cases c11 : t270 ≤ (l0.length : Int)
     ·
      rw [if_pos c11] at H
      have c11b0 := eq_true c11
      have c11b1 : decide (t270 ≤ (l0.length : Int)) = true := decide_eq_true c11
      clear c11
      obtain ⟨y274, hy274⟩ : ∃ y_ : List (S25), y_ = (l0.drop (t270 : Int).toNat) := ⟨_, rfl⟩
      replace H : (if y271.length + y274.length < 3518437208883 then ((some (y271 ++ y274 : List (S25))).bind fun y278 => ((some (l0.take (t270 : Int).toNat : List (S25))).bind fun y281 => (if y278.length + y281.length < 3518437208883 then ((point_Sort.f (y278 ++ y281)).bind fun t288 => (coraclelaw3_PointOrder.l0 kj2 l0 t267 t270 t288 0)) else (none)))) else (none)) = some r := by first | (rw [hy274]; with_reducible exact H) | (have H2_ := (Option.bind_some _ _).symm.trans H; rw [hy274]; with_reducible exact H2_) | (have H2_ := (Option.bind_some _ _).symm.trans H; with_reducible exact H2_) | with_reducible exact H | (rw [hy274]; exact H) | exact H
      have Ny274 := Aside0.mk hy274
      clear hy274
      by_cases c12 : y271.length + y274.length < 3518437208883
      ·
       rw [if_pos c12] at H
       have LMc12 := Aside0.mk c12
       clear c12
       obtain ⟨y278, hy278⟩ : ∃ y_ : List (S25), y_ = (y271 ++ y274) := ⟨_, rfl⟩
       replace H : ((some (l0.take (t270 : Int).toNat : List (S25))).bind fun y281 => (if y278.length + y281.length < 3518437208883 then ((point_Sort.f (y278 ++ y281)).bind fun t288 => (coraclelaw3_PointOrder.l0 kj2 l0 t267 t270 t288 0)) else (none))) = some r := by first | (rw [hy278]; with_reducible exact H) | (have H2_ := (Option.bind_some _ _).symm.trans H; rw [hy278]; with_reducible exact H2_) | (have H2_ := (Option.bind_some _ _).symm.trans H; with_reducible exact H2_) | with_reducible exact H | (rw [hy278]; exact H) | exact H
       have Ny278 := Aside0.mk hy278
       clear hy278
       have c13b0 := eq_true (of_decide_eq_true (by first | (with_reducible assumption) | assumption) : 0 ≤ t270)
       have c14b0 := eq_true (of_decide_eq_true (by first | (with_reducible assumption) | assumption) : t270 ≤ (l0.length : Int))
       obtain ⟨y281, hy281⟩ : ∃ y_ : List (S25), y_ = (l0.take (t270 : Int).toNat) := ⟨_, rfl⟩
       replace H : (if y278.length + y281.length < 3518437208883 then ((point_Sort.f (y278 ++ y281)).bind fun t288 => (coraclelaw3_PointOrder.l0 kj2 l0 t267 t270 t288 0)) else (none)) = some r := by first | (rw [hy281]; with_reducible exact H) | (have H2_ := (Option.bind_some _ _).symm.trans H; rw [hy281]; with_reducible exact H2_) | (have H2_ := (Option.bind_some _ _).symm.trans H; with_reducible exact H2_) | with_reducible exact H | (rw [hy281]; exact H) | exact H
       have Ny281 := Aside0.mk hy281
       clear hy281
       by_cases c15 : y278.length + y281.length < 3518437208883
       ·
        rw [if_pos c15] at H
        have LMc15 := Aside0.mk c15
        clear c15
        obtain ⟨y285, hy285⟩ : ∃ y_ : List (S25), y_ = (y278 ++ y281) := ⟨_, rfl⟩
        replace H : ((point_Sort.f y285).bind fun t288 => (coraclelaw3_PointOrder.l0 kj2 l0 t267 t270 t288 0)) = some r := by first | (rw [hy285]; with_reducible exact H) | (have H2_ := (Option.bind_some _ _).symm.trans H; rw [hy285]; with_reducible exact H2_) | (have H2_ := (Option.bind_some _ _).symm.trans H; with_reducible exact H2_) | with_reducible exact H | (rw [hy285]; exact H) | exact H
        have Ny285 := Aside0.mk hy285
        clear hy285
        replace H := Option.bind_eq_some_iff.mp H
        obtain ⟨t288, A160, H⟩ := H
        replace H : (coraclelaw3_PointOrder.l0 kj2 l0 t267 t270 t288 0) = some r := H
        have A16 := Aside0.mk A160
        clear A160
        have H' := Aside0.mk H
        clear H
        try go_wp2_with (first | ((with_reducible refine gate_callee (f := 14) rfl ?_); refine goesL_ (some 20) rfl rfl Tryd.func14 (by kernel_rfl) rfl #[.slice A0 l0.length c0] rfl (by (try simp only [List.map_toArray, List.map_cons, List.map_nil]); first | done | rfl | (simp only [List.length_drop, List.length_take]; rfl)) ?_; (with_reducible refine (point_Sort.calls _ _ l0 t267 _ ?side1 ?side2 A8.out).mono ?_); (case side1 => repeat (first | exact (Kd.C_below HR0.out HB.out) | (with_reducible refine Kd.C_alloc ?_ _) | (with_reducible refine Kd.C_drewN ?_ _) | (with_reducible refine Kd.C_drew ?_))); (case side2 => exact HC0.out); rintro e w17 ⟨v268, rfl, ho0, hb⟩; refine ⟨_, rfl, ?_⟩; have n0_ := Aside0.mk (Kd.R_lower ho0 (below_size (by repeat (first | (with_reducible first | exact HB.out | apply below_alloc | apply pw_below_drewN | apply below_drew1) | exact HB.out)))); have n1_ := Aside0.mk (below_step (by repeat (first | (with_reducible first | exact HB.out | apply below_alloc | apply pw_below_drewN | apply below_drew1) | exact HB.out)) hb); clear HB; have HO269 := n0_; have HB := n1_; clear n0_ n1_; (try clear hb); (try clear hb2); (try clear hk); (try clear hi); (try clear ho0)) | ((with_reducible refine gate_callee (f := 22) rfl ?_); refine goesL_ (some 24) rfl rfl Tryd.func22 (by kernel_rfl) rfl #[.int .i64 a1, .int .i64 (l0.length : Int)] rfl (by (try simp only [List.map_toArray, List.map_cons, List.map_nil]); first | done | rfl | (simp only [List.length_drop, List.length_take]; rfl)) ?_; (with_reducible refine (coraclealike_Round.calls a1 (l0.length : Int) t270 _ A9.out).mono ?_); rintro e w' ⟨rfl, ⟨nd, rfl⟩⟩; refine ⟨_, rfl, ?_⟩))
        (try (rw [drewN_self w17]; generalize hq_ : World.drewN w17 _ = w17; have n0_ : Aside0 (Kd.R k25 25 w17 w.heap.size (fun _ => True) v268 t267) := ⟨by rw [← hq_]; exact (by (with_reducible repeat (first | apply Kd.R_alloc | apply Kd.R_drewN | apply Kd.R_drew)); exact HO269.out)⟩; have n1_ : Aside0 (Below w.heap.size w w17) := ⟨by rw [← hq_]; exact (by repeat (first | (with_reducible first | exact HB.out | apply below_alloc | apply pw_below_drewN | apply below_drew1) | exact HB.out))⟩; clear HO269 HB hq_; have HO269 := n0_; have HB := n1_; clear n0_ n1_))
        have n0_ := Aside0.mk (Kd.R_drew HO269.out)
        have n1_ := Aside0.mk (below_drew1 HB.out)
        clear HO269
        clear HB
        have HO269 := n0_
        have HB := n1_
        clear n0_ n1_
        have q19 : (t270 : Int) ≤ ((l0.length : Int) : Int) := of_decide_eq_true (by first | (with_reducible assumption) | assumption)
        obtain ⟨i019, hi019, _, hsz19, _⟩ := info_parts info25
        have hroom19 : l0.length ≤ c0 := HC0.out
        have hC19 : Kd.C k25 _ A0 l0.length l0 := HR0.out
        have q019 : (0 : Int) ≤ (t270 : Int) := of_decide_eq_true (by first | (with_reducible assumption) | assumption)
        have hcut19 := cut_from (P := Tryd.prog) 31 25 .i64 Tryd.underlying31 hi019 33 hsz19 A0 l0.length c0 t270 q019 q19
        have hr19 := Kd.C_drop (m := (t270 : Int).toNat) (c := c0) hC19 (by omega) hroom19
        obtain ⟨A19, hA19⟩ : ∃ A1, A1 = (if c0 = (t270 : Int).toNat then A0 else (A0 : Option Addr).map (·.add ((t270 : Int).toNat * 33))) := ⟨_, rfl⟩
        obtain ⟨c19, hc19⟩ : ∃ c1, c1 = c0 - (t270 : Int).toNat := ⟨_, rfl⟩
        have hy19 : y274.length = l0.length - (t270 : Int).toNat := (by rw [Ny274.out, List.length_drop] <;> omega)
        rw [show (l0).drop (t270 : Int).toNat = y274 from Ny274.out.symm] at hr19
        replace hr19 : Kd.C k25 _ A19 y274.length y274 := (by rw [hA19]; exact hr19)
        rw [← hy19, ← hA19, ← hc19] at hcut19
        have HR277 := Aside0.mk hr19
        have HC277 := Aside0.mk (show y274.length ≤ c19 from by rw [hy19, hc19]; exact Nat.sub_le_sub_right hroom19 _)
        clear hr19 hC19 hroom19 hi019 hsz19 hc19
        have KY19 := Aside0.mk hy19
        have KA19 := Aside0.mk hA19
        clear hy19 hA19
        replace q19 := eq_true q19
        have q20 : (t270 : Int) ≤ ((l0.length : Int) : Int) := of_decide_eq_true (by first | (with_reducible assumption) | assumption)
        obtain ⟨i020, hi020, _, hsz20, _⟩ := info_parts info25
        have hroom20 : l0.length ≤ c0 := HC0.out
        have hC20 : Kd.C k25 _ A0 l0.length l0 := HR0.out
        have hcut20 := cut_to (P := Tryd.prog) 31 25 .i64 Tryd.underlying31 hi020 A0 l0.length c0 t270 (of_decide_eq_true (by first | (with_reducible assumption) | assumption)) q20 hroom20
        have hr20 := Kd.C_take (m := (t270 : Int).toNat) hC20 (by omega)
        have hy20 : y281.length = (t270 : Int).toNat := (by rw [Ny281.out, List.length_take]; omega)
        rw [← Ny281.out] at hr20
        rw [← hy20] at hcut20
        have HR284 := Aside0.mk hr20
        have HC284 := Aside0.mk (show y281.length ≤ c0 from by omega)
        clear hr20 hC20 hroom20 hi020 hsz20
        have KY20 := Aside0.mk hy20
        clear hy20
        replace q20 := eq_true q20
        refine start_ (n := 11) (S := fun w' => True) (ds := []) #[false, false, false, false, false, false, false, false, false, false, false] (by kernel_rfl) rfl rfl trivial (fun hHeld => ?_); refine with_tabW coraclelaw3_PointOrder.tab5 coraclelaw3_PointOrder.bits5 (fun HT_ HW_ => ?_)
        generalize w17.drew = w18 at HO269 HB HR277 HR284 hHeld ⊢
        refine pure_ (i := 1) (N := some 26) (v := ?_) (a' := ?_) #[false, true, false, false, false, false, false, false, false, false, false] rfl rfl (any_of HT_.out (by kernel_rfl)) (fun _ _ _ h => h) (Or.inl ⟨by rfl, ?_⟩) ?_ ?_
        rotate_left
        ·
         intro w'
         go_simp
         with_reducible rfl
        rotate_left
        ·
         simp only [Act.put, List.setIfInBounds_toArray, List.set_cons_zero, List.set_cons_succ, i64_w, i32_w]
         rfl
        refine pure_ (i := 2) (N := some 27) (v := ?_) (a' := ?_) #[false, true, true, false, false, false, false, false, false, false, false] rfl rfl (any_of HT_.out (by kernel_rfl)) (fun _ _ _ h => h) (Or.inl ⟨by rfl, ?_⟩) ?_ ?_
        rotate_left
        ·
         intro w'
         go_simp
         with_reducible rfl
        rotate_left
        ·
         simp only [Act.put, List.setIfInBounds_toArray, List.set_cons_zero, List.set_cons_succ, i64_w, i32_w]
         rfl
        refine pure_ (i := 3) (N := some 28) (v := ?_) (a' := ?_) #[false, true, true, true, false, false, false, false, false, false, false] rfl rfl (any_of HT_.out (by kernel_rfl)) (fun _ _ _ h => h) (Or.inl ⟨by rfl, ?_⟩) ?_ ?_
        rotate_left
        ·
         intro w'
         go_simp
         with_reducible rfl
        rotate_left
        ·
         simp only [Act.put, List.setIfInBounds_toArray, List.set_cons_zero, List.set_cons_succ, i64_w, i32_w]
         rfl
        refine pure_ (i := 5) (N := some 30) (v := ?_) (a' := ?_) #[false, true, true, true, false, true, false, false, false, false, false] rfl rfl (any_of HT_.out (by kernel_rfl)) (fun _ _ _ h => h) (Or.inl ⟨by rfl, ?_⟩) ?_ ?_
        rotate_left
        ·
         intro w'
         go_simp
         with_reducible rfl
        rotate_left
        ·
         simp only [Act.put, List.setIfInBounds_toArray, List.set_cons_zero, List.set_cons_succ, i64_w, i32_w]
         rfl
        refine pure_ (i := 6) (N := some 31) (v := ?_) (a' := ?_) #[false, true, true, true, false, true, true, false, false, false, false] rfl rfl (any_of HT_.out (by kernel_rfl)) (fun _ _ _ h => h) (Or.inl ⟨by rfl, ?_⟩) ?_ ?_
        rotate_left
        ·
         intro w'
         go_simp
         with_reducible rfl
        rotate_left
        ·
         simp only [Act.put, List.setIfInBounds_toArray, List.set_cons_zero, List.set_cons_succ, i64_w, i32_w]
         rfl
        refine pure_ (i := 7) (N := some 32) (v := ?_) (a' := ?_) #[false, true, true, true, false, true, true, true, false, false, false] rfl rfl (any_of HT_.out (by kernel_rfl)) (fun _ _ _ h => h) (Or.inl ⟨by rfl, ?_⟩) ?_ ?_
        rotate_left
        ·
         intro w'
         go_simp
         with_reducible rfl
        rotate_left
        ·
         simp only [Act.put, List.setIfInBounds_toArray, List.set_cons_zero, List.set_cons_succ, i64_w, i32_w]
         rfl
        refine one_ (i := 0) (N := some 25) #[true, true, true, true, false, true, true, true, false, false, false] rfl rfl (one_of HT_.out (by kernel_rfl)) (by decide) (fun K hK => ?_)
        refine Kd.R_lit_step k25 _ 25 ?hg (N := 25) ?hd (xs := ([] : List (S25))) (inner := []) (ok := fun _ => True) (okp := fun _ => True) ?hr ?hp (fun _ hk => hk) trivial (Below.refl _ _) (Nat.le_refl _) (by simp) ?_; (case hd => rfl); (case hg => rfl); (case hr => first | (go_simp; done) | (go_simp; rfl)); (case hp => exact (Reps.none _ _))
        intro v272 w21 ho22 hb hg_ hnew_
        clear hg_ hnew_
        (first | rw [← Ny271.out] at ho22 | (simp only [Int.reduceToNat] at ho22; rw [← Ny271.out] at ho22))
        have n0_ := Aside0.mk (Kd.R_elder' (by (with_reducible repeat (first | apply Kd.R_alloc | apply Kd.R_drewN | apply Kd.R_drew)); exact HO269.out) (Kd.R_base ho22) hb)
        have n1_ := Aside0.mk (Kd.R_lower (Kd.R_new' ho22 (Kd.R_lt (by (with_reducible repeat (first | apply Kd.R_alloc | apply Kd.R_drewN | apply Kd.R_drew)); exact HO269.out))) (below_size (by repeat (first | (with_reducible first | exact HB.out | apply below_alloc | apply pw_below_drewN | apply below_drew1) | exact HB.out))))
        have n2_ := Aside0.mk (below_step (by repeat (first | (with_reducible first | exact HB.out | apply below_alloc | apply pw_below_drewN | apply below_drew1) | exact HB.out)) hb)
        clear HO269
        clear HB
        have HO269 := n0_
        have HO273 := n1_
        have HB := n2_
        clear n0_ n1_ n2_
        clear hb ho22
        refine hK.out _ _ trivial (fun hHeld => ?_)
        clear hK K
        refine norm_ (a' := ?_) ?_ ?_
        rotate_left
        ·
         show Act.put _ (some 25) _ = _
         simp only [Act.put, List.setIfInBounds_toArray, List.set_cons_zero, List.set_cons_succ, i64_w, i32_w]
         rfl
        refine one_ (i := 4) (N := some 29) #[true, true, true, true, true, true, true, true, false, false, false] rfl rfl (one_of HT_.out (by kernel_rfl)) (by decide) (fun K hK => ?_)
        refine Kd.R_append_rows_step k25 (w0 := w) w.heap.size (by rfl) (.tmp 25) (.tmp 28) 31 25 (.agg #[(.int .u8 0), (.int .u8 0), (.int .u8 0), (.int .u8 0), (.int .u8 0), (.int .u8 0), (.int .u8 0), (.int .u8 0), (.int .u8 0), (.int .u8 0), (.int .u8 0), (.int .u8 0), (.int .u8 0), (.int .u8 0), (.int .u8 0), (.int .u8 0), (.int .u8 0), (.int .u8 0), (.int .u8 0), (.int .u8 0), (.int .u8 0), (.int .u8 0), (.int .u8 0), (.int .u8 0), (.int .u8 0), (.int .u8 0), (.int .u8 0), (.int .u8 0), (.int .u8 0), (.int .u8 0), (.int .u8 0), (.int .u8 0), (.int .i64 0)]) 40 rfl Tryd.underlying31 info25 rfl (by decide) (by omega) v272 y271 y274 _ _ _ (fun k_ => some k_ ≠ (v268 : Value).ownBlock) (fun _ => False) rfl rfl ?aO ?aR (fun _ _ h => h) (fun _ h => h.elim) ?aF ?aB ?aS ?aL ?_
        (case aR => repeat (first | exact (Kd.C_below HR277.out HB.out) | (with_reducible refine Kd.C_alloc ?_ _) | (with_reducible refine Kd.C_drewN ?_ _) | (with_reducible refine Kd.C_drew ?_)))
        (case aB => exact (by repeat (first | (with_reducible first | exact HB.out | apply below_alloc | apply pw_below_drewN | apply below_drew1) | exact HB.out)))
        (case aF => exact (fun k_ hk => Kd.fresh' (Kd.R_lt (by (with_reducible repeat (first | apply Kd.R_alloc | apply Kd.R_drewN | apply Kd.R_drew)); exact HO269.out)) k_ hk))
        (case aO => exact (by (with_reducible repeat (first | apply Kd.R_alloc | apply Kd.R_drewN | apply Kd.R_drew)); exact Kd.R_mono HO273.out (fun _ hk => hk.2)))
        (case aS => exact (below_size (by repeat (first | (with_reducible first | exact HB.out | apply below_alloc | apply pw_below_drewN | apply below_drew1) | exact HB.out))))
        (case aL => have := LMc12.out; omega)
        intro v279 w23 ho hb hg hat
        rw [← Ny278.out] at ho
        have n0_ := Aside0.mk (Kd.R_after (ok := (fun _ => True)) (by (with_reducible repeat (first | apply Kd.R_alloc | apply Kd.R_drewN | apply Kd.R_drew)); exact HO269.out) hg hat)
        have n1_ := Aside0.mk (hb)
        have n2_ := Aside0.mk (ho)
        clear HO269
        clear HB
        clear HO273
        have HO269 := n0_
        have HB := n1_
        have HO280 := n2_
        clear n0_ n1_ n2_
        clear ho hb hg hat
        refine hK.out _ _ trivial (fun hHeld => ?_)
        clear hK K
        refine norm_ (a' := ?_) ?_ ?_
        rotate_left
        ·
         show Act.put _ (some 29) _ = _
         simp only [Act.put, List.setIfInBounds_toArray, List.set_cons_zero, List.set_cons_succ, i64_w, i32_w]
         rfl
        refine one_ (i := 8) (N := some 33) #[true, true, true, true, true, true, true, true, true, false, false] rfl rfl (one_of HT_.out (by kernel_rfl)) (by decide) (fun K hK => ?_)
        refine Kd.R_append_rows_step k25 (w0 := w) w.heap.size (by rfl) (.tmp 29) (.tmp 32) 31 25 (.agg #[(.int .u8 0), (.int .u8 0), (.int .u8 0), (.int .u8 0), (.int .u8 0), (.int .u8 0), (.int .u8 0), (.int .u8 0), (.int .u8 0), (.int .u8 0), (.int .u8 0), (.int .u8 0), (.int .u8 0), (.int .u8 0), (.int .u8 0), (.int .u8 0), (.int .u8 0), (.int .u8 0), (.int .u8 0), (.int .u8 0), (.int .u8 0), (.int .u8 0), (.int .u8 0), (.int .u8 0), (.int .u8 0), (.int .u8 0), (.int .u8 0), (.int .u8 0), (.int .u8 0), (.int .u8 0), (.int .u8 0), (.int .u8 0), (.int .i64 0)]) 40 rfl Tryd.underlying31 info25 rfl (by decide) (by omega) v279 y278 y281 _ _ _ (fun k_ => some k_ ≠ (v268 : Value).ownBlock) (fun _ => False) rfl rfl ?aO ?aR (fun _ _ h => h) (fun _ h => h.elim) ?aF ?aB ?aS ?aL ?_
        (case aR => repeat (first | exact (Kd.C_below HR284.out HB.out) | (with_reducible refine Kd.C_alloc ?_ _) | (with_reducible refine Kd.C_drewN ?_ _) | (with_reducible refine Kd.C_drew ?_)))
        (case aB => exact (by repeat (first | (with_reducible first | exact HB.out | apply below_alloc | apply pw_below_drewN | apply below_drew1) | exact HB.out)))
        (case aF => exact (fun k_ hk => Kd.fresh' (Kd.R_lt (by (with_reducible repeat (first | apply Kd.R_alloc | apply Kd.R_drewN | apply Kd.R_drew)); exact HO269.out)) k_ hk))
        (case aO => exact (by (with_reducible repeat (first | apply Kd.R_alloc | apply Kd.R_drewN | apply Kd.R_drew)); exact HO280.out))
        (case aS => exact (below_size (by repeat (first | (with_reducible first | exact HB.out | apply below_alloc | apply pw_below_drewN | apply below_drew1) | exact HB.out))))
        (case aL => have := LMc15.out; omega)
        intro v286 w24 ho hb hg hat
        rw [← Ny285.out] at ho
        have n0_ := Aside0.mk (Kd.R_after (ok := (fun _ => True)) (by (with_reducible repeat (first | apply Kd.R_alloc | apply Kd.R_drewN | apply Kd.R_drew)); exact HO269.out) hg hat)
        have n1_ := Aside0.mk (hb)
        have n2_ := Aside0.mk (ho)
        clear HO269
        clear HB
        clear HO280
        have HO269 := n0_
        have HB := n1_
        have HO287 := n2_
        clear n0_ n1_ n2_
        clear ho hb hg hat
        obtain ⟨Ao25, co25, eo25⟩ := Kd.R_slice HO287.out
        (first | subst eo25 | (injection eo25 with f1_ f2_ f3_; have f4_ := f1_.symm; have f5_ := f3_.symm; clear f1_ f2_ f3_; subst f4_; subst f5_))
        refine hK.out _ _ trivial (fun hHeld => ?_)
        clear hK K
        refine norm_ (a' := ?_) ?_ ?_
        rotate_left
        ·
         show Act.put _ (some 33) _ = _
         simp only [Act.put, List.setIfInBounds_toArray, List.set_cons_zero, List.set_cons_succ, i64_w, i32_w]
         rfl
        refine one_ (i := 9) (N := some 34) #[true, true, true, true, true, true, true, true, true, true, false] rfl rfl (one_of HT_.out (by kernel_rfl)) (by decide) (fun K hK => ?_)
        refine goes_ Tryd.func14 (by kernel_rfl) rfl #[.slice Ao25 y285.length co25] (by rfl) rfl rfl (by (try simp only [List.map_toArray, List.map_cons, List.map_nil]); first | done | rfl | (simp only [List.length_drop, List.length_take]; rfl)) ?_
        with_reducible refine (point_Sort.calls _ _ y285 t288 _ ?side1 ?side2 A16.out).mono ?_
        (case side1 => repeat (first | exact (Kd.R_reads' HO287.out).2.2 | (with_reducible refine Kd.C_alloc ?_ _) | (with_reducible refine Kd.C_drewN ?_ _) | (with_reducible refine Kd.C_drew ?_)))
        (case side2 => exact (Kd.R_reads' HO287.out).2.1)
        rintro e w26 ⟨v289, rfl, ho0, hb⟩
        refine ⟨_, rfl, ?_⟩
        have n0_ := Aside0.mk (Kd.R_elder' (by (with_reducible repeat (first | apply Kd.R_alloc | apply Kd.R_drewN | apply Kd.R_drew)); exact HO269.out) (Kd.R_base ho0) hb)
        have n1_ := Aside0.mk (Kd.R_elder' (by (with_reducible repeat (first | apply Kd.R_alloc | apply Kd.R_drewN | apply Kd.R_drew)); exact HO287.out) (Kd.R_base ho0) hb)
        have n2_ := Aside0.mk (Kd.R_lower (Kd.R_new' (Kd.R_new' ho0 (Kd.R_lt (by (with_reducible repeat (first | apply Kd.R_alloc | apply Kd.R_drewN | apply Kd.R_drew)); exact HO269.out))) (Kd.R_lt (by (with_reducible repeat (first | apply Kd.R_alloc | apply Kd.R_drewN | apply Kd.R_drew)); exact HO287.out))) (below_size (by repeat (first | (with_reducible first | exact HB.out | apply below_alloc | apply pw_below_drewN | apply below_drew1) | exact HB.out))))
        have n3_ := Aside0.mk (below_step (by repeat (first | (with_reducible first | exact HB.out | apply below_alloc | apply pw_below_drewN | apply below_drew1) | exact HB.out)) hb)
        clear HO269
        clear HO287
        clear HB
        have HO269 := n0_
        have HO287 := n1_
        have HO290 := n2_
        have HB := n3_
        clear n0_ n1_ n2_ n3_
        (try clear hb)
        (try clear hb2)
        (try clear hk)
        (try clear hi)
        (try clear ho0)
        refine hK.out _ _ trivial (fun hHeld => ?_)
        clear hK K
        refine norm_ (a' := ?_) ?_ ?_
        rotate_left
        ·
         show Act.put _ (some 34) _ = _
         simp only [Act.put, List.setIfInBounds_toArray, List.set_cons_zero, List.set_cons_succ, i64_w, i32_w]
         rfl
        refine pure_ (i := 10) (N := some 7) (v := ?_) (a' := ?_) #[true, true, true, true, true, true, true, true, true, true, true] rfl rfl (any_of HT_.out (by kernel_rfl)) (fun _ _ _ h => h) (Or.inl ⟨by rfl, ?_⟩) ?_ ?_
        rotate_left
        ·
         intro w'
         go_simp
         with_reducible rfl
        rotate_left
        ·
         simp only [Act.put, List.setIfInBounds_toArray, List.set_cons_zero, List.set_cons_succ, i64_w, i32_w]
         rfl
        refine done_ (done_of HT_.out (by kernel_rfl)) ?_
        try go_wp2
        go_loopg [8] kj2 (fun kq v8 w' => ∃ (x8_2 : Int), v8 = .int .i64 x8_2 ∧ Aside0 (coraclelaw3_PointOrder.l0 kq l0 t267 t270 t288 x8_2 = some r) ∧ Aside0 (kq ≤ kj2) ∧ Aside0 (Kd.R k25 25 w' w.heap.size (fun k_ => some k_ ≠ (v289 : Value).ownBlock) v268 t267) ∧ Aside0 (Kd.R k25 25 w' w.heap.size (fun k_ => some k_ ≠ (v268 : Value).ownBlock) v289 t288) ∧ Aside0 (Below w.heap.size w w'))
        case atStart => exact ⟨(0), (by first | rfl | (simp; done) | (simp [*]; done)), H', ⟨Nat.le_refl _⟩, ⟨by (with_reducible repeat (first | apply Kd.R_alloc | apply Kd.R_drewN | apply Kd.R_drew)); exact Kd.R_mono HO269.out (fun _ hk => hk.2)⟩, ⟨by (with_reducible repeat (first | apply Kd.R_alloc | apply Kd.R_drewN | apply Kd.R_drew)); exact Kd.R_mono HO290.out (fun _ hk => hk.1.2)⟩, ⟨by repeat (first | (with_reducible first | exact HB.out | apply below_alloc | apply pw_below_drewN | apply below_drew1) | exact HB.out)⟩⟩
        case round =>
         clear H'
         try clear c1
         try clear q1
         try clear c2
         try clear p2
         try clear q2
         try clear c4
         try clear c4b0
         try clear c4b1
         try clear c4b2
         try clear c5
         try clear c7
         try clear c10
         try clear c10b0
         try clear c10b1
         try clear c11
         try clear c11b0
         try clear c11b1
         try clear c12
         try clear c13
         try clear c13b0
         try clear c14
         try clear c14b0
         try clear c15
         try clear c19
         try clear q19
         try clear q20
         try clear c22
         try clear p2
         try clear q019
         try clear q19
         try clear q20
         obtain ⟨x8_2, rfl, HA, HK2, HO_5, HO_7, HB⟩ := hrel
         cases gk with
         | zero => exact absurd HA.out (by simp [coraclelaw3_PointOrder.l0])
         | succ k2 =>
          have H := HA.out
          clear HA
          simp only [coraclelaw3_PointOrder.l0] at H
          by_cases c27 : x8_2 < (t267.length : Int)
          ·
           rw [if_pos c27] at H
           have c27b0 : decide (x8_2 < (t267.length : Int)) = true := decide_eq_true c27
           clear c27
           by_cases c28 : x8_2 > 0
           ·
            rw [if_pos c28] at H
            have c28b0 : decide (0 < x8_2) = true := decide_eq_true c28
            clear c28
            obtain ⟨ji29, hji29⟩ : ∃ j_ : Int, (wrap64 (x8_2 - 1)) = j_ := ⟨_, rfl⟩
            replace H : (if 0 ≤ (ji29) then (if (ji29) < (t267.length : Int) then (if 0 ≤ x8_2 then ((point_Less.f ((rd_T25 t267 (ji29)).f0.f0) ((rd_T25 t267 (ji29)).f0.f1) ((rd_T25 t267 (ji29)).f0.f2) ((rd_T25 t267 (ji29)).f0.f3) ((rd_T25 t267 (ji29)).f0.f4) ((rd_T25 t267 (ji29)).f0.f5) ((rd_T25 t267 (ji29)).f0.f6) ((rd_T25 t267 (ji29)).f0.f7) ((rd_T25 t267 (ji29)).f0.f8) ((rd_T25 t267 (ji29)).f0.f9) ((rd_T25 t267 (ji29)).f0.f10) ((rd_T25 t267 (ji29)).f0.f11) ((rd_T25 t267 (ji29)).f0.f12) ((rd_T25 t267 (ji29)).f0.f13) ((rd_T25 t267 (ji29)).f0.f14) ((rd_T25 t267 (ji29)).f0.f15) ((rd_T25 t267 (ji29)).f0.f16) ((rd_T25 t267 (ji29)).f0.f17) ((rd_T25 t267 (ji29)).f0.f18) ((rd_T25 t267 (ji29)).f0.f19) ((rd_T25 t267 (ji29)).f0.f20) ((rd_T25 t267 (ji29)).f0.f21) ((rd_T25 t267 (ji29)).f0.f22) ((rd_T25 t267 (ji29)).f0.f23) ((rd_T25 t267 (ji29)).f0.f24) ((rd_T25 t267 (ji29)).f0.f25) ((rd_T25 t267 (ji29)).f0.f26) ((rd_T25 t267 (ji29)).f0.f27) ((rd_T25 t267 (ji29)).f0.f28) ((rd_T25 t267 (ji29)).f0.f29) ((rd_T25 t267 (ji29)).f0.f30) ((rd_T25 t267 (ji29)).f0.f31) ((rd_T25 t267 (ji29)).f1) ((rd_T25 t267 x8_2).f0.f0) ((rd_T25 t267 x8_2).f0.f1) ((rd_T25 t267 x8_2).f0.f2) ((rd_T25 t267 x8_2).f0.f3) ((rd_T25 t267 x8_2).f0.f4) ((rd_T25 t267 x8_2).f0.f5) ((rd_T25 t267 x8_2).f0.f6) ((rd_T25 t267 x8_2).f0.f7) ((rd_T25 t267 x8_2).f0.f8) ((rd_T25 t267 x8_2).f0.f9) ((rd_T25 t267 x8_2).f0.f10) ((rd_T25 t267 x8_2).f0.f11) ((rd_T25 t267 x8_2).f0.f12) ((rd_T25 t267 x8_2).f0.f13) ((rd_T25 t267 x8_2).f0.f14) ((rd_T25 t267 x8_2).f0.f15) ((rd_T25 t267 x8_2).f0.f16) ((rd_T25 t267 x8_2).f0.f17) ((rd_T25 t267 x8_2).f0.f18) ((rd_T25 t267 x8_2).f0.f19) ((rd_T25 t267 x8_2).f0.f20) ((rd_T25 t267 x8_2).f0.f21) ((rd_T25 t267 x8_2).f0.f22) ((rd_T25 t267 x8_2).f0.f23) ((rd_T25 t267 x8_2).f0.f24) ((rd_T25 t267 x8_2).f0.f25) ((rd_T25 t267 x8_2).f0.f26) ((rd_T25 t267 x8_2).f0.f27) ((rd_T25 t267 x8_2).f0.f28) ((rd_T25 t267 x8_2).f0.f29) ((rd_T25 t267 x8_2).f0.f30) ((rd_T25 t267 x8_2).f0.f31) ((rd_T25 t267 x8_2).f1)).bind fun t293 => (if t293 = true then ((point_Less.f ((rd_T25 t267 x8_2).f0.f0) ((rd_T25 t267 x8_2).f0.f1) ((rd_T25 t267 x8_2).f0.f2) ((rd_T25 t267 x8_2).f0.f3) ((rd_T25 t267 x8_2).f0.f4) ((rd_T25 t267 x8_2).f0.f5) ((rd_T25 t267 x8_2).f0.f6) ((rd_T25 t267 x8_2).f0.f7) ((rd_T25 t267 x8_2).f0.f8) ((rd_T25 t267 x8_2).f0.f9) ((rd_T25 t267 x8_2).f0.f10) ((rd_T25 t267 x8_2).f0.f11) ((rd_T25 t267 x8_2).f0.f12) ((rd_T25 t267 x8_2).f0.f13) ((rd_T25 t267 x8_2).f0.f14) ((rd_T25 t267 x8_2).f0.f15) ((rd_T25 t267 x8_2).f0.f16) ((rd_T25 t267 x8_2).f0.f17) ((rd_T25 t267 x8_2).f0.f18) ((rd_T25 t267 x8_2).f0.f19) ((rd_T25 t267 x8_2).f0.f20) ((rd_T25 t267 x8_2).f0.f21) ((rd_T25 t267 x8_2).f0.f22) ((rd_T25 t267 x8_2).f0.f23) ((rd_T25 t267 x8_2).f0.f24) ((rd_T25 t267 x8_2).f0.f25) ((rd_T25 t267 x8_2).f0.f26) ((rd_T25 t267 x8_2).f0.f27) ((rd_T25 t267 x8_2).f0.f28) ((rd_T25 t267 x8_2).f0.f29) ((rd_T25 t267 x8_2).f0.f30) ((rd_T25 t267 x8_2).f0.f31) ((rd_T25 t267 x8_2).f1) ((rd_T25 t267 (ji29)).f0.f0) ((rd_T25 t267 (ji29)).f0.f1) ((rd_T25 t267 (ji29)).f0.f2) ((rd_T25 t267 (ji29)).f0.f3) ((rd_T25 t267 (ji29)).f0.f4) ((rd_T25 t267 (ji29)).f0.f5) ((rd_T25 t267 (ji29)).f0.f6) ((rd_T25 t267 (ji29)).f0.f7) ((rd_T25 t267 (ji29)).f0.f8) ((rd_T25 t267 (ji29)).f0.f9) ((rd_T25 t267 (ji29)).f0.f10) ((rd_T25 t267 (ji29)).f0.f11) ((rd_T25 t267 (ji29)).f0.f12) ((rd_T25 t267 (ji29)).f0.f13) ((rd_T25 t267 (ji29)).f0.f14) ((rd_T25 t267 (ji29)).f0.f15) ((rd_T25 t267 (ji29)).f0.f16) ((rd_T25 t267 (ji29)).f0.f17) ((rd_T25 t267 (ji29)).f0.f18) ((rd_T25 t267 (ji29)).f0.f19) ((rd_T25 t267 (ji29)).f0.f20) ((rd_T25 t267 (ji29)).f0.f21) ((rd_T25 t267 (ji29)).f0.f22) ((rd_T25 t267 (ji29)).f0.f23) ((rd_T25 t267 (ji29)).f0.f24) ((rd_T25 t267 (ji29)).f0.f25) ((rd_T25 t267 (ji29)).f0.f26) ((rd_T25 t267 (ji29)).f0.f27) ((rd_T25 t267 (ji29)).f0.f28) ((rd_T25 t267 (ji29)).f0.f29) ((rd_T25 t267 (ji29)).f0.f30) ((rd_T25 t267 (ji29)).f0.f31) ((rd_T25 t267 (ji29)).f1)).bind fun t296 => (if t296 = true then (some false) else ((point_Has.f k2 l0 ((rd_T25 t267 x8_2).f0.f0) ((rd_T25 t267 x8_2).f0.f1) ((rd_T25 t267 x8_2).f0.f2) ((rd_T25 t267 x8_2).f0.f3) ((rd_T25 t267 x8_2).f0.f4) ((rd_T25 t267 x8_2).f0.f5) ((rd_T25 t267 x8_2).f0.f6) ((rd_T25 t267 x8_2).f0.f7) ((rd_T25 t267 x8_2).f0.f8) ((rd_T25 t267 x8_2).f0.f9) ((rd_T25 t267 x8_2).f0.f10) ((rd_T25 t267 x8_2).f0.f11) ((rd_T25 t267 x8_2).f0.f12) ((rd_T25 t267 x8_2).f0.f13) ((rd_T25 t267 x8_2).f0.f14) ((rd_T25 t267 x8_2).f0.f15) ((rd_T25 t267 x8_2).f0.f16) ((rd_T25 t267 x8_2).f0.f17) ((rd_T25 t267 x8_2).f0.f18) ((rd_T25 t267 x8_2).f0.f19) ((rd_T25 t267 x8_2).f0.f20) ((rd_T25 t267 x8_2).f0.f21) ((rd_T25 t267 x8_2).f0.f22) ((rd_T25 t267 x8_2).f0.f23) ((rd_T25 t267 x8_2).f0.f24) ((rd_T25 t267 x8_2).f0.f25) ((rd_T25 t267 x8_2).f0.f26) ((rd_T25 t267 x8_2).f0.f27) ((rd_T25 t267 x8_2).f0.f28) ((rd_T25 t267 x8_2).f0.f29) ((rd_T25 t267 x8_2).f0.f30) ((rd_T25 t267 x8_2).f0.f31) ((rd_T25 t267 x8_2).f1)).bind fun t298 => (if t298 = true then (coraclelaw3_PointOrder.l0 k2 l0 t267 t270 t288 (wrap64 (x8_2 + 1))) else (some false))))) else (some false))) else (none)) else (none)) else (none)) = some r := by first | (rw [hji29] at H; exact H) | (simp only [hji29] at H ⊢; exact H)
            have hji29w : (IntKind.i64.wrap (x8_2 - 1)) = ji29 := (i64_w _).trans hji29
            by_cases c30 : 0 ≤ (ji29)
            ·
             rw [if_pos c30] at H
             have c30b0 : decide (0 ≤ (ji29)) = true := decide_eq_true c30
             clear c30
             by_cases c31 : (ji29) < (t267.length : Int)
             ·
              rw [if_pos c31] at H
              have c31b0 : decide ((ji29) < (t267.length : Int)) = true := decide_eq_true c31
              clear c31
              by_cases c32 : 0 ≤ x8_2
              ·
               rw [if_pos c32] at H
               have c32b0 : decide (0 ≤ x8_2) = true := decide_eq_true c32
               clear c32
               replace H := Option.bind_eq_some_iff.mp H
               obtain ⟨t293, A330, H⟩ := H
               replace H : (if t293 = true then ((point_Less.f ((rd_T25 t267 x8_2).f0.f0) ((rd_T25 t267 x8_2).f0.f1) ((rd_T25 t267 x8_2).f0.f2) ((rd_T25 t267 x8_2).f0.f3) ((rd_T25 t267 x8_2).f0.f4) ((rd_T25 t267 x8_2).f0.f5) ((rd_T25 t267 x8_2).f0.f6) ((rd_T25 t267 x8_2).f0.f7) ((rd_T25 t267 x8_2).f0.f8) ((rd_T25 t267 x8_2).f0.f9) ((rd_T25 t267 x8_2).f0.f10) ((rd_T25 t267 x8_2).f0.f11) ((rd_T25 t267 x8_2).f0.f12) ((rd_T25 t267 x8_2).f0.f13) ((rd_T25 t267 x8_2).f0.f14) ((rd_T25 t267 x8_2).f0.f15) ((rd_T25 t267 x8_2).f0.f16) ((rd_T25 t267 x8_2).f0.f17) ((rd_T25 t267 x8_2).f0.f18) ((rd_T25 t267 x8_2).f0.f19) ((rd_T25 t267 x8_2).f0.f20) ((rd_T25 t267 x8_2).f0.f21) ((rd_T25 t267 x8_2).f0.f22) ((rd_T25 t267 x8_2).f0.f23) ((rd_T25 t267 x8_2).f0.f24) ((rd_T25 t267 x8_2).f0.f25) ((rd_T25 t267 x8_2).f0.f26) ((rd_T25 t267 x8_2).f0.f27) ((rd_T25 t267 x8_2).f0.f28) ((rd_T25 t267 x8_2).f0.f29) ((rd_T25 t267 x8_2).f0.f30) ((rd_T25 t267 x8_2).f0.f31) ((rd_T25 t267 x8_2).f1) ((rd_T25 t267 (ji29)).f0.f0) ((rd_T25 t267 (ji29)).f0.f1) ((rd_T25 t267 (ji29)).f0.f2) ((rd_T25 t267 (ji29)).f0.f3) ((rd_T25 t267 (ji29)).f0.f4) ((rd_T25 t267 (ji29)).f0.f5) ((rd_T25 t267 (ji29)).f0.f6) ((rd_T25 t267 (ji29)).f0.f7) ((rd_T25 t267 (ji29)).f0.f8) ((rd_T25 t267 (ji29)).f0.f9) ((rd_T25 t267 (ji29)).f0.f10) ((rd_T25 t267 (ji29)).f0.f11) ((rd_T25 t267 (ji29)).f0.f12) ((rd_T25 t267 (ji29)).f0.f13) ((rd_T25 t267 (ji29)).f0.f14) ((rd_T25 t267 (ji29)).f0.f15) ((rd_T25 t267 (ji29)).f0.f16) ((rd_T25 t267 (ji29)).f0.f17) ((rd_T25 t267 (ji29)).f0.f18) ((rd_T25 t267 (ji29)).f0.f19) ((rd_T25 t267 (ji29)).f0.f20) ((rd_T25 t267 (ji29)).f0.f21) ((rd_T25 t267 (ji29)).f0.f22) ((rd_T25 t267 (ji29)).f0.f23) ((rd_T25 t267 (ji29)).f0.f24) ((rd_T25 t267 (ji29)).f0.f25) ((rd_T25 t267 (ji29)).f0.f26) ((rd_T25 t267 (ji29)).f0.f27) ((rd_T25 t267 (ji29)).f0.f28) ((rd_T25 t267 (ji29)).f0.f29) ((rd_T25 t267 (ji29)).f0.f30) ((rd_T25 t267 (ji29)).f0.f31) ((rd_T25 t267 (ji29)).f1)).bind fun t296 => (if t296 = true then (some false) else ((point_Has.f k2 l0 ((rd_T25 t267 x8_2).f0.f0) ((rd_T25 t267 x8_2).f0.f1) ((rd_T25 t267 x8_2).f0.f2) ((rd_T25 t267 x8_2).f0.f3) ((rd_T25 t267 x8_2).f0.f4) ((rd_T25 t267 x8_2).f0.f5) ((rd_T25 t267 x8_2).f0.f6) ((rd_T25 t267 x8_2).f0.f7) ((rd_T25 t267 x8_2).f0.f8) ((rd_T25 t267 x8_2).f0.f9) ((rd_T25 t267 x8_2).f0.f10) ((rd_T25 t267 x8_2).f0.f11) ((rd_T25 t267 x8_2).f0.f12) ((rd_T25 t267 x8_2).f0.f13) ((rd_T25 t267 x8_2).f0.f14) ((rd_T25 t267 x8_2).f0.f15) ((rd_T25 t267 x8_2).f0.f16) ((rd_T25 t267 x8_2).f0.f17) ((rd_T25 t267 x8_2).f0.f18) ((rd_T25 t267 x8_2).f0.f19) ((rd_T25 t267 x8_2).f0.f20) ((rd_T25 t267 x8_2).f0.f21) ((rd_T25 t267 x8_2).f0.f22) ((rd_T25 t267 x8_2).f0.f23) ((rd_T25 t267 x8_2).f0.f24) ((rd_T25 t267 x8_2).f0.f25) ((rd_T25 t267 x8_2).f0.f26) ((rd_T25 t267 x8_2).f0.f27) ((rd_T25 t267 x8_2).f0.f28) ((rd_T25 t267 x8_2).f0.f29) ((rd_T25 t267 x8_2).f0.f30) ((rd_T25 t267 x8_2).f0.f31) ((rd_T25 t267 x8_2).f1)).bind fun t298 => (if t298 = true then (coraclelaw3_PointOrder.l0 k2 l0 t267 t270 t288 (wrap64 (x8_2 + 1))) else (some false))))) else (some false)) = some r := H
               have A33 := Aside0.mk A330
               clear A330
               by_cases c34 : t293 = true
               ·
                subst c34
                have H1 : ((point_Less.f ((rd_T25 t267 x8_2).f0.f0) ((rd_T25 t267 x8_2).f0.f1) ((rd_T25 t267 x8_2).f0.f2) ((rd_T25 t267 x8_2).f0.f3) ((rd_T25 t267 x8_2).f0.f4) ((rd_T25 t267 x8_2).f0.f5) ((rd_T25 t267 x8_2).f0.f6) ((rd_T25 t267 x8_2).f0.f7) ((rd_T25 t267 x8_2).f0.f8) ((rd_T25 t267 x8_2).f0.f9) ((rd_T25 t267 x8_2).f0.f10) ((rd_T25 t267 x8_2).f0.f11) ((rd_T25 t267 x8_2).f0.f12) ((rd_T25 t267 x8_2).f0.f13) ((rd_T25 t267 x8_2).f0.f14) ((rd_T25 t267 x8_2).f0.f15) ((rd_T25 t267 x8_2).f0.f16) ((rd_T25 t267 x8_2).f0.f17) ((rd_T25 t267 x8_2).f0.f18) ((rd_T25 t267 x8_2).f0.f19) ((rd_T25 t267 x8_2).f0.f20) ((rd_T25 t267 x8_2).f0.f21) ((rd_T25 t267 x8_2).f0.f22) ((rd_T25 t267 x8_2).f0.f23) ((rd_T25 t267 x8_2).f0.f24) ((rd_T25 t267 x8_2).f0.f25) ((rd_T25 t267 x8_2).f0.f26) ((rd_T25 t267 x8_2).f0.f27) ((rd_T25 t267 x8_2).f0.f28) ((rd_T25 t267 x8_2).f0.f29) ((rd_T25 t267 x8_2).f0.f30) ((rd_T25 t267 x8_2).f0.f31) ((rd_T25 t267 x8_2).f1) ((rd_T25 t267 (ji29)).f0.f0) ((rd_T25 t267 (ji29)).f0.f1) ((rd_T25 t267 (ji29)).f0.f2) ((rd_T25 t267 (ji29)).f0.f3) ((rd_T25 t267 (ji29)).f0.f4) ((rd_T25 t267 (ji29)).f0.f5) ((rd_T25 t267 (ji29)).f0.f6) ((rd_T25 t267 (ji29)).f0.f7) ((rd_T25 t267 (ji29)).f0.f8) ((rd_T25 t267 (ji29)).f0.f9) ((rd_T25 t267 (ji29)).f0.f10) ((rd_T25 t267 (ji29)).f0.f11) ((rd_T25 t267 (ji29)).f0.f12) ((rd_T25 t267 (ji29)).f0.f13) ((rd_T25 t267 (ji29)).f0.f14) ((rd_T25 t267 (ji29)).f0.f15) ((rd_T25 t267 (ji29)).f0.f16) ((rd_T25 t267 (ji29)).f0.f17) ((rd_T25 t267 (ji29)).f0.f18) ((rd_T25 t267 (ji29)).f0.f19) ((rd_T25 t267 (ji29)).f0.f20) ((rd_T25 t267 (ji29)).f0.f21) ((rd_T25 t267 (ji29)).f0.f22) ((rd_T25 t267 (ji29)).f0.f23) ((rd_T25 t267 (ji29)).f0.f24) ((rd_T25 t267 (ji29)).f0.f25) ((rd_T25 t267 (ji29)).f0.f26) ((rd_T25 t267 (ji29)).f0.f27) ((rd_T25 t267 (ji29)).f0.f28) ((rd_T25 t267 (ji29)).f0.f29) ((rd_T25 t267 (ji29)).f0.f30) ((rd_T25 t267 (ji29)).f0.f31) ((rd_T25 t267 (ji29)).f1)).bind fun t296 => (if t296 = true then (some false) else ((point_Has.f k2 l0 ((rd_T25 t267 x8_2).f0.f0) ((rd_T25 t267 x8_2).f0.f1) ((rd_T25 t267 x8_2).f0.f2) ((rd_T25 t267 x8_2).f0.f3) ((rd_T25 t267 x8_2).f0.f4) ((rd_T25 t267 x8_2).f0.f5) ((rd_T25 t267 x8_2).f0.f6) ((rd_T25 t267 x8_2).f0.f7) ((rd_T25 t267 x8_2).f0.f8) ((rd_T25 t267 x8_2).f0.f9) ((rd_T25 t267 x8_2).f0.f10) ((rd_T25 t267 x8_2).f0.f11) ((rd_T25 t267 x8_2).f0.f12) ((rd_T25 t267 x8_2).f0.f13) ((rd_T25 t267 x8_2).f0.f14) ((rd_T25 t267 x8_2).f0.f15) ((rd_T25 t267 x8_2).f0.f16) ((rd_T25 t267 x8_2).f0.f17) ((rd_T25 t267 x8_2).f0.f18) ((rd_T25 t267 x8_2).f0.f19) ((rd_T25 t267 x8_2).f0.f20) ((rd_T25 t267 x8_2).f0.f21) ((rd_T25 t267 x8_2).f0.f22) ((rd_T25 t267 x8_2).f0.f23) ((rd_T25 t267 x8_2).f0.f24) ((rd_T25 t267 x8_2).f0.f25) ((rd_T25 t267 x8_2).f0.f26) ((rd_T25 t267 x8_2).f0.f27) ((rd_T25 t267 x8_2).f0.f28) ((rd_T25 t267 x8_2).f0.f29) ((rd_T25 t267 x8_2).f0.f30) ((rd_T25 t267 x8_2).f0.f31) ((rd_T25 t267 x8_2).f1)).bind fun t298 => (if t298 = true then (coraclelaw3_PointOrder.l0 k2 l0 t267 t270 t288 (wrap64 (x8_2 + 1))) else (some false))))) = some r := by rw [if_pos rfl] at H; exact H
                clear H
                have H := H1
                clear H1
                replace H := Option.bind_eq_some_iff.mp H
                obtain ⟨t296, A350, H⟩ := H
                replace H : (if t296 = true then (some false) else ((point_Has.f k2 l0 ((rd_T25 t267 x8_2).f0.f0) ((rd_T25 t267 x8_2).f0.f1) ((rd_T25 t267 x8_2).f0.f2) ((rd_T25 t267 x8_2).f0.f3) ((rd_T25 t267 x8_2).f0.f4) ((rd_T25 t267 x8_2).f0.f5) ((rd_T25 t267 x8_2).f0.f6) ((rd_T25 t267 x8_2).f0.f7) ((rd_T25 t267 x8_2).f0.f8) ((rd_T25 t267 x8_2).f0.f9) ((rd_T25 t267 x8_2).f0.f10) ((rd_T25 t267 x8_2).f0.f11) ((rd_T25 t267 x8_2).f0.f12) ((rd_T25 t267 x8_2).f0.f13) ((rd_T25 t267 x8_2).f0.f14) ((rd_T25 t267 x8_2).f0.f15) ((rd_T25 t267 x8_2).f0.f16) ((rd_T25 t267 x8_2).f0.f17) ((rd_T25 t267 x8_2).f0.f18) ((rd_T25 t267 x8_2).f0.f19) ((rd_T25 t267 x8_2).f0.f20) ((rd_T25 t267 x8_2).f0.f21) ((rd_T25 t267 x8_2).f0.f22) ((rd_T25 t267 x8_2).f0.f23) ((rd_T25 t267 x8_2).f0.f24) ((rd_T25 t267 x8_2).f0.f25) ((rd_T25 t267 x8_2).f0.f26) ((rd_T25 t267 x8_2).f0.f27) ((rd_T25 t267 x8_2).f0.f28) ((rd_T25 t267 x8_2).f0.f29) ((rd_T25 t267 x8_2).f0.f30) ((rd_T25 t267 x8_2).f0.f31) ((rd_T25 t267 x8_2).f1)).bind fun t298 => (if t298 = true then (coraclelaw3_PointOrder.l0 k2 l0 t267 t270 t288 (wrap64 (x8_2 + 1))) else (some false)))) = some r := H
                have A35 := Aside0.mk A350
                clear A350
                by_cases c36 : t296 = true
                ·
                 subst c36
                 have H1 : (some false) = some r := by rw [if_pos rfl] at H; exact H
                 exact absurd (H1.trans (congrArg some HTOLD.out)) (by decide)
                ·
                 replace c36 := Bool.eq_false_iff.mpr c36
                 subst c36
                 have H1 : ((point_Has.f k2 l0 ((rd_T25 t267 x8_2).f0.f0) ((rd_T25 t267 x8_2).f0.f1) ((rd_T25 t267 x8_2).f0.f2) ((rd_T25 t267 x8_2).f0.f3) ((rd_T25 t267 x8_2).f0.f4) ((rd_T25 t267 x8_2).f0.f5) ((rd_T25 t267 x8_2).f0.f6) ((rd_T25 t267 x8_2).f0.f7) ((rd_T25 t267 x8_2).f0.f8) ((rd_T25 t267 x8_2).f0.f9) ((rd_T25 t267 x8_2).f0.f10) ((rd_T25 t267 x8_2).f0.f11) ((rd_T25 t267 x8_2).f0.f12) ((rd_T25 t267 x8_2).f0.f13) ((rd_T25 t267 x8_2).f0.f14) ((rd_T25 t267 x8_2).f0.f15) ((rd_T25 t267 x8_2).f0.f16) ((rd_T25 t267 x8_2).f0.f17) ((rd_T25 t267 x8_2).f0.f18) ((rd_T25 t267 x8_2).f0.f19) ((rd_T25 t267 x8_2).f0.f20) ((rd_T25 t267 x8_2).f0.f21) ((rd_T25 t267 x8_2).f0.f22) ((rd_T25 t267 x8_2).f0.f23) ((rd_T25 t267 x8_2).f0.f24) ((rd_T25 t267 x8_2).f0.f25) ((rd_T25 t267 x8_2).f0.f26) ((rd_T25 t267 x8_2).f0.f27) ((rd_T25 t267 x8_2).f0.f28) ((rd_T25 t267 x8_2).f0.f29) ((rd_T25 t267 x8_2).f0.f30) ((rd_T25 t267 x8_2).f0.f31) ((rd_T25 t267 x8_2).f1)).bind fun t298 => (if t298 = true then (coraclelaw3_PointOrder.l0 k2 l0 t267 t270 t288 (wrap64 (x8_2 + 1))) else (some false))) = some r := by rw [if_neg (show ¬ (false = true) by decide)] at H; exact H
                 clear H
                 have H := H1
                 clear H1
                 replace H := Option.bind_eq_some_iff.mp H
                 obtain ⟨t298, A410, H⟩ := H
                 replace H : (if t298 = true then (coraclelaw3_PointOrder.l0 k2 l0 t267 t270 t288 (wrap64 (x8_2 + 1))) else (some false)) = some r := H
                 have A41 := Aside0.mk A410
                 clear A410
                 by_cases c42 : t298 = true
                 ·
                  subst c42
                  have H1 : (coraclelaw3_PointOrder.l0 k2 l0 t267 t270 t288 (wrap64 (x8_2 + 1))) = some r := by rw [if_pos rfl] at H; exact H
                  clear H
                  have H := H1
                  clear H1
                  have H' := Aside0.mk H
                  clear H
                  obtain ⟨Ao43, co43, eo43⟩ := Kd.R_slice HO_5.out
                  subst eo43
                  try go_wp2
                  have n0_ := Aside0.mk (Kd.R_drew HO_5.out)
                  have n1_ := Aside0.mk (Kd.R_drew HO_7.out)
                  have n2_ := Aside0.mk (below_drew1 HB.out)
                  clear HO_5
                  clear HO_7
                  clear HB
                  have HO_5 := n0_
                  have HO_7 := n1_
                  have HB := n2_
                  clear n0_ n1_ n2_
                  have p291 : 0 ≤ ((ji29) : Int) := of_decide_eq_true (by first | (with_reducible assumption) | assumption)
                  have q291 : (ji29) < (t267.length : Int) := of_decide_eq_true (by first | (with_reducible assumption) | assumption)
                  obtain ⟨ad291, e291, hx291_0, hx291_1, hx291_2, hx291_3, hx291_4, hx291_5, hx291_6, hx291_7, hx291_8, hx291_9, hx291_10, hx291_11, hx291_12, hx291_13, hx291_14, hx291_15, hx291_16, hx291_17, hx291_18, hx291_19, hx291_20, hx291_21, hx291_22, hx291_23, hx291_24, hx291_25, hx291_26, hx291_27, hx291_28, hx291_29, hx291_30, hx291_31, hx291_32⟩ := at_T25 (Kd.R_reads' HO_5.out).2.2 (ji29) p291 q291
                  cases e291
                  replace p291 := eq_true p291
                  replace q291 := eq_true q291
                  have hw291_0_32 := Go.Proofs.YtmoecidfmgeafaaDoor.Wide.mk32 hx291_0 hx291_1 hx291_2 hx291_3 hx291_4 hx291_5 hx291_6 hx291_7 hx291_8 hx291_9 hx291_10 hx291_11 hx291_12 hx291_13 hx291_14 hx291_15 hx291_16 hx291_17 hx291_18 hx291_19 hx291_20 hx291_21 hx291_22 hx291_23 hx291_24 hx291_25 hx291_26 hx291_27 hx291_28 hx291_29 hx291_30 hx291_31
                  have hw291_0_33 := Go.Proofs.YtmoecidfmgeafaaDoor.Wide.mk33 hx291_0 hx291_1 hx291_2 hx291_3 hx291_4 hx291_5 hx291_6 hx291_7 hx291_8 hx291_9 hx291_10 hx291_11 hx291_12 hx291_13 hx291_14 hx291_15 hx291_16 hx291_17 hx291_18 hx291_19 hx291_20 hx291_21 hx291_22 hx291_23 hx291_24 hx291_25 hx291_26 hx291_27 hx291_28 hx291_29 hx291_30 hx291_31 hx291_32
                  have p292 : 0 ≤ (x8_2 : Int) := of_decide_eq_true (by first | (with_reducible assumption) | assumption)
                  have q292 : x8_2 < (t267.length : Int) := of_decide_eq_true (by first | (with_reducible assumption) | assumption)
                  obtain ⟨ad292, e292, hx292_0, hx292_1, hx292_2, hx292_3, hx292_4, hx292_5, hx292_6, hx292_7, hx292_8, hx292_9, hx292_10, hx292_11, hx292_12, hx292_13, hx292_14, hx292_15, hx292_16, hx292_17, hx292_18, hx292_19, hx292_20, hx292_21, hx292_22, hx292_23, hx292_24, hx292_25, hx292_26, hx292_27, hx292_28, hx292_29, hx292_30, hx292_31, hx292_32⟩ := at_T25 (Kd.R_reads' HO_5.out).2.2 x8_2 p292 q292
                  obtain rfl : ad291 = ad292 := (by injection e292)
                  replace p292 := eq_true p292
                  replace q292 := eq_true q292
                  have hw292_0_32 := Go.Proofs.YtmoecidfmgeafaaDoor.Wide.mk32 hx292_0 hx292_1 hx292_2 hx292_3 hx292_4 hx292_5 hx292_6 hx292_7 hx292_8 hx292_9 hx292_10 hx292_11 hx292_12 hx292_13 hx292_14 hx292_15 hx292_16 hx292_17 hx292_18 hx292_19 hx292_20 hx292_21 hx292_22 hx292_23 hx292_24 hx292_25 hx292_26 hx292_27 hx292_28 hx292_29 hx292_30 hx292_31
                  have hw292_0_33 := Go.Proofs.YtmoecidfmgeafaaDoor.Wide.mk33 hx292_0 hx292_1 hx292_2 hx292_3 hx292_4 hx292_5 hx292_6 hx292_7 hx292_8 hx292_9 hx292_10 hx292_11 hx292_12 hx292_13 hx292_14 hx292_15 hx292_16 hx292_17 hx292_18 hx292_19 hx292_20 hx292_21 hx292_22 hx292_23 hx292_24 hx292_25 hx292_26 hx292_27 hx292_28 hx292_29 hx292_30 hx292_31 hx292_32
                  have p294 : 0 ≤ (x8_2 : Int) := of_decide_eq_true (by first | (with_reducible assumption) | assumption)
                  have q294 : x8_2 < (t267.length : Int) := of_decide_eq_true (by first | (with_reducible assumption) | assumption)
                  obtain ⟨ad294, e294, hx294_0, hx294_1, hx294_2, hx294_3, hx294_4, hx294_5, hx294_6, hx294_7, hx294_8, hx294_9, hx294_10, hx294_11, hx294_12, hx294_13, hx294_14, hx294_15, hx294_16, hx294_17, hx294_18, hx294_19, hx294_20, hx294_21, hx294_22, hx294_23, hx294_24, hx294_25, hx294_26, hx294_27, hx294_28, hx294_29, hx294_30, hx294_31, hx294_32⟩ := at_T25 (Kd.R_reads' HO_5.out).2.2 x8_2 p294 q294
                  obtain rfl : ad291 = ad294 := (by injection e294)
                  replace p294 := eq_true p294
                  replace q294 := eq_true q294
                  have hw294_0_32 := Go.Proofs.YtmoecidfmgeafaaDoor.Wide.mk32 hx294_0 hx294_1 hx294_2 hx294_3 hx294_4 hx294_5 hx294_6 hx294_7 hx294_8 hx294_9 hx294_10 hx294_11 hx294_12 hx294_13 hx294_14 hx294_15 hx294_16 hx294_17 hx294_18 hx294_19 hx294_20 hx294_21 hx294_22 hx294_23 hx294_24 hx294_25 hx294_26 hx294_27 hx294_28 hx294_29 hx294_30 hx294_31
                  have hw294_0_33 := Go.Proofs.YtmoecidfmgeafaaDoor.Wide.mk33 hx294_0 hx294_1 hx294_2 hx294_3 hx294_4 hx294_5 hx294_6 hx294_7 hx294_8 hx294_9 hx294_10 hx294_11 hx294_12 hx294_13 hx294_14 hx294_15 hx294_16 hx294_17 hx294_18 hx294_19 hx294_20 hx294_21 hx294_22 hx294_23 hx294_24 hx294_25 hx294_26 hx294_27 hx294_28 hx294_29 hx294_30 hx294_31 hx294_32
                  have p295 : 0 ≤ ((ji29) : Int) := of_decide_eq_true (by first | (with_reducible assumption) | assumption)
                  have q295 : (ji29) < (t267.length : Int) := of_decide_eq_true (by first | (with_reducible assumption) | assumption)
                  obtain ⟨ad295, e295, hx295_0, hx295_1, hx295_2, hx295_3, hx295_4, hx295_5, hx295_6, hx295_7, hx295_8, hx295_9, hx295_10, hx295_11, hx295_12, hx295_13, hx295_14, hx295_15, hx295_16, hx295_17, hx295_18, hx295_19, hx295_20, hx295_21, hx295_22, hx295_23, hx295_24, hx295_25, hx295_26, hx295_27, hx295_28, hx295_29, hx295_30, hx295_31, hx295_32⟩ := at_T25 (Kd.R_reads' HO_5.out).2.2 (ji29) p295 q295
                  obtain rfl : ad291 = ad295 := (by injection e295)
                  replace p295 := eq_true p295
                  replace q295 := eq_true q295
                  have hw295_0_32 := Go.Proofs.YtmoecidfmgeafaaDoor.Wide.mk32 hx295_0 hx295_1 hx295_2 hx295_3 hx295_4 hx295_5 hx295_6 hx295_7 hx295_8 hx295_9 hx295_10 hx295_11 hx295_12 hx295_13 hx295_14 hx295_15 hx295_16 hx295_17 hx295_18 hx295_19 hx295_20 hx295_21 hx295_22 hx295_23 hx295_24 hx295_25 hx295_26 hx295_27 hx295_28 hx295_29 hx295_30 hx295_31
                  have hw295_0_33 := Go.Proofs.YtmoecidfmgeafaaDoor.Wide.mk33 hx295_0 hx295_1 hx295_2 hx295_3 hx295_4 hx295_5 hx295_6 hx295_7 hx295_8 hx295_9 hx295_10 hx295_11 hx295_12 hx295_13 hx295_14 hx295_15 hx295_16 hx295_17 hx295_18 hx295_19 hx295_20 hx295_21 hx295_22 hx295_23 hx295_24 hx295_25 hx295_26 hx295_27 hx295_28 hx295_29 hx295_30 hx295_31 hx295_32
                  have p297 : 0 ≤ (x8_2 : Int) := of_decide_eq_true (by first | (with_reducible assumption) | assumption)
                  have q297 : x8_2 < (t267.length : Int) := of_decide_eq_true (by first | (with_reducible assumption) | assumption)
                  obtain ⟨ad297, e297, hx297_0, hx297_1, hx297_2, hx297_3, hx297_4, hx297_5, hx297_6, hx297_7, hx297_8, hx297_9, hx297_10, hx297_11, hx297_12, hx297_13, hx297_14, hx297_15, hx297_16, hx297_17, hx297_18, hx297_19, hx297_20, hx297_21, hx297_22, hx297_23, hx297_24, hx297_25, hx297_26, hx297_27, hx297_28, hx297_29, hx297_30, hx297_31, hx297_32⟩ := at_T25 (Kd.R_reads' HO_5.out).2.2 x8_2 p297 q297
                  obtain rfl : ad291 = ad297 := (by injection e297)
                  replace p297 := eq_true p297
                  replace q297 := eq_true q297
                  have hw297_0_32 := Go.Proofs.YtmoecidfmgeafaaDoor.Wide.mk32 hx297_0 hx297_1 hx297_2 hx297_3 hx297_4 hx297_5 hx297_6 hx297_7 hx297_8 hx297_9 hx297_10 hx297_11 hx297_12 hx297_13 hx297_14 hx297_15 hx297_16 hx297_17 hx297_18 hx297_19 hx297_20 hx297_21 hx297_22 hx297_23 hx297_24 hx297_25 hx297_26 hx297_27 hx297_28 hx297_29 hx297_30 hx297_31
                  have hw297_0_33 := Go.Proofs.YtmoecidfmgeafaaDoor.Wide.mk33 hx297_0 hx297_1 hx297_2 hx297_3 hx297_4 hx297_5 hx297_6 hx297_7 hx297_8 hx297_9 hx297_10 hx297_11 hx297_12 hx297_13 hx297_14 hx297_15 hx297_16 hx297_17 hx297_18 hx297_19 hx297_20 hx297_21 hx297_22 hx297_23 hx297_24 hx297_25 hx297_26 hx297_27 hx297_28 hx297_29 hx297_30 hx297_31 hx297_32
                  refine start_ (n := 36) (S := fun w' => Go.Proofs.YtmoecidfmgeafaaDoor.Wide.cellsAt w' (ad291.add (((ji29)).toNat * 33)) 33 = some (.int .u8 ((rd_T25 t267 (ji29)).f0.f0) :: .int .u8 ((rd_T25 t267 (ji29)).f0.f1) :: .int .u8 ((rd_T25 t267 (ji29)).f0.f2) :: .int .u8 ((rd_T25 t267 (ji29)).f0.f3) :: .int .u8 ((rd_T25 t267 (ji29)).f0.f4) :: .int .u8 ((rd_T25 t267 (ji29)).f0.f5) :: .int .u8 ((rd_T25 t267 (ji29)).f0.f6) :: .int .u8 ((rd_T25 t267 (ji29)).f0.f7) :: .int .u8 ((rd_T25 t267 (ji29)).f0.f8) :: .int .u8 ((rd_T25 t267 (ji29)).f0.f9) :: .int .u8 ((rd_T25 t267 (ji29)).f0.f10) :: .int .u8 ((rd_T25 t267 (ji29)).f0.f11) :: .int .u8 ((rd_T25 t267 (ji29)).f0.f12) :: .int .u8 ((rd_T25 t267 (ji29)).f0.f13) :: .int .u8 ((rd_T25 t267 (ji29)).f0.f14) :: .int .u8 ((rd_T25 t267 (ji29)).f0.f15) :: .int .u8 ((rd_T25 t267 (ji29)).f0.f16) :: .int .u8 ((rd_T25 t267 (ji29)).f0.f17) :: .int .u8 ((rd_T25 t267 (ji29)).f0.f18) :: .int .u8 ((rd_T25 t267 (ji29)).f0.f19) :: .int .u8 ((rd_T25 t267 (ji29)).f0.f20) :: .int .u8 ((rd_T25 t267 (ji29)).f0.f21) :: .int .u8 ((rd_T25 t267 (ji29)).f0.f22) :: .int .u8 ((rd_T25 t267 (ji29)).f0.f23) :: .int .u8 ((rd_T25 t267 (ji29)).f0.f24) :: .int .u8 ((rd_T25 t267 (ji29)).f0.f25) :: .int .u8 ((rd_T25 t267 (ji29)).f0.f26) :: .int .u8 ((rd_T25 t267 (ji29)).f0.f27) :: .int .u8 ((rd_T25 t267 (ji29)).f0.f28) :: .int .u8 ((rd_T25 t267 (ji29)).f0.f29) :: .int .u8 ((rd_T25 t267 (ji29)).f0.f30) :: .int .u8 ((rd_T25 t267 (ji29)).f0.f31) :: .int .i64 ((rd_T25 t267 (ji29)).f1) :: []) ∧ Go.Proofs.YtmoecidfmgeafaaDoor.Wide.cellsAt w' (ad291.add ((x8_2).toNat * 33)) 33 = some (.int .u8 ((rd_T25 t267 x8_2).f0.f0) :: .int .u8 ((rd_T25 t267 x8_2).f0.f1) :: .int .u8 ((rd_T25 t267 x8_2).f0.f2) :: .int .u8 ((rd_T25 t267 x8_2).f0.f3) :: .int .u8 ((rd_T25 t267 x8_2).f0.f4) :: .int .u8 ((rd_T25 t267 x8_2).f0.f5) :: .int .u8 ((rd_T25 t267 x8_2).f0.f6) :: .int .u8 ((rd_T25 t267 x8_2).f0.f7) :: .int .u8 ((rd_T25 t267 x8_2).f0.f8) :: .int .u8 ((rd_T25 t267 x8_2).f0.f9) :: .int .u8 ((rd_T25 t267 x8_2).f0.f10) :: .int .u8 ((rd_T25 t267 x8_2).f0.f11) :: .int .u8 ((rd_T25 t267 x8_2).f0.f12) :: .int .u8 ((rd_T25 t267 x8_2).f0.f13) :: .int .u8 ((rd_T25 t267 x8_2).f0.f14) :: .int .u8 ((rd_T25 t267 x8_2).f0.f15) :: .int .u8 ((rd_T25 t267 x8_2).f0.f16) :: .int .u8 ((rd_T25 t267 x8_2).f0.f17) :: .int .u8 ((rd_T25 t267 x8_2).f0.f18) :: .int .u8 ((rd_T25 t267 x8_2).f0.f19) :: .int .u8 ((rd_T25 t267 x8_2).f0.f20) :: .int .u8 ((rd_T25 t267 x8_2).f0.f21) :: .int .u8 ((rd_T25 t267 x8_2).f0.f22) :: .int .u8 ((rd_T25 t267 x8_2).f0.f23) :: .int .u8 ((rd_T25 t267 x8_2).f0.f24) :: .int .u8 ((rd_T25 t267 x8_2).f0.f25) :: .int .u8 ((rd_T25 t267 x8_2).f0.f26) :: .int .u8 ((rd_T25 t267 x8_2).f0.f27) :: .int .u8 ((rd_T25 t267 x8_2).f0.f28) :: .int .u8 ((rd_T25 t267 x8_2).f0.f29) :: .int .u8 ((rd_T25 t267 x8_2).f0.f30) :: .int .u8 ((rd_T25 t267 x8_2).f0.f31) :: .int .i64 ((rd_T25 t267 x8_2).f1) :: [])) (ds := []) #[false, false, false, false, false, false, false, false, false, false, false, false, false, false, false, false, false, false, false, false, false, false, false, false, false, false, false, false, false, false, false, false, false, false, false, false] (by kernel_rfl) rfl rfl ⟨Go.Proofs.YtmoecidfmgeafaaDoor.Wide.mk33 hx291_0 hx291_1 hx291_2 hx291_3 hx291_4 hx291_5 hx291_6 hx291_7 hx291_8 hx291_9 hx291_10 hx291_11 hx291_12 hx291_13 hx291_14 hx291_15 hx291_16 hx291_17 hx291_18 hx291_19 hx291_20 hx291_21 hx291_22 hx291_23 hx291_24 hx291_25 hx291_26 hx291_27 hx291_28 hx291_29 hx291_30 hx291_31 hx291_32, Go.Proofs.YtmoecidfmgeafaaDoor.Wide.mk33 hx292_0 hx292_1 hx292_2 hx292_3 hx292_4 hx292_5 hx292_6 hx292_7 hx292_8 hx292_9 hx292_10 hx292_11 hx292_12 hx292_13 hx292_14 hx292_15 hx292_16 hx292_17 hx292_18 hx292_19 hx292_20 hx292_21 hx292_22 hx292_23 hx292_24 hx292_25 hx292_26 hx292_27 hx292_28 hx292_29 hx292_30 hx292_31 hx292_32⟩ (fun hHeld => ?_); refine with_tabW coraclelaw3_PointOrder.tab9 coraclelaw3_PointOrder.bits9 (fun HT_ HW_ => ?_)
                  generalize wr.drew = w44 at HO_5 HO_7 HB hx291_0 hx291_1 hx291_10 hx291_11 hx291_12 hx291_13 hx291_14 hx291_15 hx291_16 hx291_17 hx291_18 hx291_19 hx291_2 hx291_20 hx291_21 hx291_22 hx291_23 hx291_24 hx291_25 hx291_26 hx291_27 hx291_28 hx291_29 hx291_3 hx291_30 hx291_31 hx291_32 hx291_4 hx291_5 hx291_6 hx291_7 hx291_8 hx291_9 hx292_0 hx292_1 hx292_10 hx292_11 hx292_12 hx292_13 hx292_14 hx292_15 hx292_16 hx292_17 hx292_18 hx292_19 hx292_2 hx292_20 hx292_21 hx292_22 hx292_23 hx292_24 hx292_25 hx292_26 hx292_27 hx292_28 hx292_29 hx292_3 hx292_30 hx292_31 hx292_32 hx292_4 hx292_5 hx292_6 hx292_7 hx292_8 hx292_9 hx294_0 hx294_1 hx294_10 hx294_11 hx294_12 hx294_13 hx294_14 hx294_15 hx294_16 hx294_17 hx294_18 hx294_19 hx294_2 hx294_20 hx294_21 hx294_22 hx294_23 hx294_24 hx294_25 hx294_26 hx294_27 hx294_28 hx294_29 hx294_3 hx294_30 hx294_31 hx294_32 hx294_4 hx294_5 hx294_6 hx294_7 hx294_8 hx294_9 hx295_0 hx295_1 hx295_10 hx295_11 hx295_12 hx295_13 hx295_14 hx295_15 hx295_16 hx295_17 hx295_18 hx295_19 hx295_2 hx295_20 hx295_21 hx295_22 hx295_23 hx295_24 hx295_25 hx295_26 hx295_27 hx295_28 hx295_29 hx295_3 hx295_30 hx295_31 hx295_32 hx295_4 hx295_5 hx295_6 hx295_7 hx295_8 hx295_9 hx297_0 hx297_1 hx297_10 hx297_11 hx297_12 hx297_13 hx297_14 hx297_15 hx297_16 hx297_17 hx297_18 hx297_19 hx297_2 hx297_20 hx297_21 hx297_22 hx297_23 hx297_24 hx297_25 hx297_26 hx297_27 hx297_28 hx297_29 hx297_3 hx297_30 hx297_31 hx297_32 hx297_4 hx297_5 hx297_6 hx297_7 hx297_8 hx297_9 hHeld ⊢
                  refine pure_ (i := 0) (N := some 41) (v := ?_) (a' := ?_) #[true, false, false, false, false, false, false, false, false, false, false, false, false, false, false, false, false, false, false, false, false, false, false, false, false, false, false, false, false, false, false, false, false, false, false, false] rfl rfl (any_of HT_.out (by kernel_rfl)) (fun _ _ _ h => h) (Or.inl ⟨by rfl, ?_⟩) ?_ ?_
                  rotate_left
                  ·
                   intro w'
                   go_simp
                   with_reducible rfl
                  rotate_left
                  ·
                   simp only [Act.put, List.setIfInBounds_toArray, List.set_cons_zero, List.set_cons_succ, i64_w, i32_w]
                   rfl
                  refine pure_ (i := 1) (N := some 42) (v := ?_) (a' := ?_) #[true, true, false, false, false, false, false, false, false, false, false, false, false, false, false, false, false, false, false, false, false, false, false, false, false, false, false, false, false, false, false, false, false, false, false, false] rfl rfl (any_of HT_.out (by kernel_rfl)) (fun _ _ _ h => h) (Or.inl ⟨by rfl, ?_⟩) ?_ ?_
                  rotate_left
                  ·
                   intro w'
                   go_simp
                   with_reducible rfl
                  rotate_left
                  ·
                   simp only [Act.put, List.setIfInBounds_toArray, List.set_cons_zero, List.set_cons_succ, i64_w, i32_w]
                   rfl
                  refine pure_ (i := 2) (N := some 43) (v := ?_) (a' := ?_) #[true, true, true, false, false, false, false, false, false, false, false, false, false, false, false, false, false, false, false, false, false, false, false, false, false, false, false, false, false, false, false, false, false, false, false, false] rfl rfl (any_of HT_.out (by kernel_rfl)) (fun _ _ _ h => h) (Or.inl ⟨by rfl, ?_⟩) ?_ ?_
                  rotate_left
                  ·
                   intro w'
                   go_simp
                   with_reducible rfl
                  rotate_left
                  ·
                   simp only [Act.put, List.setIfInBounds_toArray, List.set_cons_zero, List.set_cons_succ, i64_w, i32_w]
                   rfl
                  refine pure_ (i := 3) (N := some 44) (v := ?_) (a' := ?_) #[true, true, true, true, false, false, false, false, false, false, false, false, false, false, false, false, false, false, false, false, false, false, false, false, false, false, false, false, false, false, false, false, false, false, false, false] rfl rfl (any_of HT_.out (by kernel_rfl)) (fun _ _ _ h => h) (Or.inl ⟨by rfl, ?_⟩) ?_ ?_
                  rotate_left
                  ·
                   intro w'
                   go_simp
                   with_reducible rfl
                  rotate_left
                  ·
                   simp only [Act.put, List.setIfInBounds_toArray, List.set_cons_zero, List.set_cons_succ, i64_w, i32_w]
                   rfl
                  refine pure_ (i := 4) (N := some 45) (v := ?_) (a' := ?_) #[true, true, true, true, true, false, false, false, false, false, false, false, false, false, false, false, false, false, false, false, false, false, false, false, false, false, false, false, false, false, false, false, false, false, false, false] rfl rfl (any_of HT_.out (by kernel_rfl)) (fun _ _ _ h => h) (Or.inl ⟨by rfl, ?_⟩) ?_ ?_
                  rotate_left
                  ·
                   intro w'
                   go_simp
                   with_reducible rfl
                  rotate_left
                  ·
                   simp only [Act.put, List.setIfInBounds_toArray, List.set_cons_zero, List.set_cons_succ, i64_w, i32_w]
                   rfl
                  refine pure_ (i := 5) (N := some 46) (v := ?_) (a' := ?_) #[true, true, true, true, true, true, false, false, false, false, false, false, false, false, false, false, false, false, false, false, false, false, false, false, false, false, false, false, false, false, false, false, false, false, false, false] rfl rfl (any_of HT_.out (by kernel_rfl)) (fun _ _ _ h => h) (Or.inl ⟨by rfl, ?_⟩) ?_ ?_
                  rotate_left
                  ·
                   intro w'
                   go_simp
                   with_reducible rfl
                  rotate_left
                  ·
                   simp only [Act.put, List.setIfInBounds_toArray, List.set_cons_zero, List.set_cons_succ, i64_w, i32_w]
                   rfl
                  refine pure_ (i := 6) (N := some 47) (v := ?_) (a' := ?_) #[true, true, true, true, true, true, true, false, false, false, false, false, false, false, false, false, false, false, false, false, false, false, false, false, false, false, false, false, false, false, false, false, false, false, false, false] rfl rfl (any_of HT_.out (by kernel_rfl)) (fun _ _ _ h => h) (Or.inl ⟨by rfl, ?_⟩) ?_ ?_
                  rotate_left
                  ·
                   intro w'
                   go_simp
                   with_reducible rfl
                  rotate_left
                  ·
                   simp only [Act.put, List.setIfInBounds_toArray, List.set_cons_zero, List.set_cons_succ, i64_w, i32_w]
                   rfl
                  refine pure_ (i := 8) (N := some 49) (v := ?_) (a' := ?_) #[true, true, true, true, true, true, true, false, true, false, false, false, false, false, false, false, false, false, false, false, false, false, false, false, false, false, false, false, false, false, false, false, false, false, false, false] rfl rfl (any_of HT_.out (by kernel_rfl)) (fun _ _ _ h => h) (Or.inl ⟨by rfl, ?_⟩) ?_ ?_
                  rotate_left
                  ·
                   intro w'
                   go_simp
                   with_reducible rfl
                  rotate_left
                  ·
                   simp only [Act.put, List.setIfInBounds_toArray, List.set_cons_zero, List.set_cons_succ, i64_w, i32_w]
                   rfl
                  refine pure_ (i := 9) (N := some 50) (v := ?_) (a' := ?_) #[true, true, true, true, true, true, true, false, true, true, false, false, false, false, false, false, false, false, false, false, false, false, false, false, false, false, false, false, false, false, false, false, false, false, false, false] rfl rfl (any_of HT_.out (by kernel_rfl)) (fun _ _ _ h => h) (Or.inl ⟨by rfl, ?_⟩) ?_ ?_
                  rotate_left
                  ·
                   intro w'
                   go_simp
                   with_reducible rfl
                  rotate_left
                  ·
                   simp only [Act.put, List.setIfInBounds_toArray, List.set_cons_zero, List.set_cons_succ, i64_w, i32_w]
                   rfl
                  refine pure_ (i := 10) (N := some 51) (v := ?_) (a' := ?_) #[true, true, true, true, true, true, true, false, true, true, true, false, false, false, false, false, false, false, false, false, false, false, false, false, false, false, false, false, false, false, false, false, false, false, false, false] rfl rfl (any_of HT_.out (by kernel_rfl)) (fun _ _ _ h => h) (Or.inl ⟨by rfl, ?_⟩) ?_ ?_
                  rotate_left
                  ·
                   intro w'
                   go_simp
                   with_reducible rfl
                  rotate_left
                  ·
                   simp only [Act.put, List.setIfInBounds_toArray, List.set_cons_zero, List.set_cons_succ, i64_w, i32_w]
                   rfl
                  refine take_ (i := 7) (N := some 48) (v := ?_) (a' := ?_) #[true, true, true, true, true, true, true, true, true, true, true, false, false, false, false, false, false, false, false, false, false, false, false, false, false, false, false, false, false, false, false, false, false, false, false, false] rfl rfl (take_ofW HT_.out HW_.out (by kernel_rfl)) (fun _ _ _ h => h) (Or.inl ⟨by rfl, ?_⟩) hHeld ?_ ?_
                  rotate_left
                  ·
                   rintro w' ⟨s0, s1⟩
                   go_simp
                   with_reducible rfl
                  rotate_left
                  ·
                   simp only [Act.put, List.setIfInBounds_toArray, List.set_cons_zero, List.set_cons_succ, i64_w, i32_w]
                   rfl
                  refine take_ (i := 11) (N := some 52) (v := ?_) (a' := ?_) #[true, true, true, true, true, true, true, true, true, true, true, true, false, false, false, false, false, false, false, false, false, false, false, false, false, false, false, false, false, false, false, false, false, false, false, false] rfl rfl (take_ofW HT_.out HW_.out (by kernel_rfl)) (fun _ _ _ h => h) (Or.inl ⟨by rfl, ?_⟩) hHeld ?_ ?_
                  rotate_left
                  ·
                   rintro w' ⟨s0, s1⟩
                   go_simp
                   with_reducible rfl
                  rotate_left
                  ·
                   simp only [Act.put, List.setIfInBounds_toArray, List.set_cons_zero, List.set_cons_succ, i64_w, i32_w]
                   rfl
                  refine one_ (i := 12) (N := some 53) #[true, true, true, true, true, true, true, true, true, true, true, true, true, false, false, false, false, false, false, false, false, false, false, false, false, false, false, false, false, false, false, false, false, false, false, false] rfl rfl (one_of HT_.out (by kernel_rfl)) (by decide) (fun K hK => ?_)
                  refine goes_ Tryd.func23 (by kernel_rfl) rfl #[.agg #[.int .u8 ((rd_T25 t267 (ji29)).f0.f0), .int .u8 ((rd_T25 t267 (ji29)).f0.f1), .int .u8 ((rd_T25 t267 (ji29)).f0.f2), .int .u8 ((rd_T25 t267 (ji29)).f0.f3), .int .u8 ((rd_T25 t267 (ji29)).f0.f4), .int .u8 ((rd_T25 t267 (ji29)).f0.f5), .int .u8 ((rd_T25 t267 (ji29)).f0.f6), .int .u8 ((rd_T25 t267 (ji29)).f0.f7), .int .u8 ((rd_T25 t267 (ji29)).f0.f8), .int .u8 ((rd_T25 t267 (ji29)).f0.f9), .int .u8 ((rd_T25 t267 (ji29)).f0.f10), .int .u8 ((rd_T25 t267 (ji29)).f0.f11), .int .u8 ((rd_T25 t267 (ji29)).f0.f12), .int .u8 ((rd_T25 t267 (ji29)).f0.f13), .int .u8 ((rd_T25 t267 (ji29)).f0.f14), .int .u8 ((rd_T25 t267 (ji29)).f0.f15), .int .u8 ((rd_T25 t267 (ji29)).f0.f16), .int .u8 ((rd_T25 t267 (ji29)).f0.f17), .int .u8 ((rd_T25 t267 (ji29)).f0.f18), .int .u8 ((rd_T25 t267 (ji29)).f0.f19), .int .u8 ((rd_T25 t267 (ji29)).f0.f20), .int .u8 ((rd_T25 t267 (ji29)).f0.f21), .int .u8 ((rd_T25 t267 (ji29)).f0.f22), .int .u8 ((rd_T25 t267 (ji29)).f0.f23), .int .u8 ((rd_T25 t267 (ji29)).f0.f24), .int .u8 ((rd_T25 t267 (ji29)).f0.f25), .int .u8 ((rd_T25 t267 (ji29)).f0.f26), .int .u8 ((rd_T25 t267 (ji29)).f0.f27), .int .u8 ((rd_T25 t267 (ji29)).f0.f28), .int .u8 ((rd_T25 t267 (ji29)).f0.f29), .int .u8 ((rd_T25 t267 (ji29)).f0.f30), .int .u8 ((rd_T25 t267 (ji29)).f0.f31), .int .i64 ((rd_T25 t267 (ji29)).f1)], .agg #[.int .u8 ((rd_T25 t267 x8_2).f0.f0), .int .u8 ((rd_T25 t267 x8_2).f0.f1), .int .u8 ((rd_T25 t267 x8_2).f0.f2), .int .u8 ((rd_T25 t267 x8_2).f0.f3), .int .u8 ((rd_T25 t267 x8_2).f0.f4), .int .u8 ((rd_T25 t267 x8_2).f0.f5), .int .u8 ((rd_T25 t267 x8_2).f0.f6), .int .u8 ((rd_T25 t267 x8_2).f0.f7), .int .u8 ((rd_T25 t267 x8_2).f0.f8), .int .u8 ((rd_T25 t267 x8_2).f0.f9), .int .u8 ((rd_T25 t267 x8_2).f0.f10), .int .u8 ((rd_T25 t267 x8_2).f0.f11), .int .u8 ((rd_T25 t267 x8_2).f0.f12), .int .u8 ((rd_T25 t267 x8_2).f0.f13), .int .u8 ((rd_T25 t267 x8_2).f0.f14), .int .u8 ((rd_T25 t267 x8_2).f0.f15), .int .u8 ((rd_T25 t267 x8_2).f0.f16), .int .u8 ((rd_T25 t267 x8_2).f0.f17), .int .u8 ((rd_T25 t267 x8_2).f0.f18), .int .u8 ((rd_T25 t267 x8_2).f0.f19), .int .u8 ((rd_T25 t267 x8_2).f0.f20), .int .u8 ((rd_T25 t267 x8_2).f0.f21), .int .u8 ((rd_T25 t267 x8_2).f0.f22), .int .u8 ((rd_T25 t267 x8_2).f0.f23), .int .u8 ((rd_T25 t267 x8_2).f0.f24), .int .u8 ((rd_T25 t267 x8_2).f0.f25), .int .u8 ((rd_T25 t267 x8_2).f0.f26), .int .u8 ((rd_T25 t267 x8_2).f0.f27), .int .u8 ((rd_T25 t267 x8_2).f0.f28), .int .u8 ((rd_T25 t267 x8_2).f0.f29), .int .u8 ((rd_T25 t267 x8_2).f0.f30), .int .u8 ((rd_T25 t267 x8_2).f0.f31), .int .i64 ((rd_T25 t267 x8_2).f1)]] (by rfl) rfl rfl (by (try simp only [List.map_toArray, List.map_cons, List.map_nil]); first | done | (simp only [hji29]; rfl) | rfl | (simp only [List.length_drop, List.length_take]; rfl)) ?_
                  with_reducible refine (point_Less.calls ((rd_T25 t267 (ji29)).f0.f0) ((rd_T25 t267 (ji29)).f0.f1) ((rd_T25 t267 (ji29)).f0.f2) ((rd_T25 t267 (ji29)).f0.f3) ((rd_T25 t267 (ji29)).f0.f4) ((rd_T25 t267 (ji29)).f0.f5) ((rd_T25 t267 (ji29)).f0.f6) ((rd_T25 t267 (ji29)).f0.f7) ((rd_T25 t267 (ji29)).f0.f8) ((rd_T25 t267 (ji29)).f0.f9) ((rd_T25 t267 (ji29)).f0.f10) ((rd_T25 t267 (ji29)).f0.f11) ((rd_T25 t267 (ji29)).f0.f12) ((rd_T25 t267 (ji29)).f0.f13) ((rd_T25 t267 (ji29)).f0.f14) ((rd_T25 t267 (ji29)).f0.f15) ((rd_T25 t267 (ji29)).f0.f16) ((rd_T25 t267 (ji29)).f0.f17) ((rd_T25 t267 (ji29)).f0.f18) ((rd_T25 t267 (ji29)).f0.f19) ((rd_T25 t267 (ji29)).f0.f20) ((rd_T25 t267 (ji29)).f0.f21) ((rd_T25 t267 (ji29)).f0.f22) ((rd_T25 t267 (ji29)).f0.f23) ((rd_T25 t267 (ji29)).f0.f24) ((rd_T25 t267 (ji29)).f0.f25) ((rd_T25 t267 (ji29)).f0.f26) ((rd_T25 t267 (ji29)).f0.f27) ((rd_T25 t267 (ji29)).f0.f28) ((rd_T25 t267 (ji29)).f0.f29) ((rd_T25 t267 (ji29)).f0.f30) ((rd_T25 t267 (ji29)).f0.f31) ((rd_T25 t267 (ji29)).f1) ((rd_T25 t267 x8_2).f0.f0) ((rd_T25 t267 x8_2).f0.f1) ((rd_T25 t267 x8_2).f0.f2) ((rd_T25 t267 x8_2).f0.f3) ((rd_T25 t267 x8_2).f0.f4) ((rd_T25 t267 x8_2).f0.f5) ((rd_T25 t267 x8_2).f0.f6) ((rd_T25 t267 x8_2).f0.f7) ((rd_T25 t267 x8_2).f0.f8) ((rd_T25 t267 x8_2).f0.f9) ((rd_T25 t267 x8_2).f0.f10) ((rd_T25 t267 x8_2).f0.f11) ((rd_T25 t267 x8_2).f0.f12) ((rd_T25 t267 x8_2).f0.f13) ((rd_T25 t267 x8_2).f0.f14) ((rd_T25 t267 x8_2).f0.f15) ((rd_T25 t267 x8_2).f0.f16) ((rd_T25 t267 x8_2).f0.f17) ((rd_T25 t267 x8_2).f0.f18) ((rd_T25 t267 x8_2).f0.f19) ((rd_T25 t267 x8_2).f0.f20) ((rd_T25 t267 x8_2).f0.f21) ((rd_T25 t267 x8_2).f0.f22) ((rd_T25 t267 x8_2).f0.f23) ((rd_T25 t267 x8_2).f0.f24) ((rd_T25 t267 x8_2).f0.f25) ((rd_T25 t267 x8_2).f0.f26) ((rd_T25 t267 x8_2).f0.f27) ((rd_T25 t267 x8_2).f0.f28) ((rd_T25 t267 x8_2).f0.f29) ((rd_T25 t267 x8_2).f0.f30) ((rd_T25 t267 x8_2).f0.f31) ((rd_T25 t267 x8_2).f1) true _ A33.out).mono ?_
                  rintro e w45 ⟨rfl, hb⟩
                  have HS0_ := Go.Proofs.YtmoecidfmgeafaaDoor.Wide.cells_below hb 33 0 _ (hHeld.1)
                  have HS33_ := Go.Proofs.YtmoecidfmgeafaaDoor.Wide.cells_below hb 33 0 _ (hHeld.2)
                  refine ⟨_, rfl, ?_⟩
                  have n0_ := Aside0.mk (Kd.R_below (by (with_reducible repeat (first | apply Kd.R_alloc | apply Kd.R_drewN | apply Kd.R_drew)); exact HO_5.out) hb)
                  have n1_ := Aside0.mk (Kd.R_below (by (with_reducible repeat (first | apply Kd.R_alloc | apply Kd.R_drewN | apply Kd.R_drew)); exact HO_7.out) hb)
                  have n2_ := Aside0.mk (below_step (by repeat (first | (with_reducible first | exact HB.out | apply below_alloc | apply pw_below_drewN | apply below_drew1) | exact HB.out)) hb)
                  clear HO_5
                  clear HO_7
                  clear HB
                  have HO_5 := n0_
                  have HO_7 := n1_
                  have HB := n2_
                  clear n0_ n1_ n2_
                  (try clear hb)
                  (try clear hb2)
                  (try clear hk)
                  (try clear hi)
                  refine hK.out _ _ ⟨HS0_, HS33_⟩ (fun hHeld => ?_)
                  clear hK K
                  refine norm_ (a' := ?_) ?_ ?_
                  rotate_left
                  ·
                   show Act.put _ (some 53) _ = _
                   simp only [Act.put, List.setIfInBounds_toArray, List.set_cons_zero, List.set_cons_succ, i64_w, i32_w]
                   rfl
                  refine pure_ (i := 13) (N := some 54) (v := ?_) (a' := ?_) #[true, true, true, true, true, true, true, true, true, true, true, true, true, true, false, false, false, false, false, false, false, false, false, false, false, false, false, false, false, false, false, false, false, false, false, false] rfl rfl (any_of HT_.out (by kernel_rfl)) (fun _ _ _ h => h) (Or.inl ⟨by rfl, ?_⟩) ?_ ?_
                  rotate_left
                  ·
                   intro w'
                   go_simp
                   with_reducible rfl
                  rotate_left
                  ·
                   simp only [Act.put, List.setIfInBounds_toArray, List.set_cons_zero, List.set_cons_succ, i64_w, i32_w]
                   rfl
                  refine pure_ (i := 14) (N := some 55) (v := ?_) (a' := ?_) #[true, true, true, true, true, true, true, true, true, true, true, true, true, true, true, false, false, false, false, false, false, false, false, false, false, false, false, false, false, false, false, false, false, false, false, false] rfl rfl (any_of HT_.out (by kernel_rfl)) (fun _ _ _ h => h) (Or.inl ⟨by rfl, ?_⟩) ?_ ?_
                  rotate_left
                  ·
                   intro w'
                   go_simp
                   with_reducible rfl
                  rotate_left
                  ·
                   simp only [Act.put, List.setIfInBounds_toArray, List.set_cons_zero, List.set_cons_succ, i64_w, i32_w]
                   rfl
                  refine pure_ (i := 15) (N := some 56) (v := ?_) (a' := ?_) #[true, true, true, true, true, true, true, true, true, true, true, true, true, true, true, true, false, false, false, false, false, false, false, false, false, false, false, false, false, false, false, false, false, false, false, false] rfl rfl (any_of HT_.out (by kernel_rfl)) (fun _ _ _ h => h) (Or.inl ⟨by rfl, ?_⟩) ?_ ?_
                  rotate_left
                  ·
                   intro w'
                   go_simp
                   with_reducible rfl
                  rotate_left
                  ·
                   simp only [Act.put, List.setIfInBounds_toArray, List.set_cons_zero, List.set_cons_succ, i64_w, i32_w]
                   rfl
                  refine pure_ (i := 16) (N := some 57) (v := ?_) (a' := ?_) #[true, true, true, true, true, true, true, true, true, true, true, true, true, true, true, true, true, false, false, false, false, false, false, false, false, false, false, false, false, false, false, false, false, false, false, false] rfl rfl (any_of HT_.out (by kernel_rfl)) (fun _ _ _ h => h) (Or.inl ⟨by rfl, ?_⟩) ?_ ?_
                  rotate_left
                  ·
                   intro w'
                   go_simp
                   with_reducible rfl
                  rotate_left
                  ·
                   simp only [Act.put, List.setIfInBounds_toArray, List.set_cons_zero, List.set_cons_succ, i64_w, i32_w]
                   rfl
                  refine pure_ (i := 17) (N := some 58) (v := ?_) (a' := ?_) #[true, true, true, true, true, true, true, true, true, true, true, true, true, true, true, true, true, true, false, false, false, false, false, false, false, false, false, false, false, false, false, false, false, false, false, false] rfl rfl (any_of HT_.out (by kernel_rfl)) (fun _ _ _ h => h) (Or.inl ⟨by rfl, ?_⟩) ?_ ?_
                  rotate_left
                  ·
                   intro w'
                   go_simp
                   with_reducible rfl
                  rotate_left
                  ·
                   simp only [Act.put, List.setIfInBounds_toArray, List.set_cons_zero, List.set_cons_succ, i64_w, i32_w]
                   rfl
                  refine pure_ (i := 19) (N := some 60) (v := ?_) (a' := ?_) #[true, true, true, true, true, true, true, true, true, true, true, true, true, true, true, true, true, true, false, true, false, false, false, false, false, false, false, false, false, false, false, false, false, false, false, false] rfl rfl (any_of HT_.out (by kernel_rfl)) (fun _ _ _ h => h) (Or.inl ⟨by rfl, ?_⟩) ?_ ?_
                  rotate_left
                  ·
                   intro w'
                   go_simp
                   with_reducible rfl
                  rotate_left
                  ·
                   simp only [Act.put, List.setIfInBounds_toArray, List.set_cons_zero, List.set_cons_succ, i64_w, i32_w]
                   rfl
                  refine pure_ (i := 20) (N := some 61) (v := ?_) (a' := ?_) #[true, true, true, true, true, true, true, true, true, true, true, true, true, true, true, true, true, true, false, true, true, false, false, false, false, false, false, false, false, false, false, false, false, false, false, false] rfl rfl (any_of HT_.out (by kernel_rfl)) (fun _ _ _ h => h) (Or.inl ⟨by rfl, ?_⟩) ?_ ?_
                  rotate_left
                  ·
                   intro w'
                   go_simp
                   with_reducible rfl
                  rotate_left
                  ·
                   simp only [Act.put, List.setIfInBounds_toArray, List.set_cons_zero, List.set_cons_succ, i64_w, i32_w]
                   rfl
                  refine pure_ (i := 21) (N := some 62) (v := ?_) (a' := ?_) #[true, true, true, true, true, true, true, true, true, true, true, true, true, true, true, true, true, true, false, true, true, true, false, false, false, false, false, false, false, false, false, false, false, false, false, false] rfl rfl (any_of HT_.out (by kernel_rfl)) (fun _ _ _ h => h) (Or.inl ⟨by rfl, ?_⟩) ?_ ?_
                  rotate_left
                  ·
                   intro w'
                   go_simp
                   with_reducible rfl
                  rotate_left
                  ·
                   simp only [Act.put, List.setIfInBounds_toArray, List.set_cons_zero, List.set_cons_succ, i64_w, i32_w]
                   rfl
                  refine pure_ (i := 22) (N := some 63) (v := ?_) (a' := ?_) #[true, true, true, true, true, true, true, true, true, true, true, true, true, true, true, true, true, true, false, true, true, true, true, false, false, false, false, false, false, false, false, false, false, false, false, false] rfl rfl (any_of HT_.out (by kernel_rfl)) (fun _ _ _ h => h) (Or.inl ⟨by rfl, ?_⟩) ?_ ?_
                  rotate_left
                  ·
                   intro w'
                   go_simp
                   with_reducible rfl
                  rotate_left
                  ·
                   simp only [Act.put, List.setIfInBounds_toArray, List.set_cons_zero, List.set_cons_succ, i64_w, i32_w]
                   rfl
                  refine take_ (i := 18) (N := some 59) (v := ?_) (a' := ?_) #[true, true, true, true, true, true, true, true, true, true, true, true, true, true, true, true, true, true, true, true, true, true, true, false, false, false, false, false, false, false, false, false, false, false, false, false] rfl rfl (take_ofW HT_.out HW_.out (by kernel_rfl)) (fun _ _ _ h => h) (Or.inl ⟨by rfl, ?_⟩) hHeld ?_ ?_
                  rotate_left
                  ·
                   rintro w' ⟨s0, s1⟩
                   go_simp
                   with_reducible rfl
                  rotate_left
                  ·
                   simp only [Act.put, List.setIfInBounds_toArray, List.set_cons_zero, List.set_cons_succ, i64_w, i32_w]
                   rfl
                  refine take_ (i := 23) (N := some 64) (v := ?_) (a' := ?_) #[true, true, true, true, true, true, true, true, true, true, true, true, true, true, true, true, true, true, true, true, true, true, true, true, false, false, false, false, false, false, false, false, false, false, false, false] rfl rfl (take_ofW HT_.out HW_.out (by kernel_rfl)) (fun _ _ _ h => h) (Or.inl ⟨by rfl, ?_⟩) hHeld ?_ ?_
                  rotate_left
                  ·
                   rintro w' ⟨s0, s1⟩
                   go_simp
                   with_reducible rfl
                  rotate_left
                  ·
                   simp only [Act.put, List.setIfInBounds_toArray, List.set_cons_zero, List.set_cons_succ, i64_w, i32_w]
                   rfl
                  refine one_ (i := 24) (N := some 65) #[true, true, true, true, true, true, true, true, true, true, true, true, true, true, true, true, true, true, true, true, true, true, true, true, true, false, false, false, false, false, false, false, false, false, false, false] rfl rfl (one_of HT_.out (by kernel_rfl)) (by decide) (fun K hK => ?_)
                  refine goes_ Tryd.func23 (by kernel_rfl) rfl #[.agg #[.int .u8 ((rd_T25 t267 x8_2).f0.f0), .int .u8 ((rd_T25 t267 x8_2).f0.f1), .int .u8 ((rd_T25 t267 x8_2).f0.f2), .int .u8 ((rd_T25 t267 x8_2).f0.f3), .int .u8 ((rd_T25 t267 x8_2).f0.f4), .int .u8 ((rd_T25 t267 x8_2).f0.f5), .int .u8 ((rd_T25 t267 x8_2).f0.f6), .int .u8 ((rd_T25 t267 x8_2).f0.f7), .int .u8 ((rd_T25 t267 x8_2).f0.f8), .int .u8 ((rd_T25 t267 x8_2).f0.f9), .int .u8 ((rd_T25 t267 x8_2).f0.f10), .int .u8 ((rd_T25 t267 x8_2).f0.f11), .int .u8 ((rd_T25 t267 x8_2).f0.f12), .int .u8 ((rd_T25 t267 x8_2).f0.f13), .int .u8 ((rd_T25 t267 x8_2).f0.f14), .int .u8 ((rd_T25 t267 x8_2).f0.f15), .int .u8 ((rd_T25 t267 x8_2).f0.f16), .int .u8 ((rd_T25 t267 x8_2).f0.f17), .int .u8 ((rd_T25 t267 x8_2).f0.f18), .int .u8 ((rd_T25 t267 x8_2).f0.f19), .int .u8 ((rd_T25 t267 x8_2).f0.f20), .int .u8 ((rd_T25 t267 x8_2).f0.f21), .int .u8 ((rd_T25 t267 x8_2).f0.f22), .int .u8 ((rd_T25 t267 x8_2).f0.f23), .int .u8 ((rd_T25 t267 x8_2).f0.f24), .int .u8 ((rd_T25 t267 x8_2).f0.f25), .int .u8 ((rd_T25 t267 x8_2).f0.f26), .int .u8 ((rd_T25 t267 x8_2).f0.f27), .int .u8 ((rd_T25 t267 x8_2).f0.f28), .int .u8 ((rd_T25 t267 x8_2).f0.f29), .int .u8 ((rd_T25 t267 x8_2).f0.f30), .int .u8 ((rd_T25 t267 x8_2).f0.f31), .int .i64 ((rd_T25 t267 x8_2).f1)], .agg #[.int .u8 ((rd_T25 t267 (ji29)).f0.f0), .int .u8 ((rd_T25 t267 (ji29)).f0.f1), .int .u8 ((rd_T25 t267 (ji29)).f0.f2), .int .u8 ((rd_T25 t267 (ji29)).f0.f3), .int .u8 ((rd_T25 t267 (ji29)).f0.f4), .int .u8 ((rd_T25 t267 (ji29)).f0.f5), .int .u8 ((rd_T25 t267 (ji29)).f0.f6), .int .u8 ((rd_T25 t267 (ji29)).f0.f7), .int .u8 ((rd_T25 t267 (ji29)).f0.f8), .int .u8 ((rd_T25 t267 (ji29)).f0.f9), .int .u8 ((rd_T25 t267 (ji29)).f0.f10), .int .u8 ((rd_T25 t267 (ji29)).f0.f11), .int .u8 ((rd_T25 t267 (ji29)).f0.f12), .int .u8 ((rd_T25 t267 (ji29)).f0.f13), .int .u8 ((rd_T25 t267 (ji29)).f0.f14), .int .u8 ((rd_T25 t267 (ji29)).f0.f15), .int .u8 ((rd_T25 t267 (ji29)).f0.f16), .int .u8 ((rd_T25 t267 (ji29)).f0.f17), .int .u8 ((rd_T25 t267 (ji29)).f0.f18), .int .u8 ((rd_T25 t267 (ji29)).f0.f19), .int .u8 ((rd_T25 t267 (ji29)).f0.f20), .int .u8 ((rd_T25 t267 (ji29)).f0.f21), .int .u8 ((rd_T25 t267 (ji29)).f0.f22), .int .u8 ((rd_T25 t267 (ji29)).f0.f23), .int .u8 ((rd_T25 t267 (ji29)).f0.f24), .int .u8 ((rd_T25 t267 (ji29)).f0.f25), .int .u8 ((rd_T25 t267 (ji29)).f0.f26), .int .u8 ((rd_T25 t267 (ji29)).f0.f27), .int .u8 ((rd_T25 t267 (ji29)).f0.f28), .int .u8 ((rd_T25 t267 (ji29)).f0.f29), .int .u8 ((rd_T25 t267 (ji29)).f0.f30), .int .u8 ((rd_T25 t267 (ji29)).f0.f31), .int .i64 ((rd_T25 t267 (ji29)).f1)]] (by rfl) rfl rfl (by (try simp only [List.map_toArray, List.map_cons, List.map_nil]); first | done | (simp only [hji29]; rfl) | rfl | (simp only [List.length_drop, List.length_take]; rfl)) ?_
                  with_reducible refine (point_Less.calls ((rd_T25 t267 x8_2).f0.f0) ((rd_T25 t267 x8_2).f0.f1) ((rd_T25 t267 x8_2).f0.f2) ((rd_T25 t267 x8_2).f0.f3) ((rd_T25 t267 x8_2).f0.f4) ((rd_T25 t267 x8_2).f0.f5) ((rd_T25 t267 x8_2).f0.f6) ((rd_T25 t267 x8_2).f0.f7) ((rd_T25 t267 x8_2).f0.f8) ((rd_T25 t267 x8_2).f0.f9) ((rd_T25 t267 x8_2).f0.f10) ((rd_T25 t267 x8_2).f0.f11) ((rd_T25 t267 x8_2).f0.f12) ((rd_T25 t267 x8_2).f0.f13) ((rd_T25 t267 x8_2).f0.f14) ((rd_T25 t267 x8_2).f0.f15) ((rd_T25 t267 x8_2).f0.f16) ((rd_T25 t267 x8_2).f0.f17) ((rd_T25 t267 x8_2).f0.f18) ((rd_T25 t267 x8_2).f0.f19) ((rd_T25 t267 x8_2).f0.f20) ((rd_T25 t267 x8_2).f0.f21) ((rd_T25 t267 x8_2).f0.f22) ((rd_T25 t267 x8_2).f0.f23) ((rd_T25 t267 x8_2).f0.f24) ((rd_T25 t267 x8_2).f0.f25) ((rd_T25 t267 x8_2).f0.f26) ((rd_T25 t267 x8_2).f0.f27) ((rd_T25 t267 x8_2).f0.f28) ((rd_T25 t267 x8_2).f0.f29) ((rd_T25 t267 x8_2).f0.f30) ((rd_T25 t267 x8_2).f0.f31) ((rd_T25 t267 x8_2).f1) ((rd_T25 t267 (ji29)).f0.f0) ((rd_T25 t267 (ji29)).f0.f1) ((rd_T25 t267 (ji29)).f0.f2) ((rd_T25 t267 (ji29)).f0.f3) ((rd_T25 t267 (ji29)).f0.f4) ((rd_T25 t267 (ji29)).f0.f5) ((rd_T25 t267 (ji29)).f0.f6) ((rd_T25 t267 (ji29)).f0.f7) ((rd_T25 t267 (ji29)).f0.f8) ((rd_T25 t267 (ji29)).f0.f9) ((rd_T25 t267 (ji29)).f0.f10) ((rd_T25 t267 (ji29)).f0.f11) ((rd_T25 t267 (ji29)).f0.f12) ((rd_T25 t267 (ji29)).f0.f13) ((rd_T25 t267 (ji29)).f0.f14) ((rd_T25 t267 (ji29)).f0.f15) ((rd_T25 t267 (ji29)).f0.f16) ((rd_T25 t267 (ji29)).f0.f17) ((rd_T25 t267 (ji29)).f0.f18) ((rd_T25 t267 (ji29)).f0.f19) ((rd_T25 t267 (ji29)).f0.f20) ((rd_T25 t267 (ji29)).f0.f21) ((rd_T25 t267 (ji29)).f0.f22) ((rd_T25 t267 (ji29)).f0.f23) ((rd_T25 t267 (ji29)).f0.f24) ((rd_T25 t267 (ji29)).f0.f25) ((rd_T25 t267 (ji29)).f0.f26) ((rd_T25 t267 (ji29)).f0.f27) ((rd_T25 t267 (ji29)).f0.f28) ((rd_T25 t267 (ji29)).f0.f29) ((rd_T25 t267 (ji29)).f0.f30) ((rd_T25 t267 (ji29)).f0.f31) ((rd_T25 t267 (ji29)).f1) false _ A35.out).mono ?_
                  rintro e w46 ⟨rfl, hb⟩
                  have HS0_ := Go.Proofs.YtmoecidfmgeafaaDoor.Wide.cells_below hb 33 0 _ (hHeld.1)
                  have HS33_ := Go.Proofs.YtmoecidfmgeafaaDoor.Wide.cells_below hb 33 0 _ (hHeld.2)
                  refine ⟨_, rfl, ?_⟩
                  have n0_ := Aside0.mk (Kd.R_below (by (with_reducible repeat (first | apply Kd.R_alloc | apply Kd.R_drewN | apply Kd.R_drew)); exact HO_5.out) hb)
                  have n1_ := Aside0.mk (Kd.R_below (by (with_reducible repeat (first | apply Kd.R_alloc | apply Kd.R_drewN | apply Kd.R_drew)); exact HO_7.out) hb)
                  have n2_ := Aside0.mk (below_step (by repeat (first | (with_reducible first | exact HB.out | apply below_alloc | apply pw_below_drewN | apply below_drew1) | exact HB.out)) hb)
                  clear HO_5
                  clear HO_7
                  clear HB
                  have HO_5 := n0_
                  have HO_7 := n1_
                  have HB := n2_
                  clear n0_ n1_ n2_
                  (try clear hb)
                  (try clear hb2)
                  (try clear hk)
                  (try clear hi)
                  refine hK.out _ _ ⟨HS0_, HS33_⟩ (fun hHeld => ?_)
                  clear hK K
                  refine norm_ (a' := ?_) ?_ ?_
                  rotate_left
                  ·
                   show Act.put _ (some 65) _ = _
                   simp only [Act.put, List.setIfInBounds_toArray, List.set_cons_zero, List.set_cons_succ, i64_w, i32_w]
                   rfl
                  refine pure_ (i := 25) (N := some 66) (v := ?_) (a' := ?_) #[true, true, true, true, true, true, true, true, true, true, true, true, true, true, true, true, true, true, true, true, true, true, true, true, true, true, false, false, false, false, false, false, false, false, false, false] rfl rfl (any_of HT_.out (by kernel_rfl)) (fun _ _ _ h => h) (Or.inl ⟨by rfl, ?_⟩) ?_ ?_
                  rotate_left
                  ·
                   intro w'
                   go_simp
                   with_reducible rfl
                  rotate_left
                  ·
                   simp only [Act.put, List.setIfInBounds_toArray, List.set_cons_zero, List.set_cons_succ, i64_w, i32_w]
                   rfl
                  refine pure_ (i := 26) (N := some 67) (v := ?_) (a' := ?_) #[true, true, true, true, true, true, true, true, true, true, true, true, true, true, true, true, true, true, true, true, true, true, true, true, true, true, true, false, false, false, false, false, false, false, false, false] rfl rfl (any_of HT_.out (by kernel_rfl)) (fun _ _ _ h => h) (Or.inl ⟨by rfl, ?_⟩) ?_ ?_
                  rotate_left
                  ·
                   intro w'
                   go_simp
                   with_reducible rfl
                  rotate_left
                  ·
                   simp only [Act.put, List.setIfInBounds_toArray, List.set_cons_zero, List.set_cons_succ, i64_w, i32_w]
                   rfl
                  refine pure_ (i := 27) (N := some 68) (v := ?_) (a' := ?_) #[true, true, true, true, true, true, true, true, true, true, true, true, true, true, true, true, true, true, true, true, true, true, true, true, true, true, true, true, false, false, false, false, false, false, false, false] rfl rfl (any_of HT_.out (by kernel_rfl)) (fun _ _ _ h => h) (Or.inl ⟨by rfl, ?_⟩) ?_ ?_
                  rotate_left
                  ·
                   intro w'
                   go_simp
                   with_reducible rfl
                  rotate_left
                  ·
                   simp only [Act.put, List.setIfInBounds_toArray, List.set_cons_zero, List.set_cons_succ, i64_w, i32_w]
                   rfl
                  refine pure_ (i := 28) (N := some 69) (v := ?_) (a' := ?_) #[true, true, true, true, true, true, true, true, true, true, true, true, true, true, true, true, true, true, true, true, true, true, true, true, true, true, true, true, true, false, false, false, false, false, false, false] rfl rfl (any_of HT_.out (by kernel_rfl)) (fun _ _ _ h => h) (Or.inl ⟨by rfl, ?_⟩) ?_ ?_
                  rotate_left
                  ·
                   intro w'
                   go_simp
                   with_reducible rfl
                  rotate_left
                  ·
                   simp only [Act.put, List.setIfInBounds_toArray, List.set_cons_zero, List.set_cons_succ, i64_w, i32_w]
                   rfl
                  refine pure_ (i := 29) (N := some 70) (v := ?_) (a' := ?_) #[true, true, true, true, true, true, true, true, true, true, true, true, true, true, true, true, true, true, true, true, true, true, true, true, true, true, true, true, true, true, false, false, false, false, false, false] rfl rfl (any_of HT_.out (by kernel_rfl)) (fun _ _ _ h => h) (Or.inl ⟨by rfl, ?_⟩) ?_ ?_
                  rotate_left
                  ·
                   intro w'
                   go_simp
                   with_reducible rfl
                  rotate_left
                  ·
                   simp only [Act.put, List.setIfInBounds_toArray, List.set_cons_zero, List.set_cons_succ, i64_w, i32_w]
                   rfl
                  refine pure_ (i := 30) (N := some 71) (v := ?_) (a' := ?_) #[true, true, true, true, true, true, true, true, true, true, true, true, true, true, true, true, true, true, true, true, true, true, true, true, true, true, true, true, true, true, true, false, false, false, false, false] rfl rfl (any_of HT_.out (by kernel_rfl)) (fun _ _ _ h => h) (Or.inl ⟨by rfl, ?_⟩) ?_ ?_
                  rotate_left
                  ·
                   intro w'
                   go_simp
                   with_reducible rfl
                  rotate_left
                  ·
                   simp only [Act.put, List.setIfInBounds_toArray, List.set_cons_zero, List.set_cons_succ, i64_w, i32_w]
                   rfl
                  refine pure_ (i := 31) (N := some 72) (v := ?_) (a' := ?_) #[true, true, true, true, true, true, true, true, true, true, true, true, true, true, true, true, true, true, true, true, true, true, true, true, true, true, true, true, true, true, true, true, false, false, false, false] rfl rfl (any_of HT_.out (by kernel_rfl)) (fun _ _ _ h => h) (Or.inl ⟨by rfl, ?_⟩) ?_ ?_
                  rotate_left
                  ·
                   intro w'
                   go_simp
                   with_reducible rfl
                  rotate_left
                  ·
                   simp only [Act.put, List.setIfInBounds_toArray, List.set_cons_zero, List.set_cons_succ, i64_w, i32_w]
                   rfl
                  refine take_ (i := 32) (N := some 73) (v := ?_) (a' := ?_) #[true, true, true, true, true, true, true, true, true, true, true, true, true, true, true, true, true, true, true, true, true, true, true, true, true, true, true, true, true, true, true, true, true, false, false, false] rfl rfl (take_ofW HT_.out HW_.out (by kernel_rfl)) (fun _ _ _ h => h) (Or.inl ⟨by rfl, ?_⟩) hHeld ?_ ?_
                  rotate_left
                  ·
                   rintro w' ⟨s0, s1⟩
                   go_simp
                   with_reducible rfl
                  rotate_left
                  ·
                   simp only [Act.put, List.setIfInBounds_toArray, List.set_cons_zero, List.set_cons_succ, i64_w, i32_w]
                   rfl
                  refine one_ (i := 33) (N := some 74) #[true, true, true, true, true, true, true, true, true, true, true, true, true, true, true, true, true, true, true, true, true, true, true, true, true, true, true, true, true, true, true, true, true, true, false, false] rfl rfl (one_of HT_.out (by kernel_rfl)) (by decide) (fun K hK => ?_)
                  refine goes_ Tryd.func20 (by kernel_rfl) rfl #[.slice A0 l0.length c0, .agg #[.int .u8 ((rd_T25 t267 x8_2).f0.f0), .int .u8 ((rd_T25 t267 x8_2).f0.f1), .int .u8 ((rd_T25 t267 x8_2).f0.f2), .int .u8 ((rd_T25 t267 x8_2).f0.f3), .int .u8 ((rd_T25 t267 x8_2).f0.f4), .int .u8 ((rd_T25 t267 x8_2).f0.f5), .int .u8 ((rd_T25 t267 x8_2).f0.f6), .int .u8 ((rd_T25 t267 x8_2).f0.f7), .int .u8 ((rd_T25 t267 x8_2).f0.f8), .int .u8 ((rd_T25 t267 x8_2).f0.f9), .int .u8 ((rd_T25 t267 x8_2).f0.f10), .int .u8 ((rd_T25 t267 x8_2).f0.f11), .int .u8 ((rd_T25 t267 x8_2).f0.f12), .int .u8 ((rd_T25 t267 x8_2).f0.f13), .int .u8 ((rd_T25 t267 x8_2).f0.f14), .int .u8 ((rd_T25 t267 x8_2).f0.f15), .int .u8 ((rd_T25 t267 x8_2).f0.f16), .int .u8 ((rd_T25 t267 x8_2).f0.f17), .int .u8 ((rd_T25 t267 x8_2).f0.f18), .int .u8 ((rd_T25 t267 x8_2).f0.f19), .int .u8 ((rd_T25 t267 x8_2).f0.f20), .int .u8 ((rd_T25 t267 x8_2).f0.f21), .int .u8 ((rd_T25 t267 x8_2).f0.f22), .int .u8 ((rd_T25 t267 x8_2).f0.f23), .int .u8 ((rd_T25 t267 x8_2).f0.f24), .int .u8 ((rd_T25 t267 x8_2).f0.f25), .int .u8 ((rd_T25 t267 x8_2).f0.f26), .int .u8 ((rd_T25 t267 x8_2).f0.f27), .int .u8 ((rd_T25 t267 x8_2).f0.f28), .int .u8 ((rd_T25 t267 x8_2).f0.f29), .int .u8 ((rd_T25 t267 x8_2).f0.f30), .int .u8 ((rd_T25 t267 x8_2).f0.f31), .int .i64 ((rd_T25 t267 x8_2).f1)]] (by rfl) rfl rfl (by (try simp only [List.map_toArray, List.map_cons, List.map_nil]); first | done | rfl | (simp only [List.length_drop, List.length_take]; rfl)) ?_
                  with_reducible refine (point_Has.calls k2 _ _ l0 ((rd_T25 t267 x8_2).f0.f0) ((rd_T25 t267 x8_2).f0.f1) ((rd_T25 t267 x8_2).f0.f2) ((rd_T25 t267 x8_2).f0.f3) ((rd_T25 t267 x8_2).f0.f4) ((rd_T25 t267 x8_2).f0.f5) ((rd_T25 t267 x8_2).f0.f6) ((rd_T25 t267 x8_2).f0.f7) ((rd_T25 t267 x8_2).f0.f8) ((rd_T25 t267 x8_2).f0.f9) ((rd_T25 t267 x8_2).f0.f10) ((rd_T25 t267 x8_2).f0.f11) ((rd_T25 t267 x8_2).f0.f12) ((rd_T25 t267 x8_2).f0.f13) ((rd_T25 t267 x8_2).f0.f14) ((rd_T25 t267 x8_2).f0.f15) ((rd_T25 t267 x8_2).f0.f16) ((rd_T25 t267 x8_2).f0.f17) ((rd_T25 t267 x8_2).f0.f18) ((rd_T25 t267 x8_2).f0.f19) ((rd_T25 t267 x8_2).f0.f20) ((rd_T25 t267 x8_2).f0.f21) ((rd_T25 t267 x8_2).f0.f22) ((rd_T25 t267 x8_2).f0.f23) ((rd_T25 t267 x8_2).f0.f24) ((rd_T25 t267 x8_2).f0.f25) ((rd_T25 t267 x8_2).f0.f26) ((rd_T25 t267 x8_2).f0.f27) ((rd_T25 t267 x8_2).f0.f28) ((rd_T25 t267 x8_2).f0.f29) ((rd_T25 t267 x8_2).f0.f30) ((rd_T25 t267 x8_2).f0.f31) ((rd_T25 t267 x8_2).f1) true _ ?side1 ?side2 A41.out).mono ?_
                  (case side1 => repeat (first | exact (Kd.C_below HR0.out HB.out) | (with_reducible refine Kd.C_alloc ?_ _) | (with_reducible refine Kd.C_drewN ?_ _) | (with_reducible refine Kd.C_drew ?_)))
                  (case side2 => exact HC0.out)
                  rintro e w47 ⟨rfl, hb⟩
                  have HS0_ := Go.Proofs.YtmoecidfmgeafaaDoor.Wide.cells_below hb 33 0 _ (hHeld.1)
                  have HS33_ := Go.Proofs.YtmoecidfmgeafaaDoor.Wide.cells_below hb 33 0 _ (hHeld.2)
                  refine ⟨_, rfl, ?_⟩
                  have n0_ := Aside0.mk (Kd.R_below (by (with_reducible repeat (first | apply Kd.R_alloc | apply Kd.R_drewN | apply Kd.R_drew)); exact HO_5.out) hb)
                  have n1_ := Aside0.mk (Kd.R_below (by (with_reducible repeat (first | apply Kd.R_alloc | apply Kd.R_drewN | apply Kd.R_drew)); exact HO_7.out) hb)
                  have n2_ := Aside0.mk (below_step (by repeat (first | (with_reducible first | exact HB.out | apply below_alloc | apply pw_below_drewN | apply below_drew1) | exact HB.out)) hb)
                  clear HO_5
                  clear HO_7
                  clear HB
                  have HO_5 := n0_
                  have HO_7 := n1_
                  have HB := n2_
                  clear n0_ n1_ n2_
                  (try clear hb)
                  (try clear hb2)
                  (try clear hk)
                  (try clear hi)
                  refine hK.out _ _ ⟨HS0_, HS33_⟩ (fun hHeld => ?_)
                  clear hK K
                  refine norm_ (a' := ?_) ?_ ?_
                  rotate_left
                  ·
                   show Act.put _ (some 74) _ = _
                   simp only [Act.put, List.setIfInBounds_toArray, List.set_cons_zero, List.set_cons_succ, i64_w, i32_w]
                   rfl
                  refine pure_ (i := 34) (N := some 75) (v := ?_) (a' := ?_) #[true, true, true, true, true, true, true, true, true, true, true, true, true, true, true, true, true, true, true, true, true, true, true, true, true, true, true, true, true, true, true, true, true, true, true, false] rfl rfl (any_of HT_.out (by kernel_rfl)) (fun _ _ _ h => h) (Or.inl ⟨by rfl, ?_⟩) ?_ ?_
                  rotate_left
                  ·
                   intro w'
                   go_simp
                   with_reducible rfl
                  rotate_left
                  ·
                   simp only [Act.put, List.setIfInBounds_toArray, List.set_cons_zero, List.set_cons_succ, i64_w, i32_w]
                   rfl
                  refine pure_ (i := 35) (N := some 76) (v := ?_) (a' := ?_) #[true, true, true, true, true, true, true, true, true, true, true, true, true, true, true, true, true, true, true, true, true, true, true, true, true, true, true, true, true, true, true, true, true, true, true, true] rfl rfl (any_of HT_.out (by kernel_rfl)) (fun _ _ _ h => h) (Or.inl ⟨by rfl, ?_⟩) ?_ ?_
                  rotate_left
                  ·
                   intro w'
                   go_simp
                   with_reducible rfl
                  rotate_left
                  ·
                   simp only [Act.put, List.setIfInBounds_toArray, List.set_cons_zero, List.set_cons_succ, i64_w, i32_w]
                   rfl
                  refine done_ (done_of HT_.out (by kernel_rfl)) ?_
                  try go_wp2
                  go_roundg k2
                  case measure => have := HJ2.out; have := HK2.out; omega
                  case rel => exact ⟨(wrap64 (x8_2 + 1)), (by first | rfl | (simp; done) | (simp [*]; done)), H', ⟨by have := HJ2.out; have := HK2.out; omega⟩, ⟨by (with_reducible repeat (first | apply Kd.R_alloc | apply Kd.R_drewN | apply Kd.R_drew)); exact HO_5.out⟩, ⟨by (with_reducible repeat (first | apply Kd.R_alloc | apply Kd.R_drewN | apply Kd.R_drew)); exact HO_7.out⟩, ⟨by repeat (first | (with_reducible first | exact HB.out | apply below_alloc | apply pw_below_drewN | apply below_drew1) | exact HB.out)⟩⟩
                 ·
                  replace c42 := Bool.eq_false_iff.mpr c42
                  subst c42
                  have H1 : (some false) = some r := by rw [if_neg (show ¬ (false = true) by decide)] at H; exact H
                  exact absurd (H1.trans (congrArg some HTOLD.out)) (by decide)
               ·
                replace c34 := Bool.eq_false_iff.mpr c34
                subst c34
                have H1 : (some false) = some r := by rw [if_neg (show ¬ (false = true) by decide)] at H; exact H
                exact absurd (H1.trans (congrArg some HTOLD.out)) (by decide)
              ·
               rw [if_neg c32] at H
               exact absurd H (by simp)
             ·
              rw [if_neg c31] at H
              exact absurd H (by simp)
            ·
             rw [if_neg c30] at H
             exact absurd H (by simp)
           ·
            rw [if_neg c28] at H
            have c28b0 : decide (0 < x8_2) = false := decide_eq_false c28
            clear c28
            by_cases c56 : 0 ≤ x8_2
            ·
             rw [if_pos c56] at H
             have c56b0 : decide (0 ≤ x8_2) = true := decide_eq_true c56
             clear c56
             replace H := Option.bind_eq_some_iff.mp H
             obtain ⟨t300, A570, H⟩ := H
             replace H : (if t300 = true then (coraclelaw3_PointOrder.l0 k2 l0 t267 t270 t288 (wrap64 (x8_2 + 1))) else (some false)) = some r := H
             have A57 := Aside0.mk A570
             clear A570
             by_cases c58 : t300 = true
             ·
              subst c58
              have H1 : (coraclelaw3_PointOrder.l0 k2 l0 t267 t270 t288 (wrap64 (x8_2 + 1))) = some r := by rw [if_pos rfl] at H; exact H
              clear H
              have H := H1
              clear H1
              have H' := Aside0.mk H
              clear H
              obtain ⟨Ao59, co59, eo59⟩ := Kd.R_slice HO_5.out
              subst eo59
              try go_wp2
              have n0_ := Aside0.mk (Kd.R_drew HO_5.out)
              have n1_ := Aside0.mk (Kd.R_drew HO_7.out)
              have n2_ := Aside0.mk (below_drew1 HB.out)
              clear HO_5
              clear HO_7
              clear HB
              have HO_5 := n0_
              have HO_7 := n1_
              have HB := n2_
              clear n0_ n1_ n2_
              have p299 : 0 ≤ (x8_2 : Int) := of_decide_eq_true (by first | (with_reducible assumption) | assumption)
              have q299 : x8_2 < (t267.length : Int) := of_decide_eq_true (by first | (with_reducible assumption) | assumption)
              obtain ⟨ad299, e299, hx299_0, hx299_1, hx299_2, hx299_3, hx299_4, hx299_5, hx299_6, hx299_7, hx299_8, hx299_9, hx299_10, hx299_11, hx299_12, hx299_13, hx299_14, hx299_15, hx299_16, hx299_17, hx299_18, hx299_19, hx299_20, hx299_21, hx299_22, hx299_23, hx299_24, hx299_25, hx299_26, hx299_27, hx299_28, hx299_29, hx299_30, hx299_31, hx299_32⟩ := at_T25 (Kd.R_reads' HO_5.out).2.2 x8_2 p299 q299
              cases e299
              replace p299 := eq_true p299
              replace q299 := eq_true q299
              have hw299_0_32 := Go.Proofs.YtmoecidfmgeafaaDoor.Wide.mk32 hx299_0 hx299_1 hx299_2 hx299_3 hx299_4 hx299_5 hx299_6 hx299_7 hx299_8 hx299_9 hx299_10 hx299_11 hx299_12 hx299_13 hx299_14 hx299_15 hx299_16 hx299_17 hx299_18 hx299_19 hx299_20 hx299_21 hx299_22 hx299_23 hx299_24 hx299_25 hx299_26 hx299_27 hx299_28 hx299_29 hx299_30 hx299_31
              have hw299_0_33 := Go.Proofs.YtmoecidfmgeafaaDoor.Wide.mk33 hx299_0 hx299_1 hx299_2 hx299_3 hx299_4 hx299_5 hx299_6 hx299_7 hx299_8 hx299_9 hx299_10 hx299_11 hx299_12 hx299_13 hx299_14 hx299_15 hx299_16 hx299_17 hx299_18 hx299_19 hx299_20 hx299_21 hx299_22 hx299_23 hx299_24 hx299_25 hx299_26 hx299_27 hx299_28 hx299_29 hx299_30 hx299_31 hx299_32
              refine start_ (n := 36) (S := fun w' => Go.Proofs.YtmoecidfmgeafaaDoor.Wide.cellsAt w' (ad299.add ((x8_2).toNat * 33)) 33 = some (.int .u8 ((rd_T25 t267 x8_2).f0.f0) :: .int .u8 ((rd_T25 t267 x8_2).f0.f1) :: .int .u8 ((rd_T25 t267 x8_2).f0.f2) :: .int .u8 ((rd_T25 t267 x8_2).f0.f3) :: .int .u8 ((rd_T25 t267 x8_2).f0.f4) :: .int .u8 ((rd_T25 t267 x8_2).f0.f5) :: .int .u8 ((rd_T25 t267 x8_2).f0.f6) :: .int .u8 ((rd_T25 t267 x8_2).f0.f7) :: .int .u8 ((rd_T25 t267 x8_2).f0.f8) :: .int .u8 ((rd_T25 t267 x8_2).f0.f9) :: .int .u8 ((rd_T25 t267 x8_2).f0.f10) :: .int .u8 ((rd_T25 t267 x8_2).f0.f11) :: .int .u8 ((rd_T25 t267 x8_2).f0.f12) :: .int .u8 ((rd_T25 t267 x8_2).f0.f13) :: .int .u8 ((rd_T25 t267 x8_2).f0.f14) :: .int .u8 ((rd_T25 t267 x8_2).f0.f15) :: .int .u8 ((rd_T25 t267 x8_2).f0.f16) :: .int .u8 ((rd_T25 t267 x8_2).f0.f17) :: .int .u8 ((rd_T25 t267 x8_2).f0.f18) :: .int .u8 ((rd_T25 t267 x8_2).f0.f19) :: .int .u8 ((rd_T25 t267 x8_2).f0.f20) :: .int .u8 ((rd_T25 t267 x8_2).f0.f21) :: .int .u8 ((rd_T25 t267 x8_2).f0.f22) :: .int .u8 ((rd_T25 t267 x8_2).f0.f23) :: .int .u8 ((rd_T25 t267 x8_2).f0.f24) :: .int .u8 ((rd_T25 t267 x8_2).f0.f25) :: .int .u8 ((rd_T25 t267 x8_2).f0.f26) :: .int .u8 ((rd_T25 t267 x8_2).f0.f27) :: .int .u8 ((rd_T25 t267 x8_2).f0.f28) :: .int .u8 ((rd_T25 t267 x8_2).f0.f29) :: .int .u8 ((rd_T25 t267 x8_2).f0.f30) :: .int .u8 ((rd_T25 t267 x8_2).f0.f31) :: .int .i64 ((rd_T25 t267 x8_2).f1) :: [])) (ds := []) #[false, false, false, false, false, false, false, false, false, false, false, false, false, false, false, false, false, false, false, false, false, false, false, false, false, false, false, false, false, false, false, false, false, false, false, false] (by kernel_rfl) rfl rfl (Go.Proofs.YtmoecidfmgeafaaDoor.Wide.mk33 hx299_0 hx299_1 hx299_2 hx299_3 hx299_4 hx299_5 hx299_6 hx299_7 hx299_8 hx299_9 hx299_10 hx299_11 hx299_12 hx299_13 hx299_14 hx299_15 hx299_16 hx299_17 hx299_18 hx299_19 hx299_20 hx299_21 hx299_22 hx299_23 hx299_24 hx299_25 hx299_26 hx299_27 hx299_28 hx299_29 hx299_30 hx299_31 hx299_32) (fun hHeld => ?_); refine with_tabW coraclelaw3_PointOrder.tab9 coraclelaw3_PointOrder.bits9 (fun HT_ HW_ => ?_)
              generalize wr.drew = w60 at HO_5 HO_7 HB hx299_0 hx299_1 hx299_10 hx299_11 hx299_12 hx299_13 hx299_14 hx299_15 hx299_16 hx299_17 hx299_18 hx299_19 hx299_2 hx299_20 hx299_21 hx299_22 hx299_23 hx299_24 hx299_25 hx299_26 hx299_27 hx299_28 hx299_29 hx299_3 hx299_30 hx299_31 hx299_32 hx299_4 hx299_5 hx299_6 hx299_7 hx299_8 hx299_9 hHeld ⊢
              refine pure_ (i := 0) (N := some 41) (v := ?_) (a' := ?_) #[true, false, false, false, false, false, false, false, false, false, false, false, false, false, false, false, false, false, false, false, false, false, false, false, false, false, false, false, false, false, false, false, false, false, false, false] rfl rfl (any_of HT_.out (by kernel_rfl)) (fun _ _ _ h => h) (Or.inl ⟨by rfl, ?_⟩) ?_ ?_
              rotate_left
              ·
               intro w'
               go_simp
               with_reducible rfl
              rotate_left
              ·
               simp only [Act.put, List.setIfInBounds_toArray, List.set_cons_zero, List.set_cons_succ, i64_w, i32_w]
               rfl
              refine pure_ (i := 1) (N := some 42) (v := ?_) (a' := ?_) #[true, true, false, false, false, false, false, false, false, false, false, false, false, false, false, false, false, false, false, false, false, false, false, false, false, false, false, false, false, false, false, false, false, false, false, false] rfl rfl (any_of HT_.out (by kernel_rfl)) (fun _ _ _ h => h) (Or.inl ⟨by rfl, ?_⟩) ?_ ?_
              rotate_left
              ·
               intro w'
               go_simp
               with_reducible rfl
              rotate_left
              ·
               simp only [Act.put, List.setIfInBounds_toArray, List.set_cons_zero, List.set_cons_succ, i64_w, i32_w]
               rfl
              refine pure_ (i := 2) (N := some 43) (v := ?_) (a' := ?_) #[true, true, true, false, false, false, false, false, false, false, false, false, false, false, false, false, false, false, false, false, false, false, false, false, false, false, false, false, false, false, false, false, false, false, false, false] rfl rfl (any_of HT_.out (by kernel_rfl)) (fun _ _ _ h => h) (Or.inl ⟨by rfl, ?_⟩) ?_ ?_
              rotate_left
              ·
               intro w'
               go_simp
               with_reducible rfl
              rotate_left
              ·
               simp only [Act.put, List.setIfInBounds_toArray, List.set_cons_zero, List.set_cons_succ, i64_w, i32_w]
               rfl
              refine pure_ (i := 3) (N := some 44) (v := undef) (a' := ?_) #[true, true, true, true, false, false, false, false, false, false, false, false, false, false, false, false, false, false, false, false, false, false, false, false, false, false, false, false, false, false, false, false, false, false, false, false] rfl rfl (any_of HT_.out (by kernel_rfl)) (fun _ _ _ h => h) (Or.inr ⟨by rfl, rfl⟩) ?_ ?_
              rotate_left
              ·
               simp only [Act.put, List.setIfInBounds_toArray, List.set_cons_zero, List.set_cons_succ, i64_w, i32_w]
               rfl
              refine pure_ (i := 4) (N := some 45) (v := undef) (a' := ?_) #[true, true, true, true, true, false, false, false, false, false, false, false, false, false, false, false, false, false, false, false, false, false, false, false, false, false, false, false, false, false, false, false, false, false, false, false] rfl rfl (any_of HT_.out (by kernel_rfl)) (fun _ _ _ h => h) (Or.inr ⟨by rfl, rfl⟩) ?_ ?_
              rotate_left
              ·
               simp only [Act.put, List.setIfInBounds_toArray, List.set_cons_zero, List.set_cons_succ, i64_w, i32_w]
               rfl
              refine pure_ (i := 5) (N := some 46) (v := undef) (a' := ?_) #[true, true, true, true, true, true, false, false, false, false, false, false, false, false, false, false, false, false, false, false, false, false, false, false, false, false, false, false, false, false, false, false, false, false, false, false] rfl rfl (any_of HT_.out (by kernel_rfl)) (fun _ _ _ h => h) (Or.inr ⟨by rfl, rfl⟩) ?_ ?_
              rotate_left
              ·
               simp only [Act.put, List.setIfInBounds_toArray, List.set_cons_zero, List.set_cons_succ, i64_w, i32_w]
               rfl
              refine pure_ (i := 6) (N := some 47) (v := undef) (a' := ?_) #[true, true, true, true, true, true, true, false, false, false, false, false, false, false, false, false, false, false, false, false, false, false, false, false, false, false, false, false, false, false, false, false, false, false, false, false] rfl rfl (any_of HT_.out (by kernel_rfl)) (fun _ _ _ h => h) (Or.inr ⟨by rfl, rfl⟩) ?_ ?_
              rotate_left
              ·
               simp only [Act.put, List.setIfInBounds_toArray, List.set_cons_zero, List.set_cons_succ, i64_w, i32_w]
               rfl
              refine pure_ (i := 7) (N := some 48) (v := undef) (a' := ?_) #[true, true, true, true, true, true, true, true, false, false, false, false, false, false, false, false, false, false, false, false, false, false, false, false, false, false, false, false, false, false, false, false, false, false, false, false] rfl rfl (any_of HT_.out (by kernel_rfl)) (fun _ _ _ h => h) (Or.inr ⟨by rfl, rfl⟩) ?_ ?_
              rotate_left
              ·
               simp only [Act.put, List.setIfInBounds_toArray, List.set_cons_zero, List.set_cons_succ, i64_w, i32_w]
               rfl
              refine pure_ (i := 8) (N := some 49) (v := undef) (a' := ?_) #[true, true, true, true, true, true, true, true, true, false, false, false, false, false, false, false, false, false, false, false, false, false, false, false, false, false, false, false, false, false, false, false, false, false, false, false] rfl rfl (any_of HT_.out (by kernel_rfl)) (fun _ _ _ h => h) (Or.inr ⟨by rfl, rfl⟩) ?_ ?_
              rotate_left
              ·
               simp only [Act.put, List.setIfInBounds_toArray, List.set_cons_zero, List.set_cons_succ, i64_w, i32_w]
               rfl
              refine pure_ (i := 9) (N := some 50) (v := undef) (a' := ?_) #[true, true, true, true, true, true, true, true, true, true, false, false, false, false, false, false, false, false, false, false, false, false, false, false, false, false, false, false, false, false, false, false, false, false, false, false] rfl rfl (any_of HT_.out (by kernel_rfl)) (fun _ _ _ h => h) (Or.inr ⟨by rfl, rfl⟩) ?_ ?_
              rotate_left
              ·
               simp only [Act.put, List.setIfInBounds_toArray, List.set_cons_zero, List.set_cons_succ, i64_w, i32_w]
               rfl
              refine pure_ (i := 10) (N := some 51) (v := undef) (a' := ?_) #[true, true, true, true, true, true, true, true, true, true, true, false, false, false, false, false, false, false, false, false, false, false, false, false, false, false, false, false, false, false, false, false, false, false, false, false] rfl rfl (any_of HT_.out (by kernel_rfl)) (fun _ _ _ h => h) (Or.inr ⟨by rfl, rfl⟩) ?_ ?_
              rotate_left
              ·
               simp only [Act.put, List.setIfInBounds_toArray, List.set_cons_zero, List.set_cons_succ, i64_w, i32_w]
               rfl
              refine pure_ (i := 11) (N := some 52) (v := undef) (a' := ?_) #[true, true, true, true, true, true, true, true, true, true, true, true, false, false, false, false, false, false, false, false, false, false, false, false, false, false, false, false, false, false, false, false, false, false, false, false] rfl rfl (any_of HT_.out (by kernel_rfl)) (fun _ _ _ h => h) (Or.inr ⟨by rfl, rfl⟩) ?_ ?_
              rotate_left
              ·
               simp only [Act.put, List.setIfInBounds_toArray, List.set_cons_zero, List.set_cons_succ, i64_w, i32_w]
               rfl
              refine pure_ (i := 12) (N := some 53) (v := undef) (a' := ?_) #[true, true, true, true, true, true, true, true, true, true, true, true, true, false, false, false, false, false, false, false, false, false, false, false, false, false, false, false, false, false, false, false, false, false, false, false] rfl rfl (any_of HT_.out (by kernel_rfl)) (fun _ _ _ h => h) (Or.inr ⟨by rfl, rfl⟩) ?_ ?_
              rotate_left
              ·
               simp only [Act.put, List.setIfInBounds_toArray, List.set_cons_zero, List.set_cons_succ, i64_w, i32_w]
               rfl
              refine pure_ (i := 13) (N := some 54) (v := undef) (a' := ?_) #[true, true, true, true, true, true, true, true, true, true, true, true, true, true, false, false, false, false, false, false, false, false, false, false, false, false, false, false, false, false, false, false, false, false, false, false] rfl rfl (any_of HT_.out (by kernel_rfl)) (fun _ _ _ h => h) (Or.inr ⟨by rfl, rfl⟩) ?_ ?_
              rotate_left
              ·
               simp only [Act.put, List.setIfInBounds_toArray, List.set_cons_zero, List.set_cons_succ, i64_w, i32_w]
               rfl
              refine pure_ (i := 14) (N := some 55) (v := undef) (a' := ?_) #[true, true, true, true, true, true, true, true, true, true, true, true, true, true, true, false, false, false, false, false, false, false, false, false, false, false, false, false, false, false, false, false, false, false, false, false] rfl rfl (any_of HT_.out (by kernel_rfl)) (fun _ _ _ h => h) (Or.inr ⟨by rfl, rfl⟩) ?_ ?_
              rotate_left
              ·
               simp only [Act.put, List.setIfInBounds_toArray, List.set_cons_zero, List.set_cons_succ, i64_w, i32_w]
               rfl
              refine pure_ (i := 15) (N := some 56) (v := undef) (a' := ?_) #[true, true, true, true, true, true, true, true, true, true, true, true, true, true, true, true, false, false, false, false, false, false, false, false, false, false, false, false, false, false, false, false, false, false, false, false] rfl rfl (any_of HT_.out (by kernel_rfl)) (fun _ _ _ h => h) (Or.inr ⟨by rfl, rfl⟩) ?_ ?_
              rotate_left
              ·
               simp only [Act.put, List.setIfInBounds_toArray, List.set_cons_zero, List.set_cons_succ, i64_w, i32_w]
               rfl
              refine pure_ (i := 16) (N := some 57) (v := undef) (a' := ?_) #[true, true, true, true, true, true, true, true, true, true, true, true, true, true, true, true, true, false, false, false, false, false, false, false, false, false, false, false, false, false, false, false, false, false, false, false] rfl rfl (any_of HT_.out (by kernel_rfl)) (fun _ _ _ h => h) (Or.inr ⟨by rfl, rfl⟩) ?_ ?_
              rotate_left
              ·
               simp only [Act.put, List.setIfInBounds_toArray, List.set_cons_zero, List.set_cons_succ, i64_w, i32_w]
               rfl
              refine pure_ (i := 17) (N := some 58) (v := undef) (a' := ?_) #[true, true, true, true, true, true, true, true, true, true, true, true, true, true, true, true, true, true, false, false, false, false, false, false, false, false, false, false, false, false, false, false, false, false, false, false] rfl rfl (any_of HT_.out (by kernel_rfl)) (fun _ _ _ h => h) (Or.inr ⟨by rfl, rfl⟩) ?_ ?_
              rotate_left
              ·
               simp only [Act.put, List.setIfInBounds_toArray, List.set_cons_zero, List.set_cons_succ, i64_w, i32_w]
               rfl
              refine pure_ (i := 18) (N := some 59) (v := undef) (a' := ?_) #[true, true, true, true, true, true, true, true, true, true, true, true, true, true, true, true, true, true, true, false, false, false, false, false, false, false, false, false, false, false, false, false, false, false, false, false] rfl rfl (any_of HT_.out (by kernel_rfl)) (fun _ _ _ h => h) (Or.inr ⟨by rfl, rfl⟩) ?_ ?_
              rotate_left
              ·
               simp only [Act.put, List.setIfInBounds_toArray, List.set_cons_zero, List.set_cons_succ, i64_w, i32_w]
               rfl
              refine pure_ (i := 19) (N := some 60) (v := undef) (a' := ?_) #[true, true, true, true, true, true, true, true, true, true, true, true, true, true, true, true, true, true, true, true, false, false, false, false, false, false, false, false, false, false, false, false, false, false, false, false] rfl rfl (any_of HT_.out (by kernel_rfl)) (fun _ _ _ h => h) (Or.inr ⟨by rfl, rfl⟩) ?_ ?_
              rotate_left
              ·
               simp only [Act.put, List.setIfInBounds_toArray, List.set_cons_zero, List.set_cons_succ, i64_w, i32_w]
               rfl
              refine pure_ (i := 20) (N := some 61) (v := undef) (a' := ?_) #[true, true, true, true, true, true, true, true, true, true, true, true, true, true, true, true, true, true, true, true, true, false, false, false, false, false, false, false, false, false, false, false, false, false, false, false] rfl rfl (any_of HT_.out (by kernel_rfl)) (fun _ _ _ h => h) (Or.inr ⟨by rfl, rfl⟩) ?_ ?_
              rotate_left
              ·
               simp only [Act.put, List.setIfInBounds_toArray, List.set_cons_zero, List.set_cons_succ, i64_w, i32_w]
               rfl
              refine pure_ (i := 21) (N := some 62) (v := undef) (a' := ?_) #[true, true, true, true, true, true, true, true, true, true, true, true, true, true, true, true, true, true, true, true, true, true, false, false, false, false, false, false, false, false, false, false, false, false, false, false] rfl rfl (any_of HT_.out (by kernel_rfl)) (fun _ _ _ h => h) (Or.inr ⟨by rfl, rfl⟩) ?_ ?_
              rotate_left
              ·
               simp only [Act.put, List.setIfInBounds_toArray, List.set_cons_zero, List.set_cons_succ, i64_w, i32_w]
               rfl
              refine pure_ (i := 22) (N := some 63) (v := undef) (a' := ?_) #[true, true, true, true, true, true, true, true, true, true, true, true, true, true, true, true, true, true, true, true, true, true, true, false, false, false, false, false, false, false, false, false, false, false, false, false] rfl rfl (any_of HT_.out (by kernel_rfl)) (fun _ _ _ h => h) (Or.inr ⟨by rfl, rfl⟩) ?_ ?_
              rotate_left
              ·
               simp only [Act.put, List.setIfInBounds_toArray, List.set_cons_zero, List.set_cons_succ, i64_w, i32_w]
               rfl
              refine pure_ (i := 23) (N := some 64) (v := undef) (a' := ?_) #[true, true, true, true, true, true, true, true, true, true, true, true, true, true, true, true, true, true, true, true, true, true, true, true, false, false, false, false, false, false, false, false, false, false, false, false] rfl rfl (any_of HT_.out (by kernel_rfl)) (fun _ _ _ h => h) (Or.inr ⟨by rfl, rfl⟩) ?_ ?_
              rotate_left
              ·
               simp only [Act.put, List.setIfInBounds_toArray, List.set_cons_zero, List.set_cons_succ, i64_w, i32_w]
               rfl
              refine pure_ (i := 24) (N := some 65) (v := undef) (a' := ?_) #[true, true, true, true, true, true, true, true, true, true, true, true, true, true, true, true, true, true, true, true, true, true, true, true, true, false, false, false, false, false, false, false, false, false, false, false] rfl rfl (any_of HT_.out (by kernel_rfl)) (fun _ _ _ h => h) (Or.inr ⟨by rfl, rfl⟩) ?_ ?_
              rotate_left
              ·
               simp only [Act.put, List.setIfInBounds_toArray, List.set_cons_zero, List.set_cons_succ, i64_w, i32_w]
               rfl
              refine pure_ (i := 25) (N := some 66) (v := undef) (a' := ?_) #[true, true, true, true, true, true, true, true, true, true, true, true, true, true, true, true, true, true, true, true, true, true, true, true, true, true, false, false, false, false, false, false, false, false, false, false] rfl rfl (any_of HT_.out (by kernel_rfl)) (fun _ _ _ h => h) (Or.inr ⟨by rfl, rfl⟩) ?_ ?_
              rotate_left
              ·
               simp only [Act.put, List.setIfInBounds_toArray, List.set_cons_zero, List.set_cons_succ, i64_w, i32_w]
               rfl
              refine pure_ (i := 26) (N := some 67) (v := ?_) (a' := ?_) #[true, true, true, true, true, true, true, true, true, true, true, true, true, true, true, true, true, true, true, true, true, true, true, true, true, true, true, false, false, false, false, false, false, false, false, false] rfl rfl (any_of HT_.out (by kernel_rfl)) (fun _ _ _ h => h) (Or.inl ⟨by rfl, ?_⟩) ?_ ?_
              rotate_left
              ·
               intro w'
               go_simp
               with_reducible rfl
              rotate_left
              ·
               simp only [Act.put, List.setIfInBounds_toArray, List.set_cons_zero, List.set_cons_succ, i64_w, i32_w]
               rfl
              refine pure_ (i := 27) (N := some 68) (v := ?_) (a' := ?_) #[true, true, true, true, true, true, true, true, true, true, true, true, true, true, true, true, true, true, true, true, true, true, true, true, true, true, true, true, false, false, false, false, false, false, false, false] rfl rfl (any_of HT_.out (by kernel_rfl)) (fun _ _ _ h => h) (Or.inl ⟨by rfl, ?_⟩) ?_ ?_
              rotate_left
              ·
               intro w'
               go_simp
               with_reducible rfl
              rotate_left
              ·
               simp only [Act.put, List.setIfInBounds_toArray, List.set_cons_zero, List.set_cons_succ, i64_w, i32_w]
               rfl
              refine pure_ (i := 28) (N := some 69) (v := ?_) (a' := ?_) #[true, true, true, true, true, true, true, true, true, true, true, true, true, true, true, true, true, true, true, true, true, true, true, true, true, true, true, true, true, false, false, false, false, false, false, false] rfl rfl (any_of HT_.out (by kernel_rfl)) (fun _ _ _ h => h) (Or.inl ⟨by rfl, ?_⟩) ?_ ?_
              rotate_left
              ·
               intro w'
               go_simp
               with_reducible rfl
              rotate_left
              ·
               simp only [Act.put, List.setIfInBounds_toArray, List.set_cons_zero, List.set_cons_succ, i64_w, i32_w]
               rfl
              refine pure_ (i := 29) (N := some 70) (v := ?_) (a' := ?_) #[true, true, true, true, true, true, true, true, true, true, true, true, true, true, true, true, true, true, true, true, true, true, true, true, true, true, true, true, true, true, false, false, false, false, false, false] rfl rfl (any_of HT_.out (by kernel_rfl)) (fun _ _ _ h => h) (Or.inl ⟨by rfl, ?_⟩) ?_ ?_
              rotate_left
              ·
               intro w'
               go_simp
               with_reducible rfl
              rotate_left
              ·
               simp only [Act.put, List.setIfInBounds_toArray, List.set_cons_zero, List.set_cons_succ, i64_w, i32_w]
               rfl
              refine pure_ (i := 30) (N := some 71) (v := ?_) (a' := ?_) #[true, true, true, true, true, true, true, true, true, true, true, true, true, true, true, true, true, true, true, true, true, true, true, true, true, true, true, true, true, true, true, false, false, false, false, false] rfl rfl (any_of HT_.out (by kernel_rfl)) (fun _ _ _ h => h) (Or.inl ⟨by rfl, ?_⟩) ?_ ?_
              rotate_left
              ·
               intro w'
               go_simp
               with_reducible rfl
              rotate_left
              ·
               simp only [Act.put, List.setIfInBounds_toArray, List.set_cons_zero, List.set_cons_succ, i64_w, i32_w]
               rfl
              refine pure_ (i := 31) (N := some 72) (v := ?_) (a' := ?_) #[true, true, true, true, true, true, true, true, true, true, true, true, true, true, true, true, true, true, true, true, true, true, true, true, true, true, true, true, true, true, true, true, false, false, false, false] rfl rfl (any_of HT_.out (by kernel_rfl)) (fun _ _ _ h => h) (Or.inl ⟨by rfl, ?_⟩) ?_ ?_
              rotate_left
              ·
               intro w'
               go_simp
               with_reducible rfl
              rotate_left
              ·
               simp only [Act.put, List.setIfInBounds_toArray, List.set_cons_zero, List.set_cons_succ, i64_w, i32_w]
               rfl
              refine take_ (i := 32) (N := some 73) (v := ?_) (a' := ?_) #[true, true, true, true, true, true, true, true, true, true, true, true, true, true, true, true, true, true, true, true, true, true, true, true, true, true, true, true, true, true, true, true, true, false, false, false] rfl rfl (take_ofW HT_.out HW_.out (by kernel_rfl)) (fun _ _ _ h => h) (Or.inl ⟨by rfl, ?_⟩) hHeld ?_ ?_
              rotate_left
              ·
               rintro w' s0
               go_simp
               with_reducible rfl
              rotate_left
              ·
               simp only [Act.put, List.setIfInBounds_toArray, List.set_cons_zero, List.set_cons_succ, i64_w, i32_w]
               rfl
              refine one_ (i := 33) (N := some 74) #[true, true, true, true, true, true, true, true, true, true, true, true, true, true, true, true, true, true, true, true, true, true, true, true, true, true, true, true, true, true, true, true, true, true, false, false] rfl rfl (one_of HT_.out (by kernel_rfl)) (by decide) (fun K hK => ?_)
              refine goes_ Tryd.func20 (by kernel_rfl) rfl #[.slice A0 l0.length c0, .agg #[.int .u8 ((rd_T25 t267 x8_2).f0.f0), .int .u8 ((rd_T25 t267 x8_2).f0.f1), .int .u8 ((rd_T25 t267 x8_2).f0.f2), .int .u8 ((rd_T25 t267 x8_2).f0.f3), .int .u8 ((rd_T25 t267 x8_2).f0.f4), .int .u8 ((rd_T25 t267 x8_2).f0.f5), .int .u8 ((rd_T25 t267 x8_2).f0.f6), .int .u8 ((rd_T25 t267 x8_2).f0.f7), .int .u8 ((rd_T25 t267 x8_2).f0.f8), .int .u8 ((rd_T25 t267 x8_2).f0.f9), .int .u8 ((rd_T25 t267 x8_2).f0.f10), .int .u8 ((rd_T25 t267 x8_2).f0.f11), .int .u8 ((rd_T25 t267 x8_2).f0.f12), .int .u8 ((rd_T25 t267 x8_2).f0.f13), .int .u8 ((rd_T25 t267 x8_2).f0.f14), .int .u8 ((rd_T25 t267 x8_2).f0.f15), .int .u8 ((rd_T25 t267 x8_2).f0.f16), .int .u8 ((rd_T25 t267 x8_2).f0.f17), .int .u8 ((rd_T25 t267 x8_2).f0.f18), .int .u8 ((rd_T25 t267 x8_2).f0.f19), .int .u8 ((rd_T25 t267 x8_2).f0.f20), .int .u8 ((rd_T25 t267 x8_2).f0.f21), .int .u8 ((rd_T25 t267 x8_2).f0.f22), .int .u8 ((rd_T25 t267 x8_2).f0.f23), .int .u8 ((rd_T25 t267 x8_2).f0.f24), .int .u8 ((rd_T25 t267 x8_2).f0.f25), .int .u8 ((rd_T25 t267 x8_2).f0.f26), .int .u8 ((rd_T25 t267 x8_2).f0.f27), .int .u8 ((rd_T25 t267 x8_2).f0.f28), .int .u8 ((rd_T25 t267 x8_2).f0.f29), .int .u8 ((rd_T25 t267 x8_2).f0.f30), .int .u8 ((rd_T25 t267 x8_2).f0.f31), .int .i64 ((rd_T25 t267 x8_2).f1)]] (by rfl) rfl rfl (by (try simp only [List.map_toArray, List.map_cons, List.map_nil]); first | done | rfl | (simp only [List.length_drop, List.length_take]; rfl)) ?_
              with_reducible refine (point_Has.calls k2 _ _ l0 ((rd_T25 t267 x8_2).f0.f0) ((rd_T25 t267 x8_2).f0.f1) ((rd_T25 t267 x8_2).f0.f2) ((rd_T25 t267 x8_2).f0.f3) ((rd_T25 t267 x8_2).f0.f4) ((rd_T25 t267 x8_2).f0.f5) ((rd_T25 t267 x8_2).f0.f6) ((rd_T25 t267 x8_2).f0.f7) ((rd_T25 t267 x8_2).f0.f8) ((rd_T25 t267 x8_2).f0.f9) ((rd_T25 t267 x8_2).f0.f10) ((rd_T25 t267 x8_2).f0.f11) ((rd_T25 t267 x8_2).f0.f12) ((rd_T25 t267 x8_2).f0.f13) ((rd_T25 t267 x8_2).f0.f14) ((rd_T25 t267 x8_2).f0.f15) ((rd_T25 t267 x8_2).f0.f16) ((rd_T25 t267 x8_2).f0.f17) ((rd_T25 t267 x8_2).f0.f18) ((rd_T25 t267 x8_2).f0.f19) ((rd_T25 t267 x8_2).f0.f20) ((rd_T25 t267 x8_2).f0.f21) ((rd_T25 t267 x8_2).f0.f22) ((rd_T25 t267 x8_2).f0.f23) ((rd_T25 t267 x8_2).f0.f24) ((rd_T25 t267 x8_2).f0.f25) ((rd_T25 t267 x8_2).f0.f26) ((rd_T25 t267 x8_2).f0.f27) ((rd_T25 t267 x8_2).f0.f28) ((rd_T25 t267 x8_2).f0.f29) ((rd_T25 t267 x8_2).f0.f30) ((rd_T25 t267 x8_2).f0.f31) ((rd_T25 t267 x8_2).f1) true _ ?side1 ?side2 A57.out).mono ?_
              (case side1 => repeat (first | exact (Kd.C_below HR0.out HB.out) | (with_reducible refine Kd.C_alloc ?_ _) | (with_reducible refine Kd.C_drewN ?_ _) | (with_reducible refine Kd.C_drew ?_)))
              (case side2 => exact HC0.out)
              rintro e w61 ⟨rfl, hb⟩
              have HS0_ := Go.Proofs.YtmoecidfmgeafaaDoor.Wide.cells_below hb 33 0 _ (hHeld)
              refine ⟨_, rfl, ?_⟩
              have n0_ := Aside0.mk (Kd.R_below (by (with_reducible repeat (first | apply Kd.R_alloc | apply Kd.R_drewN | apply Kd.R_drew)); exact HO_5.out) hb)
              have n1_ := Aside0.mk (Kd.R_below (by (with_reducible repeat (first | apply Kd.R_alloc | apply Kd.R_drewN | apply Kd.R_drew)); exact HO_7.out) hb)
              have n2_ := Aside0.mk (below_step (by repeat (first | (with_reducible first | exact HB.out | apply below_alloc | apply pw_below_drewN | apply below_drew1) | exact HB.out)) hb)
              clear HO_5
              clear HO_7
              clear HB
              have HO_5 := n0_
              have HO_7 := n1_
              have HB := n2_
              clear n0_ n1_ n2_
              (try clear hb)
              (try clear hb2)
              (try clear hk)
              (try clear hi)
              refine hK.out _ _ (HS0_) (fun hHeld => ?_)
              clear hK K
              refine norm_ (a' := ?_) ?_ ?_
              rotate_left
              ·
               show Act.put _ (some 74) _ = _
               simp only [Act.put, List.setIfInBounds_toArray, List.set_cons_zero, List.set_cons_succ, i64_w, i32_w]
               rfl
              refine pure_ (i := 34) (N := some 75) (v := ?_) (a' := ?_) #[true, true, true, true, true, true, true, true, true, true, true, true, true, true, true, true, true, true, true, true, true, true, true, true, true, true, true, true, true, true, true, true, true, true, true, false] rfl rfl (any_of HT_.out (by kernel_rfl)) (fun _ _ _ h => h) (Or.inl ⟨by rfl, ?_⟩) ?_ ?_
              rotate_left
              ·
               intro w'
               go_simp
               with_reducible rfl
              rotate_left
              ·
               simp only [Act.put, List.setIfInBounds_toArray, List.set_cons_zero, List.set_cons_succ, i64_w, i32_w]
               rfl
              refine pure_ (i := 35) (N := some 76) (v := ?_) (a' := ?_) #[true, true, true, true, true, true, true, true, true, true, true, true, true, true, true, true, true, true, true, true, true, true, true, true, true, true, true, true, true, true, true, true, true, true, true, true] rfl rfl (any_of HT_.out (by kernel_rfl)) (fun _ _ _ h => h) (Or.inl ⟨by rfl, ?_⟩) ?_ ?_
              rotate_left
              ·
               intro w'
               go_simp
               with_reducible rfl
              rotate_left
              ·
               simp only [Act.put, List.setIfInBounds_toArray, List.set_cons_zero, List.set_cons_succ, i64_w, i32_w]
               rfl
              refine done_ (done_of HT_.out (by kernel_rfl)) ?_
              try go_wp2
              go_roundg k2
              case measure => have := HJ2.out; have := HK2.out; omega
              case rel => exact ⟨(wrap64 (x8_2 + 1)), (by first | rfl | (simp; done) | (simp [*]; done)), H', ⟨by have := HJ2.out; have := HK2.out; omega⟩, ⟨by (with_reducible repeat (first | apply Kd.R_alloc | apply Kd.R_drewN | apply Kd.R_drew)); exact HO_5.out⟩, ⟨by (with_reducible repeat (first | apply Kd.R_alloc | apply Kd.R_drewN | apply Kd.R_drew)); exact HO_7.out⟩, ⟨by repeat (first | (with_reducible first | exact HB.out | apply below_alloc | apply pw_below_drewN | apply below_drew1) | exact HB.out)⟩⟩
             ·
              replace c58 := Bool.eq_false_iff.mpr c58
              subst c58
              have H1 : (some false) = some r := by rw [if_neg (show ¬ (false = true) by decide)] at H; exact H
              exact absurd (H1.trans (congrArg some HTOLD.out)) (by decide)
            ·
             rw [if_neg c56] at H
             exact absurd H (by simp)
          ·
           rw [if_neg c27] at H
           have c27b0 : decide (x8_2 < (t267.length : Int)) = false := decide_eq_false c27
           clear c27
           have H' := Aside0.mk H
           clear H
           obtain ⟨Ao65, co65, eo65⟩ := Kd.R_slice HO_5.out
           subst eo65
           go_wp2
           go_loopg [9] k2 (fun kq v9 w' => ∃ (x9_3 : Int), v9 = .int .i64 x9_3 ∧ Aside0 (coraclelaw3_PointOrder.l1 kq l0 t267 t270 t288 x9_3 = some r) ∧ Aside0 (kq ≤ k2) ∧ Aside0 (Kd.R k25 25 w' w.heap.size (fun k_ => some k_ ≠ (v289 : Value).ownBlock) (.slice Ao65 t267.length co65) t267) ∧ Aside0 (Kd.R k25 25 w' w.heap.size (fun k_ => some k_ ≠ ((.slice Ao65 t267.length co65) : Value).ownBlock) v289 t288) ∧ Aside0 (Below w.heap.size w w'))
           case atStart => exact ⟨(0), (by first | rfl | (simp; done) | (simp [*]; done)), H', ⟨Nat.le_refl _⟩, ⟨by (with_reducible repeat (first | apply Kd.R_alloc | apply Kd.R_drewN | apply Kd.R_drew)); exact HO_5.out⟩, ⟨by (with_reducible repeat (first | apply Kd.R_alloc | apply Kd.R_drewN | apply Kd.R_drew)); exact HO_7.out⟩, ⟨by repeat (first | (with_reducible first | exact HB.out | apply below_alloc | apply pw_below_drewN | apply below_drew1) | exact HB.out)⟩⟩
           case round =>
            clear H'
            try clear c2
            try clear p2
            try clear q2
            try clear hx2
            try clear c3
            try clear c5
            try clear p6
            try clear c20
            try clear c27
            try clear c27b0
            try clear c28
            try clear c28b0
            try clear p29
            try clear q29
            try clear hx29
            try clear c30
            try clear c31
            try clear c32
            try clear c56
            try clear c56b0
            try clear c58
            try clear p64
            try clear hx299_0
            try clear hx299_1
            try clear hx299_10
            try clear hx299_11
            try clear hx299_12
            try clear hx299_13
            try clear hx299_14
            try clear hx299_15
            try clear hx299_16
            try clear hx299_17
            try clear hx299_18
            try clear hx299_19
            try clear hx299_2
            try clear hx299_20
            try clear hx299_21
            try clear hx299_22
            try clear hx299_23
            try clear hx299_24
            try clear hx299_25
            try clear hx299_26
            try clear hx299_27
            try clear hx299_28
            try clear hx299_29
            try clear hx299_3
            try clear hx299_30
            try clear hx299_31
            try clear hx299_32
            try clear hx299_4
            try clear hx299_5
            try clear hx299_6
            try clear hx299_7
            try clear hx299_8
            try clear hx299_9
            try clear p299
            try clear q299
            obtain ⟨x9_3, rfl, HA, HK3, HO_5, HO_7, HB⟩ := hrel
            cases gk with
            | zero => exact absurd HA.out (by simp [coraclelaw3_PointOrder.l1])
            | succ k3 =>
             have H := HA.out
             clear HA
             simp only [coraclelaw3_PointOrder.l1] at H
             by_cases c66 : x9_3 < (l0.length : Int)
             ·
              rw [if_pos c66] at H
              have c66b0 : decide (x9_3 < (l0.length : Int)) = true := decide_eq_true c66
              clear c66
              by_cases c67 : 0 ≤ x9_3
              ·
               rw [if_pos c67] at H
               have c67b0 : decide (0 ≤ x9_3) = true := decide_eq_true c67
               clear c67
               replace H := Option.bind_eq_some_iff.mp H
               obtain ⟨t302, A680, H⟩ := H
               replace H : (if t302 = true then (coraclelaw3_PointOrder.l1 k3 l0 t267 t270 t288 (wrap64 (x9_3 + 1))) else (some false)) = some r := H
               have A68 := Aside0.mk A680
               clear A680
               by_cases c69 : t302 = true
               ·
                subst c69
                have H1 : (coraclelaw3_PointOrder.l1 k3 l0 t267 t270 t288 (wrap64 (x9_3 + 1))) = some r := by rw [if_pos rfl] at H; exact H
                clear H
                have H := H1
                clear H1
                have H' := Aside0.mk H
                clear H
                have p301 : 0 ≤ (x9_3 : Int) := of_decide_eq_true (by first | (with_reducible assumption) | assumption)
                have q301 : x9_3 < (l0.length : Int) := of_decide_eq_true (by first | (with_reducible assumption) | assumption)
                obtain ⟨ad301, e301, hx301_0, hx301_1, hx301_2, hx301_3, hx301_4, hx301_5, hx301_6, hx301_7, hx301_8, hx301_9, hx301_10, hx301_11, hx301_12, hx301_13, hx301_14, hx301_15, hx301_16, hx301_17, hx301_18, hx301_19, hx301_20, hx301_21, hx301_22, hx301_23, hx301_24, hx301_25, hx301_26, hx301_27, hx301_28, hx301_29, hx301_30, hx301_31, hx301_32⟩ := at_T25 HR0.out x9_3 p301 q301
                cases e301
                replace hx301_0 := (HB.out.cell (World.block_lt_of_cell? w _ hx301_0)).trans hx301_0
                replace hx301_1 := (HB.out.cell (World.block_lt_of_cell? w _ hx301_1)).trans hx301_1
                replace hx301_2 := (HB.out.cell (World.block_lt_of_cell? w _ hx301_2)).trans hx301_2
                replace hx301_3 := (HB.out.cell (World.block_lt_of_cell? w _ hx301_3)).trans hx301_3
                replace hx301_4 := (HB.out.cell (World.block_lt_of_cell? w _ hx301_4)).trans hx301_4
                replace hx301_5 := (HB.out.cell (World.block_lt_of_cell? w _ hx301_5)).trans hx301_5
                replace hx301_6 := (HB.out.cell (World.block_lt_of_cell? w _ hx301_6)).trans hx301_6
                replace hx301_7 := (HB.out.cell (World.block_lt_of_cell? w _ hx301_7)).trans hx301_7
                replace hx301_8 := (HB.out.cell (World.block_lt_of_cell? w _ hx301_8)).trans hx301_8
                replace hx301_9 := (HB.out.cell (World.block_lt_of_cell? w _ hx301_9)).trans hx301_9
                replace hx301_10 := (HB.out.cell (World.block_lt_of_cell? w _ hx301_10)).trans hx301_10
                replace hx301_11 := (HB.out.cell (World.block_lt_of_cell? w _ hx301_11)).trans hx301_11
                replace hx301_12 := (HB.out.cell (World.block_lt_of_cell? w _ hx301_12)).trans hx301_12
                replace hx301_13 := (HB.out.cell (World.block_lt_of_cell? w _ hx301_13)).trans hx301_13
                replace hx301_14 := (HB.out.cell (World.block_lt_of_cell? w _ hx301_14)).trans hx301_14
                replace hx301_15 := (HB.out.cell (World.block_lt_of_cell? w _ hx301_15)).trans hx301_15
                replace hx301_16 := (HB.out.cell (World.block_lt_of_cell? w _ hx301_16)).trans hx301_16
                replace hx301_17 := (HB.out.cell (World.block_lt_of_cell? w _ hx301_17)).trans hx301_17
                replace hx301_18 := (HB.out.cell (World.block_lt_of_cell? w _ hx301_18)).trans hx301_18
                replace hx301_19 := (HB.out.cell (World.block_lt_of_cell? w _ hx301_19)).trans hx301_19
                replace hx301_20 := (HB.out.cell (World.block_lt_of_cell? w _ hx301_20)).trans hx301_20
                replace hx301_21 := (HB.out.cell (World.block_lt_of_cell? w _ hx301_21)).trans hx301_21
                replace hx301_22 := (HB.out.cell (World.block_lt_of_cell? w _ hx301_22)).trans hx301_22
                replace hx301_23 := (HB.out.cell (World.block_lt_of_cell? w _ hx301_23)).trans hx301_23
                replace hx301_24 := (HB.out.cell (World.block_lt_of_cell? w _ hx301_24)).trans hx301_24
                replace hx301_25 := (HB.out.cell (World.block_lt_of_cell? w _ hx301_25)).trans hx301_25
                replace hx301_26 := (HB.out.cell (World.block_lt_of_cell? w _ hx301_26)).trans hx301_26
                replace hx301_27 := (HB.out.cell (World.block_lt_of_cell? w _ hx301_27)).trans hx301_27
                replace hx301_28 := (HB.out.cell (World.block_lt_of_cell? w _ hx301_28)).trans hx301_28
                replace hx301_29 := (HB.out.cell (World.block_lt_of_cell? w _ hx301_29)).trans hx301_29
                replace hx301_30 := (HB.out.cell (World.block_lt_of_cell? w _ hx301_30)).trans hx301_30
                replace hx301_31 := (HB.out.cell (World.block_lt_of_cell? w _ hx301_31)).trans hx301_31
                replace hx301_32 := (HB.out.cell (World.block_lt_of_cell? w _ hx301_32)).trans hx301_32
                replace p301 := eq_true p301
                replace q301 := eq_true q301
                have hw301_0_32 := Go.Proofs.YtmoecidfmgeafaaDoor.Wide.mk32 hx301_0 hx301_1 hx301_2 hx301_3 hx301_4 hx301_5 hx301_6 hx301_7 hx301_8 hx301_9 hx301_10 hx301_11 hx301_12 hx301_13 hx301_14 hx301_15 hx301_16 hx301_17 hx301_18 hx301_19 hx301_20 hx301_21 hx301_22 hx301_23 hx301_24 hx301_25 hx301_26 hx301_27 hx301_28 hx301_29 hx301_30 hx301_31
                have hw301_0_33 := Go.Proofs.YtmoecidfmgeafaaDoor.Wide.mk33 hx301_0 hx301_1 hx301_2 hx301_3 hx301_4 hx301_5 hx301_6 hx301_7 hx301_8 hx301_9 hx301_10 hx301_11 hx301_12 hx301_13 hx301_14 hx301_15 hx301_16 hx301_17 hx301_18 hx301_19 hx301_20 hx301_21 hx301_22 hx301_23 hx301_24 hx301_25 hx301_26 hx301_27 hx301_28 hx301_29 hx301_30 hx301_31 hx301_32
                go_wp2_with (first | ((with_reducible refine gate_callee (f := 20) rfl ?_); refine goesL_ (some 88) rfl rfl Tryd.func20 (by kernel_rfl) rfl #[.slice Ao65 t267.length co65, .agg #[.int .u8 ((rd_T25 l0 x9_3).f0.f0), .int .u8 ((rd_T25 l0 x9_3).f0.f1), .int .u8 ((rd_T25 l0 x9_3).f0.f2), .int .u8 ((rd_T25 l0 x9_3).f0.f3), .int .u8 ((rd_T25 l0 x9_3).f0.f4), .int .u8 ((rd_T25 l0 x9_3).f0.f5), .int .u8 ((rd_T25 l0 x9_3).f0.f6), .int .u8 ((rd_T25 l0 x9_3).f0.f7), .int .u8 ((rd_T25 l0 x9_3).f0.f8), .int .u8 ((rd_T25 l0 x9_3).f0.f9), .int .u8 ((rd_T25 l0 x9_3).f0.f10), .int .u8 ((rd_T25 l0 x9_3).f0.f11), .int .u8 ((rd_T25 l0 x9_3).f0.f12), .int .u8 ((rd_T25 l0 x9_3).f0.f13), .int .u8 ((rd_T25 l0 x9_3).f0.f14), .int .u8 ((rd_T25 l0 x9_3).f0.f15), .int .u8 ((rd_T25 l0 x9_3).f0.f16), .int .u8 ((rd_T25 l0 x9_3).f0.f17), .int .u8 ((rd_T25 l0 x9_3).f0.f18), .int .u8 ((rd_T25 l0 x9_3).f0.f19), .int .u8 ((rd_T25 l0 x9_3).f0.f20), .int .u8 ((rd_T25 l0 x9_3).f0.f21), .int .u8 ((rd_T25 l0 x9_3).f0.f22), .int .u8 ((rd_T25 l0 x9_3).f0.f23), .int .u8 ((rd_T25 l0 x9_3).f0.f24), .int .u8 ((rd_T25 l0 x9_3).f0.f25), .int .u8 ((rd_T25 l0 x9_3).f0.f26), .int .u8 ((rd_T25 l0 x9_3).f0.f27), .int .u8 ((rd_T25 l0 x9_3).f0.f28), .int .u8 ((rd_T25 l0 x9_3).f0.f29), .int .u8 ((rd_T25 l0 x9_3).f0.f30), .int .u8 ((rd_T25 l0 x9_3).f0.f31), .int .i64 ((rd_T25 l0 x9_3).f1)]] rfl (by (try simp only [List.map_toArray, List.map_cons, List.map_nil]); first | done | rfl | (simp only [List.length_drop, List.length_take]; rfl)) ?_; (with_reducible refine (point_Has.calls k3 _ _ t267 ((rd_T25 l0 x9_3).f0.f0) ((rd_T25 l0 x9_3).f0.f1) ((rd_T25 l0 x9_3).f0.f2) ((rd_T25 l0 x9_3).f0.f3) ((rd_T25 l0 x9_3).f0.f4) ((rd_T25 l0 x9_3).f0.f5) ((rd_T25 l0 x9_3).f0.f6) ((rd_T25 l0 x9_3).f0.f7) ((rd_T25 l0 x9_3).f0.f8) ((rd_T25 l0 x9_3).f0.f9) ((rd_T25 l0 x9_3).f0.f10) ((rd_T25 l0 x9_3).f0.f11) ((rd_T25 l0 x9_3).f0.f12) ((rd_T25 l0 x9_3).f0.f13) ((rd_T25 l0 x9_3).f0.f14) ((rd_T25 l0 x9_3).f0.f15) ((rd_T25 l0 x9_3).f0.f16) ((rd_T25 l0 x9_3).f0.f17) ((rd_T25 l0 x9_3).f0.f18) ((rd_T25 l0 x9_3).f0.f19) ((rd_T25 l0 x9_3).f0.f20) ((rd_T25 l0 x9_3).f0.f21) ((rd_T25 l0 x9_3).f0.f22) ((rd_T25 l0 x9_3).f0.f23) ((rd_T25 l0 x9_3).f0.f24) ((rd_T25 l0 x9_3).f0.f25) ((rd_T25 l0 x9_3).f0.f26) ((rd_T25 l0 x9_3).f0.f27) ((rd_T25 l0 x9_3).f0.f28) ((rd_T25 l0 x9_3).f0.f29) ((rd_T25 l0 x9_3).f0.f30) ((rd_T25 l0 x9_3).f0.f31) ((rd_T25 l0 x9_3).f1) true _ ?side1 ?side2 A68.out).mono ?_); (case side1 => repeat (first | exact (Kd.R_reads' HO_5.out).2.2 | (with_reducible refine Kd.C_alloc ?_ _) | (with_reducible refine Kd.C_drewN ?_ _) | (with_reducible refine Kd.C_drew ?_))); (case side2 => exact (Kd.R_reads' HO_5.out).2.1); rintro e w70 ⟨rfl, hb⟩; refine ⟨_, rfl, ?_⟩; have n0_ := Aside0.mk (Kd.R_below (by (with_reducible repeat (first | apply Kd.R_alloc | apply Kd.R_drewN | apply Kd.R_drew)); exact HO_5.out) hb); have n1_ := Aside0.mk (Kd.R_below (by (with_reducible repeat (first | apply Kd.R_alloc | apply Kd.R_drewN | apply Kd.R_drew)); exact HO_7.out) hb); have n2_ := Aside0.mk (below_step (by repeat (first | (with_reducible first | exact HB.out | apply below_alloc | apply pw_below_drewN | apply below_drew1) | exact HB.out)) hb); clear HO_5; clear HO_7; clear HB; have HO_5 := n0_; have HO_7 := n1_; have HB := n2_; clear n0_ n1_ n2_; (try clear hb); (try clear hb2); (try clear hk); (try clear hi)))
                go_roundg k3
                case measure => have := HJ2.out; have := HK2.out; have := HK3.out; omega
                case rel => exact ⟨(wrap64 (x9_3 + 1)), (by first | rfl | (simp; done) | (simp [*]; done)), H', ⟨by have := HJ2.out; have := HK2.out; have := HK3.out; omega⟩, ⟨by (with_reducible repeat (first | apply Kd.R_alloc | apply Kd.R_drewN | apply Kd.R_drew)); exact HO_5.out⟩, ⟨by (with_reducible repeat (first | apply Kd.R_alloc | apply Kd.R_drewN | apply Kd.R_drew)); exact HO_7.out⟩, ⟨by repeat (first | (with_reducible first | exact HB.out | apply below_alloc | apply pw_below_drewN | apply below_drew1) | exact HB.out)⟩⟩
               ·
                replace c69 := Bool.eq_false_iff.mpr c69
                subst c69
                have H1 : (some false) = some r := by rw [if_neg (show ¬ (false = true) by decide)] at H; exact H
                exact absurd (H1.trans (congrArg some HTOLD.out)) (by decide)
              ·
               rw [if_neg c67] at H
               exact absurd H (by simp)
             ·
              rw [if_neg c66] at H
              have c66b0 : decide (x9_3 < (l0.length : Int)) = false := decide_eq_false c66
              clear c66
              replace H := Option.bind_eq_some_iff.mp H
              obtain ⟨t303, A720, H⟩ := H
              replace H : (if t303 = true then ((point_Minus.f k3 l0 t267).bind fun t304 => (if (t304.length : Int) = 0 then ((point_Both.f k3 l0 t267).bind fun t307 => ((coraclealike_Points.f k3 t307 l0).bind fun t310 => (if t310 = true then ((some (([] : List (S25)) : List (S25))).bind fun y311 => (if 0 ≤ t270 then (if t270 ≤ (l0.length : Int) then ((some (l0.drop (t270 : Int).toNat : List (S25))).bind fun y314 => (if y311.length + y314.length < 3518437208883 then ((some (y311 ++ y314 : List (S25))).bind fun y318 => ((some (l0.take (t270 : Int).toNat : List (S25))).bind fun y321 => (if y318.length + y321.length < 3518437208883 then ((point_Alike.f k3 l0 (y318 ++ y321)).bind fun t328 => (if t328 = true then (if 1 ≤ (l0.length : Int) then ((point_Alike.f k3 l0 (l0.drop 1)).bind fun t333 => (if t333 = true then (some false) else ((coraclelaw3_awake.f).bind fun t334 => (some t334)))) else (none)) else (some false))) else (none)))) else (none))) else (none)) else (none))) else (some false)))) else (some false))) else (some false)) = some r := H
              have A72 := Aside0.mk A720
              clear A720
              by_cases c73 : t303 = true
              ·
               subst c73
               have H1 : ((point_Minus.f k3 l0 t267).bind fun t304 => (if (t304.length : Int) = 0 then ((point_Both.f k3 l0 t267).bind fun t307 => ((coraclealike_Points.f k3 t307 l0).bind fun t310 => (if t310 = true then ((some (([] : List (S25)) : List (S25))).bind fun y311 => (if 0 ≤ t270 then (if t270 ≤ (l0.length : Int) then ((some (l0.drop (t270 : Int).toNat : List (S25))).bind fun y314 => (if y311.length + y314.length < 3518437208883 then ((some (y311 ++ y314 : List (S25))).bind fun y318 => ((some (l0.take (t270 : Int).toNat : List (S25))).bind fun y321 => (if y318.length + y321.length < 3518437208883 then ((point_Alike.f k3 l0 (y318 ++ y321)).bind fun t328 => (if t328 = true then (if 1 ≤ (l0.length : Int) then ((point_Alike.f k3 l0 (l0.drop 1)).bind fun t333 => (if t333 = true then (some false) else ((coraclelaw3_awake.f).bind fun t334 => (some t334)))) else (none)) else (some false))) else (none)))) else (none))) else (none)) else (none))) else (some false)))) else (some false))) = some r := by rw [if_pos rfl] at H; exact H
               clear H
               have H := H1
               clear H1
               replace H := Option.bind_eq_some_iff.mp H
               obtain ⟨t304, A740, H⟩ := H
               replace H : (if (t304.length : Int) = 0 then ((point_Both.f k3 l0 t267).bind fun t307 => ((coraclealike_Points.f k3 t307 l0).bind fun t310 => (if t310 = true then ((some (([] : List (S25)) : List (S25))).bind fun y311 => (if 0 ≤ t270 then (if t270 ≤ (l0.length : Int) then ((some (l0.drop (t270 : Int).toNat : List (S25))).bind fun y314 => (if y311.length + y314.length < 3518437208883 then ((some (y311 ++ y314 : List (S25))).bind fun y318 => ((some (l0.take (t270 : Int).toNat : List (S25))).bind fun y321 => (if y318.length + y321.length < 3518437208883 then ((point_Alike.f k3 l0 (y318 ++ y321)).bind fun t328 => (if t328 = true then (if 1 ≤ (l0.length : Int) then ((point_Alike.f k3 l0 (l0.drop 1)).bind fun t333 => (if t333 = true then (some false) else ((coraclelaw3_awake.f).bind fun t334 => (some t334)))) else (none)) else (some false))) else (none)))) else (none))) else (none)) else (none))) else (some false)))) else (some false)) = some r := H
               have A74 := Aside0.mk A740
               clear A740
               by_cases c75 : (t304.length : Int) = 0
               ·
                rw [if_pos c75] at H
                have c75b0 : ((t304.length : Int) == 0) = true := beq_iff_eq.mpr c75
                have c75b1 : ((t304.length : Int) != 0) = false := bne_eq_false_iff_eq.mpr c75
                clear c75
                replace H := Option.bind_eq_some_iff.mp H
                obtain ⟨t307, A760, H⟩ := H
                replace H : ((coraclealike_Points.f k3 t307 l0).bind fun t310 => (if t310 = true then ((some (([] : List (S25)) : List (S25))).bind fun y311 => (if 0 ≤ t270 then (if t270 ≤ (l0.length : Int) then ((some (l0.drop (t270 : Int).toNat : List (S25))).bind fun y314 => (if y311.length + y314.length < 3518437208883 then ((some (y311 ++ y314 : List (S25))).bind fun y318 => ((some (l0.take (t270 : Int).toNat : List (S25))).bind fun y321 => (if y318.length + y321.length < 3518437208883 then ((point_Alike.f k3 l0 (y318 ++ y321)).bind fun t328 => (if t328 = true then (if 1 ≤ (l0.length : Int) then ((point_Alike.f k3 l0 (l0.drop 1)).bind fun t333 => (if t333 = true then (some false) else ((coraclelaw3_awake.f).bind fun t334 => (some t334)))) else (none)) else (some false))) else (none)))) else (none))) else (none)) else (none))) else (some false))) = some r := H
                have A76 := Aside0.mk A760
                clear A760
                replace H := Option.bind_eq_some_iff.mp H
                obtain ⟨t310, A770, H⟩ := H
                replace H : (if t310 = true then ((some (([] : List (S25)) : List (S25))).bind fun y311 => (if 0 ≤ t270 then (if t270 ≤ (l0.length : Int) then ((some (l0.drop (t270 : Int).toNat : List (S25))).bind fun y314 => (if y311.length + y314.length < 3518437208883 then ((some (y311 ++ y314 : List (S25))).bind fun y318 => ((some (l0.take (t270 : Int).toNat : List (S25))).bind fun y321 => (if y318.length + y321.length < 3518437208883 then ((point_Alike.f k3 l0 (y318 ++ y321)).bind fun t328 => (if t328 = true then (if 1 ≤ (l0.length : Int) then ((point_Alike.f k3 l0 (l0.drop 1)).bind fun t333 => (if t333 = true then (some false) else ((coraclelaw3_awake.f).bind fun t334 => (some t334)))) else (none)) else (some false))) else (none)))) else (none))) else (none)) else (none))) else (some false)) = some r := H
                have A77 := Aside0.mk A770
                clear A770
                by_cases c78 : t310 = true
                ·
                 subst c78
                 have H1 : ((some (([] : List (S25)) : List (S25))).bind fun y311 => (if 0 ≤ t270 then (if t270 ≤ (l0.length : Int) then ((some (l0.drop (t270 : Int).toNat : List (S25))).bind fun y314 => (if y311.length + y314.length < 3518437208883 then ((some (y311 ++ y314 : List (S25))).bind fun y318 => ((some (l0.take (t270 : Int).toNat : List (S25))).bind fun y321 => (if y318.length + y321.length < 3518437208883 then ((point_Alike.f k3 l0 (y318 ++ y321)).bind fun t328 => (if t328 = true then (if 1 ≤ (l0.length : Int) then ((point_Alike.f k3 l0 (l0.drop 1)).bind fun t333 => (if t333 = true then (some false) else ((coraclelaw3_awake.f).bind fun t334 => (some t334)))) else (none)) else (some false))) else (none)))) else (none))) else (none)) else (none))) = some r := by rw [if_pos rfl] at H; exact H
                 clear H
                 have H := H1
                 clear H1
                 obtain ⟨y311, hy311⟩ : ∃ y_ : List (S25), y_ = (([] : List (S25))) := ⟨_, rfl⟩
                 replace H : (if 0 ≤ t270 then (if t270 ≤ (l0.length : Int) then ((some (l0.drop (t270 : Int).toNat : List (S25))).bind fun y314 => (if y311.length + y314.length < 3518437208883 then ((some (y311 ++ y314 : List (S25))).bind fun y318 => ((some (l0.take (t270 : Int).toNat : List (S25))).bind fun y321 => (if y318.length + y321.length < 3518437208883 then ((point_Alike.f k3 l0 (y318 ++ y321)).bind fun t328 => (if t328 = true then (if 1 ≤ (l0.length : Int) then ((point_Alike.f k3 l0 (l0.drop 1)).bind fun t333 => (if t333 = true then (some false) else ((coraclelaw3_awake.f).bind fun t334 => (some t334)))) else (none)) else (some false))) else (none)))) else (none))) else (none)) else (none)) = some r := by first | (rw [hy311]; with_reducible exact H) | (have H2_ := (Option.bind_some _ _).symm.trans H; rw [hy311]; with_reducible exact H2_) | (have H2_ := (Option.bind_some _ _).symm.trans H; with_reducible exact H2_) | with_reducible exact H | (rw [hy311]; exact H) | exact H
                 have Ny311 := Aside0.mk hy311
                 clear hy311
                 by_cases c79 : 0 ≤ t270
                 ·
                  rw [if_pos c79] at H
                  have c79b0 := eq_true c79
                  have c79b1 : decide (0 ≤ t270) = true := decide_eq_true c79
                  clear c79
                  by_cases c80 : t270 ≤ (l0.length : Int)
                  ·
                   rw [if_pos c80] at H
                   have c80b0 := eq_true c80
                   have c80b1 : decide (t270 ≤ (l0.length : Int)) = true := decide_eq_true c80
                   clear c80
                   obtain ⟨y314, hy314⟩ : ∃ y_ : List (S25), y_ = (l0.drop (t270 : Int).toNat) := ⟨_, rfl⟩
                   replace H : (if y311.length + y314.length < 3518437208883 then ((some (y311 ++ y314 : List (S25))).bind fun y318 => ((some (l0.take (t270 : Int).toNat : List (S25))).bind fun y321 => (if y318.length + y321.length < 3518437208883 then ((point_Alike.f k3 l0 (y318 ++ y321)).bind fun t328 => (if t328 = true then (if 1 ≤ (l0.length : Int) then ((point_Alike.f k3 l0 (l0.drop 1)).bind fun t333 => (if t333 = true then (some false) else ((coraclelaw3_awake.f).bind fun t334 => (some t334)))) else (none)) else (some false))) else (none)))) else (none)) = some r := by first | (rw [hy314]; with_reducible exact H) | (have H2_ := (Option.bind_some _ _).symm.trans H; rw [hy314]; with_reducible exact H2_) | (have H2_ := (Option.bind_some _ _).symm.trans H; with_reducible exact H2_) | with_reducible exact H | (rw [hy314]; exact H) | exact H
                   have Ny314 := Aside0.mk hy314
                   clear hy314
                   by_cases c81 : y311.length + y314.length < 3518437208883
                   ·
                    rw [if_pos c81] at H
                    have LMc81 := Aside0.mk c81
                    clear c81
                    obtain ⟨y318, hy318⟩ : ∃ y_ : List (S25), y_ = (y311 ++ y314) := ⟨_, rfl⟩
                    replace H : ((some (l0.take (t270 : Int).toNat : List (S25))).bind fun y321 => (if y318.length + y321.length < 3518437208883 then ((point_Alike.f k3 l0 (y318 ++ y321)).bind fun t328 => (if t328 = true then (if 1 ≤ (l0.length : Int) then ((point_Alike.f k3 l0 (l0.drop 1)).bind fun t333 => (if t333 = true then (some false) else ((coraclelaw3_awake.f).bind fun t334 => (some t334)))) else (none)) else (some false))) else (none))) = some r := by first | (rw [hy318]; with_reducible exact H) | (have H2_ := (Option.bind_some _ _).symm.trans H; rw [hy318]; with_reducible exact H2_) | (have H2_ := (Option.bind_some _ _).symm.trans H; with_reducible exact H2_) | with_reducible exact H | (rw [hy318]; exact H) | exact H
                    have Ny318 := Aside0.mk hy318
                    clear hy318
                    have c82b0 := eq_true (of_decide_eq_true (by first | (with_reducible assumption) | assumption) : 0 ≤ t270)
                    have c83b0 := eq_true (of_decide_eq_true (by first | (with_reducible assumption) | assumption) : t270 ≤ (l0.length : Int))
                    obtain ⟨y321, hy321⟩ : ∃ y_ : List (S25), y_ = (l0.take (t270 : Int).toNat) := ⟨_, rfl⟩
                    replace H : (if y318.length + y321.length < 3518437208883 then ((point_Alike.f k3 l0 (y318 ++ y321)).bind fun t328 => (if t328 = true then (if 1 ≤ (l0.length : Int) then ((point_Alike.f k3 l0 (l0.drop 1)).bind fun t333 => (if t333 = true then (some false) else ((coraclelaw3_awake.f).bind fun t334 => (some t334)))) else (none)) else (some false))) else (none)) = some r := by first | (rw [hy321]; with_reducible exact H) | (have H2_ := (Option.bind_some _ _).symm.trans H; rw [hy321]; with_reducible exact H2_) | (have H2_ := (Option.bind_some _ _).symm.trans H; with_reducible exact H2_) | with_reducible exact H | (rw [hy321]; exact H) | exact H
                    have Ny321 := Aside0.mk hy321
                    clear hy321
                    by_cases c84 : y318.length + y321.length < 3518437208883
                    ·
                     rw [if_pos c84] at H
                     have LMc84 := Aside0.mk c84
                     clear c84
                     obtain ⟨y325, hy325⟩ : ∃ y_ : List (S25), y_ = (y318 ++ y321) := ⟨_, rfl⟩
                     replace H : ((point_Alike.f k3 l0 y325).bind fun t328 => (if t328 = true then (if 1 ≤ (l0.length : Int) then ((point_Alike.f k3 l0 (l0.drop 1)).bind fun t333 => (if t333 = true then (some false) else ((coraclelaw3_awake.f).bind fun t334 => (some t334)))) else (none)) else (some false))) = some r := by first | (rw [hy325]; with_reducible exact H) | (have H2_ := (Option.bind_some _ _).symm.trans H; rw [hy325]; with_reducible exact H2_) | (have H2_ := (Option.bind_some _ _).symm.trans H; with_reducible exact H2_) | with_reducible exact H | (rw [hy325]; exact H) | exact H
                     have Ny325 := Aside0.mk hy325
                     clear hy325
                     replace H := Option.bind_eq_some_iff.mp H
                     obtain ⟨t328, A850, H⟩ := H
                     replace H : (if t328 = true then (if 1 ≤ (l0.length : Int) then ((point_Alike.f k3 l0 (l0.drop 1)).bind fun t333 => (if t333 = true then (some false) else ((coraclelaw3_awake.f).bind fun t334 => (some t334)))) else (none)) else (some false)) = some r := H
                     have A85 := Aside0.mk A850
                     clear A850
                     by_cases c86 : t328 = true
                     ·
                      subst c86
                      have H1 : (if 1 ≤ (l0.length : Int) then ((point_Alike.f k3 l0 (l0.drop 1)).bind fun t333 => (if t333 = true then (some false) else ((coraclelaw3_awake.f).bind fun t334 => (some t334)))) else (none)) = some r := by rw [if_pos rfl] at H; exact H
                      clear H
                      have H := H1
                      clear H1
                      by_cases c87 : 1 ≤ (l0.length : Int)
                      ·
                       rw [if_pos c87] at H
                       have c87b0 := eq_true c87
                       have c87b1 : decide (1 ≤ (l0.length : Int)) = true := decide_eq_true c87
                       clear c87
                       obtain ⟨y329, hy329⟩ : ∃ y_ : List (S25), y_ = (l0.drop 1) := ⟨_, rfl⟩
                       replace H : ((point_Alike.f k3 l0 y329).bind fun t333 => (if t333 = true then (some false) else ((coraclelaw3_awake.f).bind fun t334 => (some t334)))) = some r := by first | (rw [hy329]; with_reducible exact H) | (have H2_ := (Option.bind_some _ _).symm.trans H; rw [hy329]; with_reducible exact H2_) | (have H2_ := (Option.bind_some _ _).symm.trans H; with_reducible exact H2_) | with_reducible exact H | (rw [hy329]; exact H) | exact H
                       have Ny329 := Aside0.mk hy329
                       clear hy329
                       replace H := Option.bind_eq_some_iff.mp H
                       obtain ⟨t333, A880, H⟩ := H
                       replace H : (if t333 = true then (some false) else ((coraclelaw3_awake.f).bind fun t334 => (some t334))) = some r := H
                       have A88 := Aside0.mk A880
                       clear A880
                       by_cases c89 : t333 = true
                       ·
                        subst c89
                        have H1 : (some false) = some r := by rw [if_pos rfl] at H; exact H
                        exact absurd (H1.trans (congrArg some HTOLD.out)) (by decide)
                       ·
                        replace c89 := Bool.eq_false_iff.mpr c89
                        subst c89
                        have H1 : ((coraclelaw3_awake.f).bind fun t334 => (some t334)) = some r := by rw [if_neg (show ¬ (false = true) by decide)] at H; exact H
                        clear H
                        have H := H1
                        clear H1
                        replace H := Option.bind_eq_some_iff.mp H
                        obtain ⟨t334, A1060, H⟩ := H
                        replace H : (some t334) = some r := H
                        have A106 := Aside0.mk A1060
                        clear A1060
                        obtain rfl := Option.some.inj H
                        try go_wp2
                        have n0_ := Aside0.mk (Kd.R_drew HO_5.out)
                        have n1_ := Aside0.mk (Kd.R_drew HO_7.out)
                        have n2_ := Aside0.mk (below_drew1 HB.out)
                        clear HO_5
                        clear HO_7
                        clear HB
                        have HO_5 := n0_
                        have HO_7 := n1_
                        have HB := n2_
                        clear n0_ n1_ n2_
                        obtain ⟨Ao108, co108, eo108⟩ := Kd.R_slice HO_7.out
                        (first | subst eo108 | (injection eo108 with f1_ f2_ f3_; have f4_ := f1_.symm; have f5_ := f3_.symm; clear f1_ f2_ f3_; subst f4_; subst f5_))
                        have q115 : (t270 : Int) ≤ ((l0.length : Int) : Int) := of_decide_eq_true (by first | (with_reducible assumption) | assumption)
                        obtain ⟨i0115, hi0115, _, hsz115, _⟩ := info_parts info25
                        have hroom115 : l0.length ≤ c0 := HC0.out
                        have hC115 : Kd.C k25 _ A0 l0.length l0 := HR0.out
                        have q0115 : (0 : Int) ≤ (t270 : Int) := of_decide_eq_true (by first | (with_reducible assumption) | assumption)
                        (try clear hcut19)
                        have hcut115 := cut_from (P := Tryd.prog) 31 25 .i64 Tryd.underlying31 hi0115 33 hsz115 A0 l0.length c0 t270 q0115 q115
                        have hr115 := Kd.C_drop (m := (t270 : Int).toNat) (c := c0) hC115 (by omega) hroom115
                        obtain ⟨A115, hA115⟩ : ∃ A1, A1 = (if c0 = (t270 : Int).toNat then A0 else (A0 : Option Addr).map (·.add ((t270 : Int).toNat * 33))) := ⟨_, rfl⟩
                        obtain ⟨c115, hc115⟩ : ∃ c1, c1 = c0 - (t270 : Int).toNat := ⟨_, rfl⟩
                        have hy115 : y314.length = l0.length - (t270 : Int).toNat := (by rw [Ny314.out, List.length_drop] <;> omega)
                        rw [show (l0).drop (t270 : Int).toNat = y314 from Ny314.out.symm] at hr115
                        replace hr115 : Kd.C k25 _ A115 y314.length y314 := (by rw [hA115]; exact hr115)
                        rw [← hy115, ← hA115, ← hc115] at hcut115
                        have HR317 := Aside0.mk hr115
                        have HC317 := Aside0.mk (show y314.length ≤ c115 from by rw [hy115, hc115]; exact Nat.sub_le_sub_right hroom115 _)
                        clear hr115 hC115 hroom115 hi0115 hsz115 hc115
                        have KY115 := Aside0.mk hy115
                        have KA115 := Aside0.mk hA115
                        clear hy115 hA115
                        replace q115 := eq_true q115
                        have q117 : (t270 : Int) ≤ ((l0.length : Int) : Int) := of_decide_eq_true (by first | (with_reducible assumption) | assumption)
                        obtain ⟨i0117, hi0117, _, hsz117, _⟩ := info_parts info25
                        have hroom117 : l0.length ≤ c0 := HC0.out
                        have hC117 : Kd.C k25 _ A0 l0.length l0 := HR0.out
                        (try clear hcut20)
                        have hcut117 := cut_to (P := Tryd.prog) 31 25 .i64 Tryd.underlying31 hi0117 A0 l0.length c0 t270 (of_decide_eq_true (by first | (with_reducible assumption) | assumption)) q117 hroom117
                        have hr117 := Kd.C_take (m := (t270 : Int).toNat) hC117 (by omega)
                        have hy117 : y321.length = (t270 : Int).toNat := (by rw [Ny321.out, List.length_take]; omega)
                        rw [← Ny321.out] at hr117
                        rw [← hy117] at hcut117
                        have HR324 := Aside0.mk hr117
                        have HC324 := Aside0.mk (show y321.length ≤ c0 from by omega)
                        clear hr117 hC117 hroom117 hi0117 hsz117
                        have KY117 := Aside0.mk hy117
                        clear hy117
                        replace q117 := eq_true q117
                        have q121 : (1 : Int) ≤ ((l0.length : Int) : Int) := of_decide_eq_true (by first | (with_reducible assumption) | assumption)
                        obtain ⟨i0121, hi0121, _, hsz121, _⟩ := info_parts info25
                        have hroom121 : l0.length ≤ c0 := HC0.out
                        have hC121 : Kd.C k25 _ A0 l0.length l0 := HR0.out
                        have hcut121 := cut_from (P := Tryd.prog) 31 25 .i64 Tryd.underlying31 hi0121 33 hsz121 A0 l0.length c0 1 (by omega) q121
                        have hr121 := Kd.C_drop (m := (1 : Int).toNat) (c := c0) hC121 (by omega) hroom121
                        obtain ⟨A121, hA121⟩ : ∃ A1, A1 = (if c0 = (1 : Int).toNat then A0 else (A0 : Option Addr).map (·.add ((1 : Int).toNat * 33))) := ⟨_, rfl⟩
                        obtain ⟨c121, hc121⟩ : ∃ c1, c1 = c0 - (1 : Int).toNat := ⟨_, rfl⟩
                        have hy121 : y329.length = l0.length - (1 : Int).toNat := (by rw [Ny329.out, List.length_drop] <;> omega)
                        rw [show (l0).drop (1 : Int).toNat = y329 from Ny329.out.symm] at hr121
                        replace hr121 : Kd.C k25 _ A121 y329.length y329 := (by rw [hA121]; exact hr121)
                        rw [← hy121, ← hA121, ← hc121] at hcut121
                        have HR332 := Aside0.mk hr121
                        have HC332 := Aside0.mk (show y329.length ≤ c121 from by rw [hy121, hc121]; exact Nat.sub_le_sub_right hroom121 _)
                        clear hr121 hC121 hroom121 hi0121 hsz121 hc121
                        have KY121 := Aside0.mk hy121
                        have KA121 := Aside0.mk hA121
                        clear hy121 hA121
                        replace q121 := eq_true q121
                        refine start_ (n := 41) (S := fun w' => True) (ds := []) #[false, false, false, false, false, false, false, false, false, false, false, false, false, false, false, false, false, false, false, false, false, false, false, false, false, false, false, false, false, false, false, false, false, false, false, false, false, false, false, false, false] (by kernel_rfl) rfl rfl trivial (fun hHeld => ?_); refine with_tabW coraclelaw3_PointOrder.tab16 coraclelaw3_PointOrder.bits16 (fun HT_ HW_ => ?_)
                        generalize wr.drew = w107 at HO_5 HO_7 HB hHeld ⊢
                        refine pure_ (i := 0) (N := some 90) (v := ?_) (a' := ?_) #[true, false, false, false, false, false, false, false, false, false, false, false, false, false, false, false, false, false, false, false, false, false, false, false, false, false, false, false, false, false, false, false, false, false, false, false, false, false, false, false, false] rfl rfl (any_of HT_.out (by kernel_rfl)) (fun _ _ _ h => h) (Or.inl ⟨by rfl, ?_⟩) ?_ ?_
                        rotate_left
                        ·
                         intro w'
                         go_simp
                         with_reducible rfl
                        rotate_left
                        ·
                         simp only [Act.put, List.setIfInBounds_toArray, List.set_cons_zero, List.set_cons_succ, i64_w, i32_w]
                         rfl
                        refine pure_ (i := 1) (N := some 91) (v := ?_) (a' := ?_) #[true, true, false, false, false, false, false, false, false, false, false, false, false, false, false, false, false, false, false, false, false, false, false, false, false, false, false, false, false, false, false, false, false, false, false, false, false, false, false, false, false] rfl rfl (any_of HT_.out (by kernel_rfl)) (fun _ _ _ h => h) (Or.inl ⟨by rfl, ?_⟩) ?_ ?_
                        rotate_left
                        ·
                         intro w'
                         go_simp
                         with_reducible rfl
                        rotate_left
                        ·
                         simp only [Act.put, List.setIfInBounds_toArray, List.set_cons_zero, List.set_cons_succ, i64_w, i32_w]
                         rfl
                        refine one_ (i := 2) (N := some 92) #[true, true, true, false, false, false, false, false, false, false, false, false, false, false, false, false, false, false, false, false, false, false, false, false, false, false, false, false, false, false, false, false, false, false, false, false, false, false, false, false, false] rfl rfl (one_of HT_.out (by kernel_rfl)) (by decide) (fun K hK => ?_)
                        refine goes_ Tryd.func13 (by kernel_rfl) rfl #[.slice Ao65 t267.length co65, .slice Ao108 t288.length co108] (by rfl) rfl rfl (by (try simp only [List.map_toArray, List.map_cons, List.map_nil]); first | done | rfl | (simp only [List.length_drop, List.length_take]; rfl)) ?_
                        with_reducible refine (coraclealike_Points.calls k3 _ _ t267 _ _ t288 true _ ?side1 ?side2 ?side3 ?side4 A72.out).mono ?_
                        (case side1 => repeat (first | exact (Kd.R_reads' HO_5.out).2.2 | (with_reducible refine Kd.C_alloc ?_ _) | (with_reducible refine Kd.C_drewN ?_ _) | (with_reducible refine Kd.C_drew ?_)))
                        (case side2 => exact (Kd.R_reads' HO_5.out).2.1)
                        (case side3 => repeat (first | exact (Kd.R_reads' HO_7.out).2.2 | (with_reducible refine Kd.C_alloc ?_ _) | (with_reducible refine Kd.C_drewN ?_ _) | (with_reducible refine Kd.C_drew ?_)))
                        (case side4 => exact (Kd.R_reads' HO_7.out).2.1)
                        rintro e w' ⟨rfl, ⟨nd, rfl⟩⟩
                        refine ⟨_, rfl, ?_⟩
                        refine hK.out _ _ trivial (fun hHeld => ?_)
                        clear hK K
                        refine norm_ (a' := ?_) ?_ ?_
                        rotate_left
                        ·
                         show Act.put _ (some 92) _ = _
                         simp only [Act.put, List.setIfInBounds_toArray, List.set_cons_zero, List.set_cons_succ, i64_w, i32_w]
                         rfl
                        refine pure_ (i := 3) (N := some 93) (v := ?_) (a' := ?_) #[true, true, true, true, false, false, false, false, false, false, false, false, false, false, false, false, false, false, false, false, false, false, false, false, false, false, false, false, false, false, false, false, false, false, false, false, false, false, false, false, false] rfl rfl (any_of HT_.out (by kernel_rfl)) (fun _ _ _ h => h) (Or.inl ⟨by rfl, ?_⟩) ?_ ?_
                        rotate_left
                        ·
                         intro w'
                         go_simp
                         with_reducible rfl
                        rotate_left
                        ·
                         simp only [Act.put, List.setIfInBounds_toArray, List.set_cons_zero, List.set_cons_succ, i64_w, i32_w]
                         rfl
                        refine pure_ (i := 4) (N := some 94) (v := ?_) (a' := ?_) #[true, true, true, true, true, false, false, false, false, false, false, false, false, false, false, false, false, false, false, false, false, false, false, false, false, false, false, false, false, false, false, false, false, false, false, false, false, false, false, false, false] rfl rfl (any_of HT_.out (by kernel_rfl)) (fun _ _ _ h => h) (Or.inl ⟨by rfl, ?_⟩) ?_ ?_
                        rotate_left
                        ·
                         intro w'
                         go_simp
                         with_reducible rfl
                        rotate_left
                        ·
                         simp only [Act.put, List.setIfInBounds_toArray, List.set_cons_zero, List.set_cons_succ, i64_w, i32_w]
                         rfl
                        refine pure_ (i := 5) (N := some 95) (v := ?_) (a' := ?_) #[true, true, true, true, true, true, false, false, false, false, false, false, false, false, false, false, false, false, false, false, false, false, false, false, false, false, false, false, false, false, false, false, false, false, false, false, false, false, false, false, false] rfl rfl (any_of HT_.out (by kernel_rfl)) (fun _ _ _ h => h) (Or.inl ⟨by rfl, ?_⟩) ?_ ?_
                        rotate_left
                        ·
                         intro w'
                         go_simp
                         with_reducible rfl
                        rotate_left
                        ·
                         simp only [Act.put, List.setIfInBounds_toArray, List.set_cons_zero, List.set_cons_succ, i64_w, i32_w]
                         rfl
                        refine one_ (i := 6) (N := some 96) #[true, true, true, true, true, true, true, false, false, false, false, false, false, false, false, false, false, false, false, false, false, false, false, false, false, false, false, false, false, false, false, false, false, false, false, false, false, false, false, false, false] rfl rfl (one_of HT_.out (by kernel_rfl)) (by decide) (fun K hK => ?_)
                        refine goes_ Tryd.func17 (by kernel_rfl) rfl #[.slice A0 l0.length c0, .slice Ao65 t267.length co65] (by rfl) rfl rfl (by (try simp only [List.map_toArray, List.map_cons, List.map_nil]); first | done | rfl | (simp only [List.length_drop, List.length_take]; rfl)) ?_
                        with_reducible refine (point_Minus.calls k3 _ _ l0 _ _ t267 t304 _ ?side1 ?side2 ?side3 ?side4 A74.out).mono ?_
                        (case side1 => repeat (first | exact (Kd.C_below HR0.out (by repeat (first | (with_reducible first | exact HB.out | apply below_alloc | apply pw_below_drewN | apply below_drew1) | exact HB.out))) | (with_reducible refine Kd.C_alloc ?_ _) | (with_reducible refine Kd.C_drewN ?_ _) | (with_reducible refine Kd.C_drew ?_)))
                        (case side2 => exact HC0.out)
                        (case side3 => repeat (first | exact (Kd.R_reads' HO_5.out).2.2 | (with_reducible refine Kd.C_alloc ?_ _) | (with_reducible refine Kd.C_drewN ?_ _) | (with_reducible refine Kd.C_drew ?_)))
                        (case side4 => exact (Kd.R_reads' HO_5.out).2.1)
                        rintro e w109 ⟨v305, rfl, ho0, hb⟩
                        refine ⟨_, rfl, ?_⟩
                        have n0_ := Aside0.mk (Kd.R_elder' (by (with_reducible repeat (first | apply Kd.R_alloc | apply Kd.R_drewN | apply Kd.R_drew)); exact HO_5.out) (Kd.R_base ho0) hb)
                        have n1_ := Aside0.mk (Kd.R_elder' (by (with_reducible repeat (first | apply Kd.R_alloc | apply Kd.R_drewN | apply Kd.R_drew)); exact HO_7.out) (Kd.R_base ho0) hb)
                        have n2_ := Aside0.mk (Kd.R_lower (Kd.R_new' (Kd.R_new' ho0 (Kd.R_lt (by (with_reducible repeat (first | apply Kd.R_alloc | apply Kd.R_drewN | apply Kd.R_drew)); exact HO_5.out))) (Kd.R_lt (by (with_reducible repeat (first | apply Kd.R_alloc | apply Kd.R_drewN | apply Kd.R_drew)); exact HO_7.out))) (below_size (by repeat (first | (with_reducible first | exact HB.out | apply below_alloc | apply pw_below_drewN | apply below_drew1) | exact HB.out))))
                        have n3_ := Aside0.mk (below_step (by repeat (first | (with_reducible first | exact HB.out | apply below_alloc | apply pw_below_drewN | apply below_drew1) | exact HB.out)) hb)
                        clear HO_5
                        clear HO_7
                        clear HB
                        have HO_5 := n0_
                        have HO_7 := n1_
                        have HO306 := n2_
                        have HB := n3_
                        clear n0_ n1_ n2_ n3_
                        (try clear hb)
                        (try clear hb2)
                        (try clear hk)
                        (try clear hi)
                        (try clear ho0)
                        obtain ⟨Ao110, co110, eo110⟩ := Kd.R_slice HO306.out
                        (first | subst eo110 | (injection eo110 with f1_ f2_ f3_; have f4_ := f1_.symm; have f5_ := f3_.symm; clear f1_ f2_ f3_; subst f4_; subst f5_))
                        refine hK.out _ _ trivial (fun hHeld => ?_)
                        clear hK K
                        refine norm_ (a' := ?_) ?_ ?_
                        rotate_left
                        ·
                         show Act.put _ (some 96) _ = _
                         simp only [Act.put, List.setIfInBounds_toArray, List.set_cons_zero, List.set_cons_succ, i64_w, i32_w]
                         rfl
                        refine pure_ (i := 7) (N := some 97) (v := ?_) (a' := ?_) #[true, true, true, true, true, true, true, true, false, false, false, false, false, false, false, false, false, false, false, false, false, false, false, false, false, false, false, false, false, false, false, false, false, false, false, false, false, false, false, false, false] rfl rfl (any_of HT_.out (by kernel_rfl)) (fun _ _ _ h => h) (Or.inl ⟨by rfl, ?_⟩) ?_ ?_
                        rotate_left
                        ·
                         intro w'
                         go_simp
                         with_reducible rfl
                        rotate_left
                        ·
                         simp only [Act.put, List.setIfInBounds_toArray, List.set_cons_zero, List.set_cons_succ, i64_w, i32_w]
                         rfl
                        refine pure_ (i := 8) (N := some 98) (v := ?_) (a' := ?_) #[true, true, true, true, true, true, true, true, true, false, false, false, false, false, false, false, false, false, false, false, false, false, false, false, false, false, false, false, false, false, false, false, false, false, false, false, false, false, false, false, false] rfl rfl (any_of HT_.out (by kernel_rfl)) (fun _ _ _ h => h) (Or.inl ⟨by rfl, ?_⟩) ?_ ?_
                        rotate_left
                        ·
                         intro w'
                         go_simp
                         with_reducible rfl
                        rotate_left
                        ·
                         simp only [Act.put, List.setIfInBounds_toArray, List.set_cons_zero, List.set_cons_succ, i64_w, i32_w]
                         rfl
                        refine pure_ (i := 9) (N := some 99) (v := ?_) (a' := ?_) #[true, true, true, true, true, true, true, true, true, true, false, false, false, false, false, false, false, false, false, false, false, false, false, false, false, false, false, false, false, false, false, false, false, false, false, false, false, false, false, false, false] rfl rfl (any_of HT_.out (by kernel_rfl)) (fun _ _ _ h => h) (Or.inl ⟨by rfl, ?_⟩) ?_ ?_
                        rotate_left
                        ·
                         intro w'
                         go_simp
                         with_reducible rfl
                        rotate_left
                        ·
                         simp only [Act.put, List.setIfInBounds_toArray, List.set_cons_zero, List.set_cons_succ, i64_w, i32_w]
                         rfl
                        refine pure_ (i := 10) (N := some 100) (v := ?_) (a' := ?_) #[true, true, true, true, true, true, true, true, true, true, true, false, false, false, false, false, false, false, false, false, false, false, false, false, false, false, false, false, false, false, false, false, false, false, false, false, false, false, false, false, false] rfl rfl (any_of HT_.out (by kernel_rfl)) (fun _ _ _ h => h) (Or.inl ⟨by rfl, ?_⟩) ?_ ?_
                        rotate_left
                        ·
                         intro w'
                         go_simp
                         with_reducible rfl
                        rotate_left
                        ·
                         simp only [Act.put, List.setIfInBounds_toArray, List.set_cons_zero, List.set_cons_succ, i64_w, i32_w]
                         rfl
                        refine pure_ (i := 11) (N := some 101) (v := ?_) (a' := ?_) #[true, true, true, true, true, true, true, true, true, true, true, true, false, false, false, false, false, false, false, false, false, false, false, false, false, false, false, false, false, false, false, false, false, false, false, false, false, false, false, false, false] rfl rfl (any_of HT_.out (by kernel_rfl)) (fun _ _ _ h => h) (Or.inl ⟨by rfl, ?_⟩) ?_ ?_
                        rotate_left
                        ·
                         intro w'
                         go_simp
                         with_reducible rfl
                        rotate_left
                        ·
                         simp only [Act.put, List.setIfInBounds_toArray, List.set_cons_zero, List.set_cons_succ, i64_w, i32_w]
                         rfl
                        refine pure_ (i := 12) (N := some 102) (v := ?_) (a' := ?_) #[true, true, true, true, true, true, true, true, true, true, true, true, true, false, false, false, false, false, false, false, false, false, false, false, false, false, false, false, false, false, false, false, false, false, false, false, false, false, false, false, false] rfl rfl (any_of HT_.out (by kernel_rfl)) (fun _ _ _ h => h) (Or.inl ⟨by rfl, ?_⟩) ?_ ?_
                        rotate_left
                        ·
                         intro w'
                         go_simp
                         with_reducible rfl
                        rotate_left
                        ·
                         simp only [Act.put, List.setIfInBounds_toArray, List.set_cons_zero, List.set_cons_succ, i64_w, i32_w]
                         rfl
                        refine pure_ (i := 14) (N := some 104) (v := ?_) (a' := ?_) #[true, true, true, true, true, true, true, true, true, true, true, true, true, false, true, false, false, false, false, false, false, false, false, false, false, false, false, false, false, false, false, false, false, false, false, false, false, false, false, false, false] rfl rfl (any_of HT_.out (by kernel_rfl)) (fun _ _ _ h => h) (Or.inl ⟨by rfl, ?_⟩) ?_ ?_
                        rotate_left
                        ·
                         intro w'
                         go_simp
                         with_reducible rfl
                        rotate_left
                        ·
                         simp only [Act.put, List.setIfInBounds_toArray, List.set_cons_zero, List.set_cons_succ, i64_w, i32_w]
                         rfl
                        refine one_ (i := 13) (N := some 103) #[true, true, true, true, true, true, true, true, true, true, true, true, true, true, true, false, false, false, false, false, false, false, false, false, false, false, false, false, false, false, false, false, false, false, false, false, false, false, false, false, false] rfl rfl (one_of HT_.out (by kernel_rfl)) (by decide) (fun K hK => ?_)
                        refine goes_ Tryd.func16 (by kernel_rfl) rfl #[.slice A0 l0.length c0, .slice Ao65 t267.length co65] (by rfl) rfl rfl (by (try simp only [List.map_toArray, List.map_cons, List.map_nil]); first | done | rfl | (simp only [List.length_drop, List.length_take]; rfl)) ?_
                        with_reducible refine (point_Both.calls k3 _ _ l0 _ _ t267 t307 _ ?side1 ?side2 ?side3 ?side4 A76.out).mono ?_
                        (case side1 => repeat (first | exact (Kd.C_below HR0.out HB.out) | (with_reducible refine Kd.C_alloc ?_ _) | (with_reducible refine Kd.C_drewN ?_ _) | (with_reducible refine Kd.C_drew ?_)))
                        (case side2 => exact HC0.out)
                        (case side3 => repeat (first | exact (Kd.R_reads' HO_5.out).2.2 | (with_reducible refine Kd.C_alloc ?_ _) | (with_reducible refine Kd.C_drewN ?_ _) | (with_reducible refine Kd.C_drew ?_)))
                        (case side4 => exact (Kd.R_reads' HO_5.out).2.1)
                        rintro e w111 ⟨v308, rfl, ho0, hb⟩
                        refine ⟨_, rfl, ?_⟩
                        have n0_ := Aside0.mk (Kd.R_elder' (by (with_reducible repeat (first | apply Kd.R_alloc | apply Kd.R_drewN | apply Kd.R_drew)); exact HO_5.out) (Kd.R_base ho0) hb)
                        have n1_ := Aside0.mk (Kd.R_elder' (by (with_reducible repeat (first | apply Kd.R_alloc | apply Kd.R_drewN | apply Kd.R_drew)); exact HO_7.out) (Kd.R_base ho0) hb)
                        have n2_ := Aside0.mk (Kd.R_elder' (by (with_reducible repeat (first | apply Kd.R_alloc | apply Kd.R_drewN | apply Kd.R_drew)); exact HO306.out) (Kd.R_base ho0) hb)
                        have n3_ := Aside0.mk (Kd.R_lower (Kd.R_new' (Kd.R_new' (Kd.R_new' ho0 (Kd.R_lt (by (with_reducible repeat (first | apply Kd.R_alloc | apply Kd.R_drewN | apply Kd.R_drew)); exact HO_5.out))) (Kd.R_lt (by (with_reducible repeat (first | apply Kd.R_alloc | apply Kd.R_drewN | apply Kd.R_drew)); exact HO_7.out))) (Kd.R_lt (by (with_reducible repeat (first | apply Kd.R_alloc | apply Kd.R_drewN | apply Kd.R_drew)); exact HO306.out))) (below_size (by repeat (first | (with_reducible first | exact HB.out | apply below_alloc | apply pw_below_drewN | apply below_drew1) | exact HB.out))))
                        have n4_ := Aside0.mk (below_step (by repeat (first | (with_reducible first | exact HB.out | apply below_alloc | apply pw_below_drewN | apply below_drew1) | exact HB.out)) hb)
                        clear HO_5
                        clear HO_7
                        clear HO306
                        clear HB
                        have HO_5 := n0_
                        have HO_7 := n1_
                        have HO306 := n2_
                        have HO309 := n3_
                        have HB := n4_
                        clear n0_ n1_ n2_ n3_ n4_
                        (try clear hb)
                        (try clear hb2)
                        (try clear hk)
                        (try clear hi)
                        (try clear ho0)
                        obtain ⟨Ao112, co112, eo112⟩ := Kd.R_slice HO309.out
                        (first | subst eo112 | (injection eo112 with f1_ f2_ f3_; have f4_ := f1_.symm; have f5_ := f3_.symm; clear f1_ f2_ f3_; subst f4_; subst f5_))
                        refine hK.out _ _ trivial (fun hHeld => ?_)
                        clear hK K
                        refine norm_ (a' := ?_) ?_ ?_
                        rotate_left
                        ·
                         show Act.put _ (some 103) _ = _
                         simp only [Act.put, List.setIfInBounds_toArray, List.set_cons_zero, List.set_cons_succ, i64_w, i32_w]
                         rfl
                        refine one_ (i := 15) (N := some 105) #[true, true, true, true, true, true, true, true, true, true, true, true, true, true, true, true, false, false, false, false, false, false, false, false, false, false, false, false, false, false, false, false, false, false, false, false, false, false, false, false, false] rfl rfl (one_of HT_.out (by kernel_rfl)) (by decide) (fun K hK => ?_)
                        refine goes_ Tryd.func13 (by kernel_rfl) rfl #[.slice Ao112 t307.length co112, .slice A0 l0.length c0] (by rfl) rfl rfl (by (try simp only [List.map_toArray, List.map_cons, List.map_nil]); first | done | rfl | (simp only [List.length_drop, List.length_take]; rfl)) ?_
                        with_reducible refine (coraclealike_Points.calls k3 _ _ t307 _ _ l0 true _ ?side1 ?side2 ?side3 ?side4 A77.out).mono ?_
                        (case side1 => repeat (first | exact (Kd.R_reads' HO309.out).2.2 | (with_reducible refine Kd.C_alloc ?_ _) | (with_reducible refine Kd.C_drewN ?_ _) | (with_reducible refine Kd.C_drew ?_)))
                        (case side2 => exact (Kd.R_reads' HO309.out).2.1)
                        (case side3 => repeat (first | exact (Kd.C_below HR0.out HB.out) | (with_reducible refine Kd.C_alloc ?_ _) | (with_reducible refine Kd.C_drewN ?_ _) | (with_reducible refine Kd.C_drew ?_)))
                        (case side4 => exact HC0.out)
                        rintro e w' ⟨rfl, ⟨nd, rfl⟩⟩
                        refine ⟨_, rfl, ?_⟩
                        refine hK.out _ _ trivial (fun hHeld => ?_)
                        clear hK K
                        refine norm_ (a' := ?_) ?_ ?_
                        rotate_left
                        ·
                         show Act.put _ (some 105) _ = _
                         simp only [Act.put, List.setIfInBounds_toArray, List.set_cons_zero, List.set_cons_succ, i64_w, i32_w]
                         rfl
                        refine pure_ (i := 16) (N := some 106) (v := ?_) (a' := ?_) #[true, true, true, true, true, true, true, true, true, true, true, true, true, true, true, true, true, false, false, false, false, false, false, false, false, false, false, false, false, false, false, false, false, false, false, false, false, false, false, false, false] rfl rfl (any_of HT_.out (by kernel_rfl)) (fun _ _ _ h => h) (Or.inl ⟨by rfl, ?_⟩) ?_ ?_
                        rotate_left
                        ·
                         intro w'
                         go_simp
                         with_reducible rfl
                        rotate_left
                        ·
                         simp only [Act.put, List.setIfInBounds_toArray, List.set_cons_zero, List.set_cons_succ, i64_w, i32_w]
                         rfl
                        refine pure_ (i := 17) (N := some 107) (v := ?_) (a' := ?_) #[true, true, true, true, true, true, true, true, true, true, true, true, true, true, true, true, true, true, false, false, false, false, false, false, false, false, false, false, false, false, false, false, false, false, false, false, false, false, false, false, false] rfl rfl (any_of HT_.out (by kernel_rfl)) (fun _ _ _ h => h) (Or.inl ⟨by rfl, ?_⟩) ?_ ?_
                        rotate_left
                        ·
                         intro w'
                         go_simp
                         with_reducible rfl
                        rotate_left
                        ·
                         simp only [Act.put, List.setIfInBounds_toArray, List.set_cons_zero, List.set_cons_succ, i64_w, i32_w]
                         rfl
                        refine pure_ (i := 18) (N := some 108) (v := ?_) (a' := ?_) #[true, true, true, true, true, true, true, true, true, true, true, true, true, true, true, true, true, true, true, false, false, false, false, false, false, false, false, false, false, false, false, false, false, false, false, false, false, false, false, false, false] rfl rfl (any_of HT_.out (by kernel_rfl)) (fun _ _ _ h => h) (Or.inl ⟨by rfl, ?_⟩) ?_ ?_
                        rotate_left
                        ·
                         intro w'
                         go_simp
                         with_reducible rfl
                        rotate_left
                        ·
                         simp only [Act.put, List.setIfInBounds_toArray, List.set_cons_zero, List.set_cons_succ, i64_w, i32_w]
                         rfl
                        refine pure_ (i := 20) (N := some 110) (v := ?_) (a' := ?_) #[true, true, true, true, true, true, true, true, true, true, true, true, true, true, true, true, true, true, true, false, true, false, false, false, false, false, false, false, false, false, false, false, false, false, false, false, false, false, false, false, false] rfl rfl (any_of HT_.out (by kernel_rfl)) (fun _ _ _ h => h) (Or.inl ⟨by rfl, ?_⟩) ?_ ?_
                        rotate_left
                        ·
                         intro w'
                         go_simp
                         with_reducible rfl
                        rotate_left
                        ·
                         simp only [Act.put, List.setIfInBounds_toArray, List.set_cons_zero, List.set_cons_succ, i64_w, i32_w]
                         rfl
                        refine pure_ (i := 21) (N := some 111) (v := ?_) (a' := ?_) #[true, true, true, true, true, true, true, true, true, true, true, true, true, true, true, true, true, true, true, false, true, true, false, false, false, false, false, false, false, false, false, false, false, false, false, false, false, false, false, false, false] rfl rfl (any_of HT_.out (by kernel_rfl)) (fun _ _ _ h => h) (Or.inl ⟨by rfl, ?_⟩) ?_ ?_
                        rotate_left
                        ·
                         intro w'
                         go_simp
                         with_reducible rfl
                        rotate_left
                        ·
                         simp only [Act.put, List.setIfInBounds_toArray, List.set_cons_zero, List.set_cons_succ, i64_w, i32_w]
                         rfl
                        refine pure_ (i := 22) (N := some 112) (v := ?_) (a' := ?_) #[true, true, true, true, true, true, true, true, true, true, true, true, true, true, true, true, true, true, true, false, true, true, true, false, false, false, false, false, false, false, false, false, false, false, false, false, false, false, false, false, false] rfl rfl (any_of HT_.out (by kernel_rfl)) (fun _ _ _ h => h) (Or.inl ⟨by rfl, ?_⟩) ?_ ?_
                        rotate_left
                        ·
                         intro w'
                         go_simp
                         with_reducible rfl
                        rotate_left
                        ·
                         simp only [Act.put, List.setIfInBounds_toArray, List.set_cons_zero, List.set_cons_succ, i64_w, i32_w]
                         rfl
                        refine pure_ (i := 24) (N := some 114) (v := ?_) (a' := ?_) #[true, true, true, true, true, true, true, true, true, true, true, true, true, true, true, true, true, true, true, false, true, true, true, false, true, false, false, false, false, false, false, false, false, false, false, false, false, false, false, false, false] rfl rfl (any_of HT_.out (by kernel_rfl)) (fun _ _ _ h => h) (Or.inl ⟨by rfl, ?_⟩) ?_ ?_
                        rotate_left
                        ·
                         intro w'
                         go_simp
                         with_reducible rfl
                        rotate_left
                        ·
                         simp only [Act.put, List.setIfInBounds_toArray, List.set_cons_zero, List.set_cons_succ, i64_w, i32_w]
                         rfl
                        refine pure_ (i := 25) (N := some 115) (v := ?_) (a' := ?_) #[true, true, true, true, true, true, true, true, true, true, true, true, true, true, true, true, true, true, true, false, true, true, true, false, true, true, false, false, false, false, false, false, false, false, false, false, false, false, false, false, false] rfl rfl (any_of HT_.out (by kernel_rfl)) (fun _ _ _ h => h) (Or.inl ⟨by rfl, ?_⟩) ?_ ?_
                        rotate_left
                        ·
                         intro w'
                         go_simp
                         with_reducible rfl
                        rotate_left
                        ·
                         simp only [Act.put, List.setIfInBounds_toArray, List.set_cons_zero, List.set_cons_succ, i64_w, i32_w]
                         rfl
                        refine pure_ (i := 26) (N := some 116) (v := ?_) (a' := ?_) #[true, true, true, true, true, true, true, true, true, true, true, true, true, true, true, true, true, true, true, false, true, true, true, false, true, true, true, false, false, false, false, false, false, false, false, false, false, false, false, false, false] rfl rfl (any_of HT_.out (by kernel_rfl)) (fun _ _ _ h => h) (Or.inl ⟨by rfl, ?_⟩) ?_ ?_
                        rotate_left
                        ·
                         intro w'
                         go_simp
                         with_reducible rfl
                        rotate_left
                        ·
                         simp only [Act.put, List.setIfInBounds_toArray, List.set_cons_zero, List.set_cons_succ, i64_w, i32_w]
                         rfl
                        refine one_ (i := 19) (N := some 109) #[true, true, true, true, true, true, true, true, true, true, true, true, true, true, true, true, true, true, true, true, true, true, true, false, true, true, true, false, false, false, false, false, false, false, false, false, false, false, false, false, false] rfl rfl (one_of HT_.out (by kernel_rfl)) (by decide) (fun K hK => ?_)
                        refine Kd.R_lit_step k25 _ 25 ?hg (N := 109) ?hd (xs := ([] : List (S25))) (inner := []) (ok := fun _ => True) (okp := fun _ => True) ?hr ?hp (fun _ hk => hk) trivial (Below.refl _ _) (Nat.le_refl _) (by simp) ?_; (case hd => rfl); (case hg => rfl); (case hr => first | (go_simp; done) | (go_simp; rfl)); (case hp => exact (Reps.none _ _))
                        intro v312 w113 ho114 hb hg_ hnew_
                        clear hg_ hnew_
                        (first | rw [← Ny311.out] at ho114 | (simp only [Int.reduceToNat] at ho114; rw [← Ny311.out] at ho114))
                        have n0_ := Aside0.mk (Kd.R_elder' (by (with_reducible repeat (first | apply Kd.R_alloc | apply Kd.R_drewN | apply Kd.R_drew)); exact HO_5.out) (Kd.R_base ho114) hb)
                        have n1_ := Aside0.mk (Kd.R_elder' (by (with_reducible repeat (first | apply Kd.R_alloc | apply Kd.R_drewN | apply Kd.R_drew)); exact HO_7.out) (Kd.R_base ho114) hb)
                        have n2_ := Aside0.mk (Kd.R_elder' (by (with_reducible repeat (first | apply Kd.R_alloc | apply Kd.R_drewN | apply Kd.R_drew)); exact HO306.out) (Kd.R_base ho114) hb)
                        have n3_ := Aside0.mk (Kd.R_elder' (by (with_reducible repeat (first | apply Kd.R_alloc | apply Kd.R_drewN | apply Kd.R_drew)); exact HO309.out) (Kd.R_base ho114) hb)
                        have n4_ := Aside0.mk (Kd.R_lower (Kd.R_new' (Kd.R_new' (Kd.R_new' (Kd.R_new' ho114 (Kd.R_lt (by (with_reducible repeat (first | apply Kd.R_alloc | apply Kd.R_drewN | apply Kd.R_drew)); exact HO_5.out))) (Kd.R_lt (by (with_reducible repeat (first | apply Kd.R_alloc | apply Kd.R_drewN | apply Kd.R_drew)); exact HO_7.out))) (Kd.R_lt (by (with_reducible repeat (first | apply Kd.R_alloc | apply Kd.R_drewN | apply Kd.R_drew)); exact HO306.out))) (Kd.R_lt (by (with_reducible repeat (first | apply Kd.R_alloc | apply Kd.R_drewN | apply Kd.R_drew)); exact HO309.out))) (below_size (by repeat (first | (with_reducible first | exact HB.out | apply below_alloc | apply pw_below_drewN | apply below_drew1) | exact HB.out))))
                        have n5_ := Aside0.mk (below_step (by repeat (first | (with_reducible first | exact HB.out | apply below_alloc | apply pw_below_drewN | apply below_drew1) | exact HB.out)) hb)
                        clear HO_5
                        clear HO_7
                        clear HO306
                        clear HO309
                        clear HB
                        have HO_5 := n0_
                        have HO_7 := n1_
                        have HO306 := n2_
                        have HO309 := n3_
                        have HO313 := n4_
                        have HB := n5_
                        clear n0_ n1_ n2_ n3_ n4_ n5_
                        clear hb ho114
                        refine hK.out _ _ trivial (fun hHeld => ?_)
                        clear hK K
                        refine norm_ (a' := ?_) ?_ ?_
                        rotate_left
                        ·
                         show Act.put _ (some 109) _ = _
                         simp only [Act.put, List.setIfInBounds_toArray, List.set_cons_zero, List.set_cons_succ, i64_w, i32_w]
                         rfl
                        refine one_ (i := 23) (N := some 113) #[true, true, true, true, true, true, true, true, true, true, true, true, true, true, true, true, true, true, true, true, true, true, true, true, true, true, true, false, false, false, false, false, false, false, false, false, false, false, false, false, false] rfl rfl (one_of HT_.out (by kernel_rfl)) (by decide) (fun K hK => ?_)
                        refine Kd.R_append_rows_step k25 (w0 := w) w.heap.size (by rfl) (.tmp 109) (.tmp 112) 31 25 (.agg #[(.int .u8 0), (.int .u8 0), (.int .u8 0), (.int .u8 0), (.int .u8 0), (.int .u8 0), (.int .u8 0), (.int .u8 0), (.int .u8 0), (.int .u8 0), (.int .u8 0), (.int .u8 0), (.int .u8 0), (.int .u8 0), (.int .u8 0), (.int .u8 0), (.int .u8 0), (.int .u8 0), (.int .u8 0), (.int .u8 0), (.int .u8 0), (.int .u8 0), (.int .u8 0), (.int .u8 0), (.int .u8 0), (.int .u8 0), (.int .u8 0), (.int .u8 0), (.int .u8 0), (.int .u8 0), (.int .u8 0), (.int .u8 0), (.int .i64 0)]) 40 rfl Tryd.underlying31 info25 rfl (by decide) (by omega) v312 y311 y314 _ _ _ (fun k_ => some k_ ≠ (.slice Ao65 t267.length co65 : Value).ownBlock ∧ some k_ ≠ (.slice Ao108 t288.length co108 : Value).ownBlock ∧ some k_ ≠ (.slice Ao110 t304.length co110 : Value).ownBlock ∧ some k_ ≠ (.slice Ao112 t307.length co112 : Value).ownBlock) (fun _ => False) rfl rfl ?aO ?aR (fun _ _ h => h) (fun _ h => h.elim) ?aF ?aB ?aS ?aL ?_
                        (case aR => repeat (first | exact (Kd.C_below HR317.out HB.out) | (with_reducible refine Kd.C_alloc ?_ _) | (with_reducible refine Kd.C_drewN ?_ _) | (with_reducible refine Kd.C_drew ?_)))
                        (case aB => exact (by repeat (first | (with_reducible first | exact HB.out | apply below_alloc | apply pw_below_drewN | apply below_drew1) | exact HB.out)))
                        (case aF => exact (fun k_ hk => ⟨Kd.fresh' (Kd.R_lt (by (with_reducible repeat (first | apply Kd.R_alloc | apply Kd.R_drewN | apply Kd.R_drew)); exact HO_5.out)) k_ hk, Kd.fresh' (Kd.R_lt (by (with_reducible repeat (first | apply Kd.R_alloc | apply Kd.R_drewN | apply Kd.R_drew)); exact HO_7.out)) k_ hk, Kd.fresh' (Kd.R_lt (by (with_reducible repeat (first | apply Kd.R_alloc | apply Kd.R_drewN | apply Kd.R_drew)); exact HO306.out)) k_ hk, Kd.fresh' (Kd.R_lt (by (with_reducible repeat (first | apply Kd.R_alloc | apply Kd.R_drewN | apply Kd.R_drew)); exact HO309.out)) k_ hk⟩))
                        (case aO => exact (by (with_reducible repeat (first | apply Kd.R_alloc | apply Kd.R_drewN | apply Kd.R_drew)); exact Kd.R_mono HO313.out (fun _ hk => ⟨hk.1.1.1.2, ⟨hk.1.1.2, ⟨hk.1.2, hk.2⟩⟩⟩)))
                        (case aS => exact (below_size (by repeat (first | (with_reducible first | exact HB.out | apply below_alloc | apply pw_below_drewN | apply below_drew1) | exact HB.out))))
                        (case aL => have := LMc81.out; omega)
                        intro v319 w116 ho hb hg hat
                        rw [← Ny318.out] at ho
                        have n0_ := Aside0.mk (Kd.R_after (ok := (fun k_ => some k_ ≠ (.slice Ao108 t288.length co108 : Value).ownBlock ∧ some k_ ≠ (.slice Ao110 t304.length co110 : Value).ownBlock ∧ some k_ ≠ (.slice Ao112 t307.length co112 : Value).ownBlock)) (by (with_reducible repeat (first | apply Kd.R_alloc | apply Kd.R_drewN | apply Kd.R_drew)); exact Kd.R_mono HO_5.out (fun _ hk => ⟨⟨hk.1.1.1, ⟨hk.1.1.2, hk.1.2⟩⟩, hk.2⟩)) hg hat)
                        have n1_ := Aside0.mk (Kd.R_after (ok := (fun k_ => some k_ ≠ (.slice Ao65 t267.length co65 : Value).ownBlock ∧ some k_ ≠ (.slice Ao110 t304.length co110 : Value).ownBlock ∧ some k_ ≠ (.slice Ao112 t307.length co112 : Value).ownBlock)) (by (with_reducible repeat (first | apply Kd.R_alloc | apply Kd.R_drewN | apply Kd.R_drew)); exact Kd.R_mono HO_7.out (fun _ hk => ⟨⟨hk.1.1.1, ⟨hk.1.1.2, hk.1.2⟩⟩, hk.2⟩)) hg hat)
                        have n2_ := Aside0.mk (Kd.R_after (ok := (fun k_ => some k_ ≠ (.slice Ao65 t267.length co65 : Value).ownBlock ∧ some k_ ≠ (.slice Ao108 t288.length co108 : Value).ownBlock ∧ some k_ ≠ (.slice Ao112 t307.length co112 : Value).ownBlock)) (by (with_reducible repeat (first | apply Kd.R_alloc | apply Kd.R_drewN | apply Kd.R_drew)); exact Kd.R_mono HO306.out (fun _ hk => ⟨⟨hk.1.1.1.2, ⟨hk.1.1.2, hk.1.2⟩⟩, hk.2⟩)) hg hat)
                        have n3_ := Aside0.mk (Kd.R_after (ok := (fun k_ => some k_ ≠ (.slice Ao65 t267.length co65 : Value).ownBlock ∧ some k_ ≠ (.slice Ao108 t288.length co108 : Value).ownBlock ∧ some k_ ≠ (.slice Ao110 t304.length co110 : Value).ownBlock)) (by (with_reducible repeat (first | apply Kd.R_alloc | apply Kd.R_drewN | apply Kd.R_drew)); exact Kd.R_mono HO309.out (fun _ hk => ⟨⟨hk.1.1.1.2, ⟨hk.1.1.2, hk.1.2⟩⟩, hk.2⟩)) hg hat)
                        have n4_ := Aside0.mk (hb)
                        have n5_ := Aside0.mk (ho)
                        clear HO_5
                        clear HO_7
                        clear HO306
                        clear HO309
                        clear HB
                        clear HO313
                        have HO_5 := n0_
                        have HO_7 := n1_
                        have HO306 := n2_
                        have HO309 := n3_
                        have HB := n4_
                        have HO320 := n5_
                        clear n0_ n1_ n2_ n3_ n4_ n5_
                        clear ho hb hg hat
                        refine hK.out _ _ trivial (fun hHeld => ?_)
                        clear hK K
                        refine norm_ (a' := ?_) ?_ ?_
                        rotate_left
                        ·
                         show Act.put _ (some 113) _ = _
                         simp only [Act.put, List.setIfInBounds_toArray, List.set_cons_zero, List.set_cons_succ, i64_w, i32_w]
                         rfl
                        refine one_ (i := 27) (N := some 117) #[true, true, true, true, true, true, true, true, true, true, true, true, true, true, true, true, true, true, true, true, true, true, true, true, true, true, true, true, false, false, false, false, false, false, false, false, false, false, false, false, false] rfl rfl (one_of HT_.out (by kernel_rfl)) (by decide) (fun K hK => ?_)
                        refine Kd.R_append_rows_step k25 (w0 := w) w.heap.size (by rfl) (.tmp 113) (.tmp 116) 31 25 (.agg #[(.int .u8 0), (.int .u8 0), (.int .u8 0), (.int .u8 0), (.int .u8 0), (.int .u8 0), (.int .u8 0), (.int .u8 0), (.int .u8 0), (.int .u8 0), (.int .u8 0), (.int .u8 0), (.int .u8 0), (.int .u8 0), (.int .u8 0), (.int .u8 0), (.int .u8 0), (.int .u8 0), (.int .u8 0), (.int .u8 0), (.int .u8 0), (.int .u8 0), (.int .u8 0), (.int .u8 0), (.int .u8 0), (.int .u8 0), (.int .u8 0), (.int .u8 0), (.int .u8 0), (.int .u8 0), (.int .u8 0), (.int .u8 0), (.int .i64 0)]) 40 rfl Tryd.underlying31 info25 rfl (by decide) (by omega) v319 y318 y321 _ _ _ (fun k_ => some k_ ≠ (.slice Ao65 t267.length co65 : Value).ownBlock ∧ some k_ ≠ (.slice Ao108 t288.length co108 : Value).ownBlock ∧ some k_ ≠ (.slice Ao110 t304.length co110 : Value).ownBlock ∧ some k_ ≠ (.slice Ao112 t307.length co112 : Value).ownBlock) (fun _ => False) rfl rfl ?aO ?aR (fun _ _ h => h) (fun _ h => h.elim) ?aF ?aB ?aS ?aL ?_
                        (case aR => repeat (first | exact (Kd.C_below HR324.out HB.out) | (with_reducible refine Kd.C_alloc ?_ _) | (with_reducible refine Kd.C_drewN ?_ _) | (with_reducible refine Kd.C_drew ?_)))
                        (case aB => exact (by repeat (first | (with_reducible first | exact HB.out | apply below_alloc | apply pw_below_drewN | apply below_drew1) | exact HB.out)))
                        (case aF => exact (fun k_ hk => ⟨Kd.fresh' (Kd.R_lt (by (with_reducible repeat (first | apply Kd.R_alloc | apply Kd.R_drewN | apply Kd.R_drew)); exact HO_5.out)) k_ hk, Kd.fresh' (Kd.R_lt (by (with_reducible repeat (first | apply Kd.R_alloc | apply Kd.R_drewN | apply Kd.R_drew)); exact HO_7.out)) k_ hk, Kd.fresh' (Kd.R_lt (by (with_reducible repeat (first | apply Kd.R_alloc | apply Kd.R_drewN | apply Kd.R_drew)); exact HO306.out)) k_ hk, Kd.fresh' (Kd.R_lt (by (with_reducible repeat (first | apply Kd.R_alloc | apply Kd.R_drewN | apply Kd.R_drew)); exact HO309.out)) k_ hk⟩))
                        (case aO => exact (by (with_reducible repeat (first | apply Kd.R_alloc | apply Kd.R_drewN | apply Kd.R_drew)); exact HO320.out))
                        (case aS => exact (below_size (by repeat (first | (with_reducible first | exact HB.out | apply below_alloc | apply pw_below_drewN | apply below_drew1) | exact HB.out))))
                        (case aL => have := LMc84.out; omega)
                        intro v326 w118 ho hb hg hat
                        rw [← Ny325.out] at ho
                        have n0_ := Aside0.mk (Kd.R_after (ok := (fun k_ => some k_ ≠ (.slice Ao108 t288.length co108 : Value).ownBlock ∧ some k_ ≠ (.slice Ao110 t304.length co110 : Value).ownBlock ∧ some k_ ≠ (.slice Ao112 t307.length co112 : Value).ownBlock)) (by (with_reducible repeat (first | apply Kd.R_alloc | apply Kd.R_drewN | apply Kd.R_drew)); exact HO_5.out) hg hat)
                        have n1_ := Aside0.mk (Kd.R_after (ok := (fun k_ => some k_ ≠ (.slice Ao65 t267.length co65 : Value).ownBlock ∧ some k_ ≠ (.slice Ao110 t304.length co110 : Value).ownBlock ∧ some k_ ≠ (.slice Ao112 t307.length co112 : Value).ownBlock)) (by (with_reducible repeat (first | apply Kd.R_alloc | apply Kd.R_drewN | apply Kd.R_drew)); exact HO_7.out) hg hat)
                        have n2_ := Aside0.mk (Kd.R_after (ok := (fun k_ => some k_ ≠ (.slice Ao65 t267.length co65 : Value).ownBlock ∧ some k_ ≠ (.slice Ao108 t288.length co108 : Value).ownBlock ∧ some k_ ≠ (.slice Ao112 t307.length co112 : Value).ownBlock)) (by (with_reducible repeat (first | apply Kd.R_alloc | apply Kd.R_drewN | apply Kd.R_drew)); exact HO306.out) hg hat)
                        have n3_ := Aside0.mk (Kd.R_after (ok := (fun k_ => some k_ ≠ (.slice Ao65 t267.length co65 : Value).ownBlock ∧ some k_ ≠ (.slice Ao108 t288.length co108 : Value).ownBlock ∧ some k_ ≠ (.slice Ao110 t304.length co110 : Value).ownBlock)) (by (with_reducible repeat (first | apply Kd.R_alloc | apply Kd.R_drewN | apply Kd.R_drew)); exact HO309.out) hg hat)
                        have n4_ := Aside0.mk (hb)
                        have n5_ := Aside0.mk (ho)
                        clear HO_5
                        clear HO_7
                        clear HO306
                        clear HO309
                        clear HB
                        clear HO320
                        have HO_5 := n0_
                        have HO_7 := n1_
                        have HO306 := n2_
                        have HO309 := n3_
                        have HB := n4_
                        have HO327 := n5_
                        clear n0_ n1_ n2_ n3_ n4_ n5_
                        clear ho hb hg hat
                        obtain ⟨Ao119, co119, eo119⟩ := Kd.R_slice HO327.out
                        (first | subst eo119 | (injection eo119 with f1_ f2_ f3_; have f4_ := f1_.symm; have f5_ := f3_.symm; clear f1_ f2_ f3_; subst f4_; subst f5_))
                        refine hK.out _ _ trivial (fun hHeld => ?_)
                        clear hK K
                        refine norm_ (a' := ?_) ?_ ?_
                        rotate_left
                        ·
                         show Act.put _ (some 117) _ = _
                         simp only [Act.put, List.setIfInBounds_toArray, List.set_cons_zero, List.set_cons_succ, i64_w, i32_w]
                         rfl
                        refine one_ (i := 28) (N := some 118) #[true, true, true, true, true, true, true, true, true, true, true, true, true, true, true, true, true, true, true, true, true, true, true, true, true, true, true, true, true, false, false, false, false, false, false, false, false, false, false, false, false] rfl rfl (one_of HT_.out (by kernel_rfl)) (by decide) (fun K hK => ?_)
                        refine goes_ Tryd.func18 (by kernel_rfl) rfl #[.slice A0 l0.length c0, .slice Ao119 y325.length co119] (by rfl) rfl rfl (by (try simp only [List.map_toArray, List.map_cons, List.map_nil]); first | done | rfl | (simp only [List.length_drop, List.length_take]; rfl)) ?_
                        with_reducible refine (point_Alike.calls k3 _ _ l0 _ _ y325 true _ ?side1 ?side2 ?side3 ?side4 A85.out).mono ?_
                        (case side1 => repeat (first | exact (Kd.C_below HR0.out HB.out) | (with_reducible refine Kd.C_alloc ?_ _) | (with_reducible refine Kd.C_drewN ?_ _) | (with_reducible refine Kd.C_drew ?_)))
                        (case side2 => exact HC0.out)
                        (case side3 => repeat (first | exact (Kd.R_reads' HO327.out).2.2 | (with_reducible refine Kd.C_alloc ?_ _) | (with_reducible refine Kd.C_drewN ?_ _) | (with_reducible refine Kd.C_drew ?_)))
                        (case side4 => exact (Kd.R_reads' HO327.out).2.1)
                        rintro e w120 ⟨rfl, hb⟩
                        refine ⟨_, rfl, ?_⟩
                        have n0_ := Aside0.mk (Kd.R_below (by (with_reducible repeat (first | apply Kd.R_alloc | apply Kd.R_drewN | apply Kd.R_drew)); exact HO_5.out) hb)
                        have n1_ := Aside0.mk (Kd.R_below (by (with_reducible repeat (first | apply Kd.R_alloc | apply Kd.R_drewN | apply Kd.R_drew)); exact HO_7.out) hb)
                        have n2_ := Aside0.mk (Kd.R_below (by (with_reducible repeat (first | apply Kd.R_alloc | apply Kd.R_drewN | apply Kd.R_drew)); exact HO306.out) hb)
                        have n3_ := Aside0.mk (Kd.R_below (by (with_reducible repeat (first | apply Kd.R_alloc | apply Kd.R_drewN | apply Kd.R_drew)); exact HO309.out) hb)
                        have n4_ := Aside0.mk (Kd.R_below (by (with_reducible repeat (first | apply Kd.R_alloc | apply Kd.R_drewN | apply Kd.R_drew)); exact HO327.out) hb)
                        have n5_ := Aside0.mk (below_step (by repeat (first | (with_reducible first | exact HB.out | apply below_alloc | apply pw_below_drewN | apply below_drew1) | exact HB.out)) hb)
                        clear HO_5
                        clear HO_7
                        clear HO306
                        clear HO309
                        clear HO327
                        clear HB
                        have HO_5 := n0_
                        have HO_7 := n1_
                        have HO306 := n2_
                        have HO309 := n3_
                        have HO327 := n4_
                        have HB := n5_
                        clear n0_ n1_ n2_ n3_ n4_ n5_
                        (try clear hb)
                        (try clear hb2)
                        (try clear hk)
                        (try clear hi)
                        refine hK.out _ _ trivial (fun hHeld => ?_)
                        clear hK K
                        refine norm_ (a' := ?_) ?_ ?_
                        rotate_left
                        ·
                         show Act.put _ (some 118) _ = _
                         simp only [Act.put, List.setIfInBounds_toArray, List.set_cons_zero, List.set_cons_succ, i64_w, i32_w]
                         rfl
                        refine pure_ (i := 29) (N := some 119) (v := ?_) (a' := ?_) #[true, true, true, true, true, true, true, true, true, true, true, true, true, true, true, true, true, true, true, true, true, true, true, true, true, true, true, true, true, true, false, false, false, false, false, false, false, false, false, false, false] rfl rfl (any_of HT_.out (by kernel_rfl)) (fun _ _ _ h => h) (Or.inl ⟨by rfl, ?_⟩) ?_ ?_
                        rotate_left
                        ·
                         intro w'
                         go_simp
                         with_reducible rfl
                        rotate_left
                        ·
                         simp only [Act.put, List.setIfInBounds_toArray, List.set_cons_zero, List.set_cons_succ, i64_w, i32_w]
                         rfl
                        refine pure_ (i := 30) (N := some 120) (v := ?_) (a' := ?_) #[true, true, true, true, true, true, true, true, true, true, true, true, true, true, true, true, true, true, true, true, true, true, true, true, true, true, true, true, true, true, true, false, false, false, false, false, false, false, false, false, false] rfl rfl (any_of HT_.out (by kernel_rfl)) (fun _ _ _ h => h) (Or.inl ⟨by rfl, ?_⟩) ?_ ?_
                        rotate_left
                        ·
                         intro w'
                         go_simp
                         with_reducible rfl
                        rotate_left
                        ·
                         simp only [Act.put, List.setIfInBounds_toArray, List.set_cons_zero, List.set_cons_succ, i64_w, i32_w]
                         rfl
                        refine pure_ (i := 31) (N := some 121) (v := ?_) (a' := ?_) #[true, true, true, true, true, true, true, true, true, true, true, true, true, true, true, true, true, true, true, true, true, true, true, true, true, true, true, true, true, true, true, true, false, false, false, false, false, false, false, false, false] rfl rfl (any_of HT_.out (by kernel_rfl)) (fun _ _ _ h => h) (Or.inl ⟨by rfl, ?_⟩) ?_ ?_
                        rotate_left
                        ·
                         intro w'
                         go_simp
                         with_reducible rfl
                        rotate_left
                        ·
                         simp only [Act.put, List.setIfInBounds_toArray, List.set_cons_zero, List.set_cons_succ, i64_w, i32_w]
                         rfl
                        refine pure_ (i := 32) (N := some 122) (v := ?_) (a' := ?_) #[true, true, true, true, true, true, true, true, true, true, true, true, true, true, true, true, true, true, true, true, true, true, true, true, true, true, true, true, true, true, true, true, true, false, false, false, false, false, false, false, false] rfl rfl (any_of HT_.out (by kernel_rfl)) (fun _ _ _ h => h) (Or.inl ⟨by rfl, ?_⟩) ?_ ?_
                        rotate_left
                        ·
                         intro w'
                         go_simp
                         with_reducible rfl
                        rotate_left
                        ·
                         simp only [Act.put, List.setIfInBounds_toArray, List.set_cons_zero, List.set_cons_succ, i64_w, i32_w]
                         rfl
                        refine pure_ (i := 33) (N := some 123) (v := ?_) (a' := ?_) #[true, true, true, true, true, true, true, true, true, true, true, true, true, true, true, true, true, true, true, true, true, true, true, true, true, true, true, true, true, true, true, true, true, true, false, false, false, false, false, false, false] rfl rfl (any_of HT_.out (by kernel_rfl)) (fun _ _ _ h => h) (Or.inl ⟨by rfl, ?_⟩) ?_ ?_
                        rotate_left
                        ·
                         intro w'
                         go_simp
                         with_reducible rfl
                        rotate_left
                        ·
                         simp only [Act.put, List.setIfInBounds_toArray, List.set_cons_zero, List.set_cons_succ, i64_w, i32_w]
                         rfl
                        refine one_ (i := 34) (N := some 124) #[true, true, true, true, true, true, true, true, true, true, true, true, true, true, true, true, true, true, true, true, true, true, true, true, true, true, true, true, true, true, true, true, true, true, true, false, false, false, false, false, false] rfl rfl (one_of HT_.out (by kernel_rfl)) (by decide) (fun K hK => ?_)
                        refine goes_ Tryd.func18 (by kernel_rfl) rfl #[.slice A0 l0.length c0, .slice A121 y329.length c121] (by rfl) rfl rfl (by (try simp only [List.map_toArray, List.map_cons, List.map_nil]); first | done | rfl | (simp only [List.length_drop, List.length_take]; rfl)) ?_
                        with_reducible refine (point_Alike.calls k3 _ _ l0 _ _ y329 false _ ?side1 ?side2 ?side3 ?side4 A88.out).mono ?_
                        (case side1 => repeat (first | exact (Kd.C_below HR0.out HB.out) | (with_reducible refine Kd.C_alloc ?_ _) | (with_reducible refine Kd.C_drewN ?_ _) | (with_reducible refine Kd.C_drew ?_)))
                        (case side2 => exact HC0.out)
                        (case side3 => repeat (first | exact (Kd.C_below HR332.out HB.out) | (with_reducible refine Kd.C_alloc ?_ _) | (with_reducible refine Kd.C_drewN ?_ _) | (with_reducible refine Kd.C_drew ?_)))
                        (case side4 => exact HC332.out)
                        rintro e w122 ⟨rfl, hb⟩
                        refine ⟨_, rfl, ?_⟩
                        have n0_ := Aside0.mk (Kd.R_below (by (with_reducible repeat (first | apply Kd.R_alloc | apply Kd.R_drewN | apply Kd.R_drew)); exact HO_5.out) hb)
                        have n1_ := Aside0.mk (Kd.R_below (by (with_reducible repeat (first | apply Kd.R_alloc | apply Kd.R_drewN | apply Kd.R_drew)); exact HO_7.out) hb)
                        have n2_ := Aside0.mk (Kd.R_below (by (with_reducible repeat (first | apply Kd.R_alloc | apply Kd.R_drewN | apply Kd.R_drew)); exact HO306.out) hb)
                        have n3_ := Aside0.mk (Kd.R_below (by (with_reducible repeat (first | apply Kd.R_alloc | apply Kd.R_drewN | apply Kd.R_drew)); exact HO309.out) hb)
                        have n4_ := Aside0.mk (Kd.R_below (by (with_reducible repeat (first | apply Kd.R_alloc | apply Kd.R_drewN | apply Kd.R_drew)); exact HO327.out) hb)
                        have n5_ := Aside0.mk (below_step (by repeat (first | (with_reducible first | exact HB.out | apply below_alloc | apply pw_below_drewN | apply below_drew1) | exact HB.out)) hb)
                        clear HO_5
                        clear HO_7
                        clear HO306
                        clear HO309
                        clear HO327
                        clear HB
                        have HO_5 := n0_
                        have HO_7 := n1_
                        have HO306 := n2_
                        have HO309 := n3_
                        have HO327 := n4_
                        have HB := n5_
                        clear n0_ n1_ n2_ n3_ n4_ n5_
                        (try clear hb)
                        (try clear hb2)
                        (try clear hk)
                        (try clear hi)
                        refine hK.out _ _ trivial (fun hHeld => ?_)
                        clear hK K
                        refine norm_ (a' := ?_) ?_ ?_
                        rotate_left
                        ·
                         show Act.put _ (some 124) _ = _
                         simp only [Act.put, List.setIfInBounds_toArray, List.set_cons_zero, List.set_cons_succ, i64_w, i32_w]
                         rfl
                        refine pure_ (i := 35) (N := some 125) (v := ?_) (a' := ?_) #[true, true, true, true, true, true, true, true, true, true, true, true, true, true, true, true, true, true, true, true, true, true, true, true, true, true, true, true, true, true, true, true, true, true, true, true, false, false, false, false, false] rfl rfl (any_of HT_.out (by kernel_rfl)) (fun _ _ _ h => h) (Or.inl ⟨by rfl, ?_⟩) ?_ ?_
                        rotate_left
                        ·
                         intro w'
                         go_simp
                         with_reducible rfl
                        rotate_left
                        ·
                         simp only [Act.put, List.setIfInBounds_toArray, List.set_cons_zero, List.set_cons_succ, i64_w, i32_w]
                         rfl
                        refine pure_ (i := 36) (N := some 126) (v := ?_) (a' := ?_) #[true, true, true, true, true, true, true, true, true, true, true, true, true, true, true, true, true, true, true, true, true, true, true, true, true, true, true, true, true, true, true, true, true, true, true, true, true, false, false, false, false] rfl rfl (any_of HT_.out (by kernel_rfl)) (fun _ _ _ h => h) (Or.inl ⟨by rfl, ?_⟩) ?_ ?_
                        rotate_left
                        ·
                         intro w'
                         go_simp
                         with_reducible rfl
                        rotate_left
                        ·
                         simp only [Act.put, List.setIfInBounds_toArray, List.set_cons_zero, List.set_cons_succ, i64_w, i32_w]
                         rfl
                        refine pure_ (i := 37) (N := some 127) (v := ?_) (a' := ?_) #[true, true, true, true, true, true, true, true, true, true, true, true, true, true, true, true, true, true, true, true, true, true, true, true, true, true, true, true, true, true, true, true, true, true, true, true, true, true, false, false, false] rfl rfl (any_of HT_.out (by kernel_rfl)) (fun _ _ _ h => h) (Or.inl ⟨by rfl, ?_⟩) ?_ ?_
                        rotate_left
                        ·
                         intro w'
                         go_simp
                         with_reducible rfl
                        rotate_left
                        ·
                         simp only [Act.put, List.setIfInBounds_toArray, List.set_cons_zero, List.set_cons_succ, i64_w, i32_w]
                         rfl
                        refine one_ (i := 38) (N := some 128) #[true, true, true, true, true, true, true, true, true, true, true, true, true, true, true, true, true, true, true, true, true, true, true, true, true, true, true, true, true, true, true, true, true, true, true, true, true, true, true, false, false] rfl rfl (one_of HT_.out (by kernel_rfl)) (by decide) (fun K hK => ?_)
                        refine goes_ Tryd.func7 (by kernel_rfl) rfl #[] (by rfl) rfl rfl (by (try simp only [List.map_toArray, List.map_cons, List.map_nil]); first | done | rfl | (simp only [List.length_drop, List.length_take]; rfl)) ?_
                        with_reducible refine (coraclelaw3_awake.calls  t334 _ A106.out).mono ?_
                        rintro e w123 ⟨rfl, hb⟩
                        refine ⟨_, rfl, ?_⟩
                        have n0_ := Aside0.mk (Kd.R_below (by (with_reducible repeat (first | apply Kd.R_alloc | apply Kd.R_drewN | apply Kd.R_drew)); exact HO_5.out) hb)
                        have n1_ := Aside0.mk (Kd.R_below (by (with_reducible repeat (first | apply Kd.R_alloc | apply Kd.R_drewN | apply Kd.R_drew)); exact HO_7.out) hb)
                        have n2_ := Aside0.mk (Kd.R_below (by (with_reducible repeat (first | apply Kd.R_alloc | apply Kd.R_drewN | apply Kd.R_drew)); exact HO306.out) hb)
                        have n3_ := Aside0.mk (Kd.R_below (by (with_reducible repeat (first | apply Kd.R_alloc | apply Kd.R_drewN | apply Kd.R_drew)); exact HO309.out) hb)
                        have n4_ := Aside0.mk (Kd.R_below (by (with_reducible repeat (first | apply Kd.R_alloc | apply Kd.R_drewN | apply Kd.R_drew)); exact HO327.out) hb)
                        have n5_ := Aside0.mk (below_step (by repeat (first | (with_reducible first | exact HB.out | apply below_alloc | apply pw_below_drewN | apply below_drew1) | exact HB.out)) hb)
                        clear HO_5
                        clear HO_7
                        clear HO306
                        clear HO309
                        clear HO327
                        clear HB
                        have HO_5 := n0_
                        have HO_7 := n1_
                        have HO306 := n2_
                        have HO309 := n3_
                        have HO327 := n4_
                        have HB := n5_
                        clear n0_ n1_ n2_ n3_ n4_ n5_
                        (try clear hb)
                        (try clear hb2)
                        (try clear hk)
                        (try clear hi)
                        refine hK.out _ _ trivial (fun hHeld => ?_)
                        clear hK K
                        refine norm_ (a' := ?_) ?_ ?_
                        rotate_left
                        ·
                         show Act.put _ (some 128) _ = _
                         simp only [Act.put, List.setIfInBounds_toArray, List.set_cons_zero, List.set_cons_succ, i64_w, i32_w]
                         rfl
                        refine pure_ (i := 39) (N := some 129) (v := ?_) (a' := ?_) #[true, true, true, true, true, true, true, true, true, true, true, true, true, true, true, true, true, true, true, true, true, true, true, true, true, true, true, true, true, true, true, true, true, true, true, true, true, true, true, true, false] rfl rfl (any_of HT_.out (by kernel_rfl)) (fun _ _ _ h => h) (Or.inl ⟨by rfl, ?_⟩) ?_ ?_
                        rotate_left
                        ·
                         intro w'
                         go_simp
                         with_reducible rfl
                        rotate_left
                        ·
                         simp only [Act.put, List.setIfInBounds_toArray, List.set_cons_zero, List.set_cons_succ, i64_w, i32_w]
                         rfl
                        refine pure_ (i := 40) (N := some 4) (v := ?_) (a' := ?_) #[true, true, true, true, true, true, true, true, true, true, true, true, true, true, true, true, true, true, true, true, true, true, true, true, true, true, true, true, true, true, true, true, true, true, true, true, true, true, true, true, true] rfl rfl (any_of HT_.out (by kernel_rfl)) (fun _ _ _ h => h) (Or.inl ⟨by rfl, ?_⟩) ?_ ?_
                        rotate_left
                        ·
                         intro w'
                         go_simp
                         with_reducible rfl
                        rotate_left
                        ·
                         simp only [Act.put, List.setIfInBounds_toArray, List.set_cons_zero, List.set_cons_succ, i64_w, i32_w]
                         rfl
                        refine done_ (done_of HT_.out (by kernel_rfl)) ?_
                        try go_wp2
                        go_ret
                        exact ⟨by first | rfl | (simp [errW_none, errW_some] <;> rfl) | (simp [*, errW_none, errW_some] <;> rfl), by repeat (first | (with_reducible first | exact HB.out | apply below_alloc | apply pw_below_drewN | apply below_drew1) | exact HB.out)⟩
                      ·
                       rw [if_neg c87] at H
                       exact absurd H (by simp)
                     ·
                      replace c86 := Bool.eq_false_iff.mpr c86
                      subst c86
                      have H1 : (some false) = some r := by rw [if_neg (show ¬ (false = true) by decide)] at H; exact H
                      exact absurd (H1.trans (congrArg some HTOLD.out)) (by decide)
                    ·
                     rw [if_neg c84] at H
                     exact absurd H (by simp)
                   ·
                    rw [if_neg c81] at H
                    exact absurd H (by simp)
                  ·
                   rw [if_neg c80] at H
                   exact absurd H (by simp)
                 ·
                  rw [if_neg c79] at H
                  exact absurd H (by simp)
                ·
                 replace c78 := Bool.eq_false_iff.mpr c78
                 subst c78
                 have H1 : (some false) = some r := by rw [if_neg (show ¬ (false = true) by decide)] at H; exact H
                 exact absurd (H1.trans (congrArg some HTOLD.out)) (by decide)
               ·
                rw [if_neg c75] at H
                exact absurd (H.trans (congrArg some HTOLD.out)) (by decide)
              ·
               replace c73 := Bool.eq_false_iff.mpr c73
               subst c73
               have H1 : (some false) = some r := by rw [if_neg (show ¬ (false = true) by decide)] at H; exact H
               exact absurd (H1.trans (congrArg some HTOLD.out)) (by decide)
       ·
        rw [if_neg c15] at H
        exact absurd H (by simp)
      ·
       rw [if_neg c12] at H
       exact absurd H (by simp)
     ·
      rw [if_neg c11] at H
      exact absurd H (by simp)
    ·
     rw [if_neg c10] at H
     exact absurd H (by simp)

end Go.Proofs.YtmoecidfmgeafaaDoor.QPnt
