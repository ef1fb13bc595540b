/- Functions of the program as plain Lean functions, and that its calls come to what these tell: written by a program of this session; Lean checks it. -/
import Derived.Test.YtiodebjjbgcbhaaQRepx0
import Derived.Test.YtiodebjjbgcbhaaQRepx1
namespace Go.Proofs.Ytiodebjjbgcbhaa.QRep
open Go.RowKit Go.Proofs.YtiodebjjbgcbhaaW.PrintWords Go.Proofs.YtiodebjjbgcbhaaW.PrintLast Go.Proofs.YtiodebjjbgcbhaaW.PrintMore
attribute [local go_sem] max2_int min2_int max_two min_two max_three min_three max_four min_four  run_fop run_feq run_fne run_flt run_fle run_fgt run_fge run_fint run_toi run_real' run_imag' run_complex' run_ceq run_cne run_cadd run_csub run_cmul Go.Proofs.Ytiodebjjbgcbhaa.Wide.cellsAt_drewN Go.Proofs.Ytiodebjjbgcbhaa.Wide.cellsAt_drew Go.Proofs.Ytiodebjjbgcbhaa.Wide.lw32 Go.Proofs.Ytiodebjjbgcbhaa.Wide.lw33 Go.Proofs.Ytiodebjjbgcbhaa.Wide.lw37 Go.Proofs.Ytiodebjjbgcbhaa.Wide.lw38 Go.Proofs.Ytiodebjjbgcbhaa.Wide.lw39 Go.Proofs.Ytiodebjjbgcbhaa.Wide.lw44
attribute [local go_sem ↓ high] Go.Proofs.Ytiodebjjbgcbhaa.Wide.hv32 Go.Proofs.Ytiodebjjbgcbhaa.Wide.hv33 Go.Proofs.Ytiodebjjbgcbhaa.Wide.hv37 Go.Proofs.Ytiodebjjbgcbhaa.Wide.hv38 Go.Proofs.Ytiodebjjbgcbhaa.Wide.hv39 Go.Proofs.Ytiodebjjbgcbhaa.Wide.hv44
set_option linter.unusedVariables false
set_option linter.unusedSimpArgs false

attribute [local go_sem high] eqA34
/-! ### coraclelaw18_batches: function 10 -/
def coraclelaw18_batches.l0 : Nat → List (S30) → List (S39) → Int → Option ((List (S39)))
  | 0, _, _, _ => none
  | k + 1, x0, x3, x4 => if x4 < (x0.length : Int) then (if 0 ≤ x4 then (if x3.length < 1954687338268 then (coraclelaw18_batches.l0 k x0 (x3 ++ [(⟨(⟨(rd_T30 x0 x4).f0.f0, (rd_T30 x0 x4).f0.f1, (rd_T30 x0 x4).f0.f2⟩ : S28), (rd_T30 x0 x4).f1, (rd_T30 x0 x4).f2⟩ : S39)]) (wrap64 (x4 + 1))) else (none)) else (none)) else (some x3)
def coraclelaw18_batches.f (k : Nat) (l0 : List (S30)) : Option ((List (S39))) := coraclelaw18_batches.l0 k l0 ([] : List (S39)) 0
theorem coraclelaw18_batches.mono_l : ∀ k, (∀ y0 y1 y2, LeO (coraclelaw18_batches.l0 k y0 y1 y2) (coraclelaw18_batches.l0 (k + 1) y0 y1 y2))
  | 0 => fun _ _ _ r h => by simp [coraclelaw18_batches.l0] at h
  | k + 1 => by
    have ih0 := coraclelaw18_batches.mono_l k
    · intro y0 y1 y2
      unfold coraclelaw18_batches.l0
      repeat' first
      | (with_reducible exact ih0 _ _ _)
      | (with_reducible exact LeO.refl _)
      | (with_reducible exact LeO.none _)
      | (with_reducible refine LeO.ite ?_ ?_)
      | (with_reducible refine LeO.bind ?_ (fun _ => ?_))
      | exact ih0 _ _ _
      | exact LeO.none _
      | refine LeO.ite ?_ ?_
      | refine LeO.bind ?_ (fun _ => ?_)
theorem coraclelaw18_batches.mono : ∀ a0 k, LeO (coraclelaw18_batches.f k a0) (coraclelaw18_batches.f (k + 1) a0) := by
  intro a0 k
  have ih0 := coraclelaw18_batches.mono_l k
  unfold coraclelaw18_batches.f
  repeat' first
      | (with_reducible exact ih0 _ _ _)
      | (with_reducible exact LeO.refl _)
      | (with_reducible exact LeO.none _)
      | (with_reducible refine LeO.ite ?_ ?_)
      | (with_reducible refine LeO.bind ?_ (fun _ => ?_))
      | exact ih0 _ _ _
      | exact LeO.none _
      | refine LeO.ite ?_ ?_
      | refine LeO.bind ?_ (fun _ => ?_)
def coraclelaw18_batches.T5 : Bool × List (List Nat × List Nat) := (true, [([], []), ([], []), ([], []), ([1, 2], [1, 2]), ([3], [3]), ([4], [4]), ([], []), ([], []), ([6, 7], [6, 7]), ([8], [8]), ([9], [9]), ([], []), ([], []), ([11, 12], [11, 12]), ([13], [13]), ([14], [14]), ([5, 10, 15], [5, 10, 15]), ([16], [16]), ([0, 17], [0, 17]), ([18, 18, 0, 1, 2, 3, 4, 5, 6, 7, 8, 9, 10, 11, 12, 13, 14, 15, 16, 17, 18], [0, 18])])
def coraclelaw18_batches.B5 : List Nat := [0, 0, 0, 6, 14, 30, 0, 0, 192, 448, 960, 0, 0, 6144, 14336, 30720, 65534, 131070, 262143, 524287]
theorem coraclelaw18_batches.tab5 : rtab .any (opsOf Try.f10 5) = coraclelaw18_batches.T5 := by kernel_rfl
theorem coraclelaw18_batches.bits5 : waitsOk coraclelaw18_batches.T5.2 coraclelaw18_batches.B5 = true := by kernel_rfl
set_option maxHeartbeats 8000000 in
set_option maxRecDepth 100000 in
theorem coraclelaw18_batches.calls (k : Nat) (P0_ : Nat → Prop) (A0 : Option Addr) (c0 : Nat) (l0 : List (S30)) (r : List (S39)) (w : World) (hs0 : Kd.V k30 30 w w.heap.size (fun k_ => P0_ k_) (.slice A0 l0.length c0) l0) (h : coraclelaw18_batches.f k l0 = some r) :
  Calls Try.prog 10 #[.slice A0 l0.length c0] w fun e w' => ∃ v0_ : Value, e = .returned (v0_) ∧ Kd.N k39 39 w' w.heap.size (fun k_ => (P0_ k_ ∨ w.heap.size ≤ k_)) v0_ r ∧ Below w.heap.size w w' := by
 have hu28 := Try.underlying28
 have hu39 := Try.underlying39
 have HO0 := Aside0.mk (show Kd.V k30 30 w w.heap.size (fun k_ => (P0_ k_ ∨ w.heap.size ≤ k_)) (.slice A0 l0.length c0) l0 from Kd.V_mono hs0 (fun k_ hk => .inl hk))
 have HB := Aside0.mk (Below.refl w.heap.size w)
 have H : (coraclelaw18_batches.l0 k l0 ([] : List (S39)) 0) = some r := h
 clear h
 have H' := Aside0.mk H
 clear H
 go_enter Try.func10, Try.ntmps10
 go_wp2
 go_loopg [3, 4] k (fun kq v3 v4 w' => ∃ (x3_1 : List (S39)) (x4_1 : Int), v4 = .int .i64 x4_1 ∧ Aside0 (coraclelaw18_batches.l0 kq l0 x3_1 x4_1 = some r) ∧ Aside0 (kq ≤ k) ∧ Aside0 (Kd.V k30 30 w' w.heap.size (fun k_ => (P0_ k_ ∨ w.heap.size ≤ k_) ∧ some k_ ≠ (v3 : Value).ownBlock) (.slice A0 l0.length c0) l0) ∧ Aside0 (Kd.N k39 39 w' w.heap.size (fun k_ => (P0_ k_ ∨ w.heap.size ≤ k_)) v3 x3_1) ∧ Aside0 (Below w.heap.size w w'))
 case atStart => exact ⟨(([] : List (S39))), (0), (by first | rfl | (simp; done) | (simp [*]; done)), H', ⟨Nat.le_refl _⟩, ⟨by (with_reducible repeat (first | apply Kd.V_alloc | apply Kd.V_drewN | apply Kd.V_drew)); exact Kd.V_mono HO0.out (fun _ hk => ⟨hk, (by simp [Value.ownBlock])⟩)⟩, ⟨by first | exact Kd.S_nil _ _ _ _ _ | exact Kd.N_nil _ _ _ _ _ | exact Kd.V_nil _ _ _ _ _ | exact Kd.Q_nil _ _ _ _ _ | exact Kd.R_nil _ _ _ _ _⟩, ⟨by repeat (first | (with_reducible first | exact HB.out | apply below_alloc | apply pw_below_drewN | apply below_drew1) | exact HB.out)⟩⟩
 case round =>
  clear H'
  try clear c1
  obtain ⟨x3_1, x4_1, rfl, HA, HK1, HO_0, HO_3, HB⟩ := hrel
  cases gk with
  | zero => exact absurd HA.out (by simp [coraclelaw18_batches.l0])
  | succ k1 =>
   have H := HA.out
   clear HA
   simp only [coraclelaw18_batches.l0] at H
   by_cases c2 : x4_1 < (l0.length : Int)
   ·
    rw [if_pos c2] at H
    have c2b0 : decide (x4_1 < (l0.length : Int)) = true := decide_eq_true c2
    clear c2
    by_cases c3 : 0 ≤ x4_1
    ·
     rw [if_pos c3] at H
     have c3b0 : decide (0 ≤ x4_1) = true := decide_eq_true c3
     clear c3
     by_cases c4 : x3_1.length < 1954687338268
     ·
      rw [if_pos c4] at H
      have LMc4 := Aside0.mk c4
      clear c4
      obtain ⟨y104, hy104⟩ : ∃ y_ : List (S39), y_ = (x3_1 ++ [(⟨(⟨(rd_T30 l0 x4_1).f0.f0, (rd_T30 l0 x4_1).f0.f1, (rd_T30 l0 x4_1).f0.f2⟩ : S28), (rd_T30 l0 x4_1).f1, (rd_T30 l0 x4_1).f2⟩ : S39)]) := ⟨_, rfl⟩
      replace H : (coraclelaw18_batches.l0 k1 l0 y104 (wrap64 (x4_1 + 1))) = some r := by first | (rw [hy104]; with_reducible exact H) | (have H2_ := (Option.bind_some _ _).symm.trans H; rw [hy104]; with_reducible exact H2_) | (have H2_ := (Option.bind_some _ _).symm.trans H; with_reducible exact H2_) | with_reducible exact H | (rw [hy104]; exact H) | exact H
      have Ny104 := Aside0.mk hy104
      clear hy104
      have H' := Aside0.mk H
      clear H
      try go_wp2
      have n0_ := Aside0.mk (Kd.V_drew HO_0.out)
      have n1_ := Aside0.mk (Kd.N_drew HO_3.out)
      have n2_ := Aside0.mk (below_drew1 HB.out)
      clear HO_0
      clear HO_3
      clear HB
      have HO_0 := n0_
      have HO_3 := n1_
      have HB := n2_
      clear n0_ n1_ n2_
      have p101 : 0 ≤ (x4_1 : Int) := of_decide_eq_true (by first | (with_reducible assumption) | assumption)
      have q101 : x4_1 < (l0.length : Int) := of_decide_eq_true (by first | (with_reducible assumption) | assumption)
      obtain ⟨ad101, A101_0, c101_0, A101_1, c101_1, e101, hx101_0, hx101_1, hx101_2, hx101_3, hx101_4, hl101_0, hi101_0, hl101_1, hi101_1⟩ := at_T30 (Kd.V_reads' HO_0.out).2.2 x4_1 p101 q101
      cases e101
      obtain ⟨ce101, hce101, hMe101, hcc101⟩ := Kd.V_get HO_0.out z30 x4_1 p101 (by first | exact q101 | exact of_decide_eq_true (by first | (with_reducible assumption) | assumption) | (have e_ := (Kd.V_reads' HO_0.out).1; omega))
      obtain ⟨ua101_0, uc101_0, ua101_1, uc101_1, rfl, ul101_0, ge101_0, ul101_1, ge101_1⟩ := k30_openF hMe101
      have hv101_0 := hcc101 0 _ rfl
      rw [Nat.add_zero] at hv101_0
      replace hv101_0 := Option.some.inj (hv101_0.symm.trans hx101_0)
      injection hv101_0 with hva_ hvn_ hvc_
      rw [hva_] at ge101_0
      rw [hvc_] at ul101_0
      have HL101_0 := Aside0.mk (show Kd.V k38 38 _ w.heap.size _ _ ((rd_T30 l0 x4_1).f0.f0) from Kd.V_mk ul101_0 ge101_0)
      clear hva_ hvn_ hvc_ ge101_0 ul101_0
      have hv101_1 := hcc101 1 _ rfl
      rw [add_field _ _ 1 (by omega)] at hv101_1
      replace hv101_1 := Option.some.inj (hv101_1.symm.trans hx101_1)
      injection hv101_1 with hva_ hvn_ hvc_
      rw [hva_] at ge101_1
      rw [hvc_] at ul101_1
      have HL101_1 := Aside0.mk (show Kd.V k64 64 _ w.heap.size _ _ ((rd_T30 l0 x4_1).f0.f1) from Kd.V_mk ul101_1 ge101_1)
      clear hva_ hvn_ hvc_ ge101_1 ul101_1
      clear hcc101 hce101
      have HR101_0 := Aside0.mk hi101_0
      have HC101_0 := Aside0.mk hl101_0
      clear hi101_0 hl101_0
      have HR101_1 := Aside0.mk hi101_1
      have HC101_1 := Aside0.mk hl101_1
      clear hi101_1 hl101_1
      replace p101 := eq_true p101
      replace q101 := eq_true q101
      have p102 : 0 ≤ (x4_1 : Int) := of_decide_eq_true (by first | (with_reducible assumption) | assumption)
      have q102 : x4_1 < (l0.length : Int) := of_decide_eq_true (by first | (with_reducible assumption) | assumption)
      obtain ⟨ad102, A102_0, c102_0, A102_1, c102_1, e102, hx102_0, hx102_1, hx102_2, hx102_3, hx102_4, hl102_0, hi102_0, hl102_1, hi102_1⟩ := at_T30 (Kd.V_reads' HO_0.out).2.2 x4_1 p102 q102
      obtain rfl : ad101 = ad102 := (by injection e102)
      obtain ⟨ce102, hce102, hMe102, hcc102⟩ := Kd.V_get HO_0.out z30 x4_1 p102 (by first | exact q102 | exact of_decide_eq_true (by first | (with_reducible assumption) | assumption) | (have e_ := (Kd.V_reads' HO_0.out).1; omega))
      obtain ⟨ua102_0, uc102_0, ua102_1, uc102_1, rfl, ul102_0, ge102_0, ul102_1, ge102_1⟩ := k30_openF hMe102
      have hv102_0 := hcc102 0 _ rfl
      rw [Nat.add_zero] at hv102_0
      replace hv102_0 := Option.some.inj (hv102_0.symm.trans hx102_0)
      injection hv102_0 with hva_ hvn_ hvc_
      rw [hva_] at ge102_0
      rw [hvc_] at ul102_0
      have HL102_0 := Aside0.mk (show Kd.V k38 38 _ w.heap.size _ _ ((rd_T30 l0 x4_1).f0.f0) from Kd.V_mk ul102_0 ge102_0)
      clear hva_ hvn_ hvc_ ge102_0 ul102_0
      have hv102_1 := hcc102 1 _ rfl
      rw [add_field _ _ 1 (by omega)] at hv102_1
      replace hv102_1 := Option.some.inj (hv102_1.symm.trans hx102_1)
      injection hv102_1 with hva_ hvn_ hvc_
      rw [hva_] at ge102_1
      rw [hvc_] at ul102_1
      have HL102_1 := Aside0.mk (show Kd.V k64 64 _ w.heap.size _ _ ((rd_T30 l0 x4_1).f0.f1) from Kd.V_mk ul102_1 ge102_1)
      clear hva_ hvn_ hvc_ ge102_1 ul102_1
      clear hcc102 hce102
      have HR102_0 := Aside0.mk hi102_0
      have HC102_0 := Aside0.mk hl102_0
      clear hi102_0 hl102_0
      have HR102_1 := Aside0.mk hi102_1
      have HC102_1 := Aside0.mk hl102_1
      clear hi102_1 hl102_1
      replace p102 := eq_true p102
      replace q102 := eq_true q102
      have ea_ := Option.some.inj (hx101_0.symm.trans hx102_0)
      injection ea_ with ea_ en_ ec_
      subst ea_
      subst ec_
      clear en_
      have ea_ := Option.some.inj (hx101_1.symm.trans hx102_1)
      injection ea_ with ea_ en_ ec_
      subst ea_
      subst ec_
      clear en_
      have p103 : 0 ≤ (x4_1 : Int) := of_decide_eq_true (by first | (with_reducible assumption) | assumption)
      have q103 : x4_1 < (l0.length : Int) := of_decide_eq_true (by first | (with_reducible assumption) | assumption)
      obtain ⟨ad103, A103_0, c103_0, A103_1, c103_1, e103, hx103_0, hx103_1, hx103_2, hx103_3, hx103_4, hl103_0, hi103_0, hl103_1, hi103_1⟩ := at_T30 (Kd.V_reads' HO_0.out).2.2 x4_1 p103 q103
      obtain rfl : ad101 = ad103 := (by injection e103)
      obtain ⟨ce103, hce103, hMe103, hcc103⟩ := Kd.V_get HO_0.out z30 x4_1 p103 (by first | exact q103 | exact of_decide_eq_true (by first | (with_reducible assumption) | assumption) | (have e_ := (Kd.V_reads' HO_0.out).1; omega))
      obtain ⟨ua103_0, uc103_0, ua103_1, uc103_1, rfl, ul103_0, ge103_0, ul103_1, ge103_1⟩ := k30_openF hMe103
      have hv103_0 := hcc103 0 _ rfl
      rw [Nat.add_zero] at hv103_0
      replace hv103_0 := Option.some.inj (hv103_0.symm.trans hx103_0)
      injection hv103_0 with hva_ hvn_ hvc_
      rw [hva_] at ge103_0
      rw [hvc_] at ul103_0
      have HL103_0 := Aside0.mk (show Kd.V k38 38 _ w.heap.size _ _ ((rd_T30 l0 x4_1).f0.f0) from Kd.V_mk ul103_0 ge103_0)
      clear hva_ hvn_ hvc_ ge103_0 ul103_0
      have hv103_1 := hcc103 1 _ rfl
      rw [add_field _ _ 1 (by omega)] at hv103_1
      replace hv103_1 := Option.some.inj (hv103_1.symm.trans hx103_1)
      injection hv103_1 with hva_ hvn_ hvc_
      rw [hva_] at ge103_1
      rw [hvc_] at ul103_1
      have HL103_1 := Aside0.mk (show Kd.V k64 64 _ w.heap.size _ _ ((rd_T30 l0 x4_1).f0.f1) from Kd.V_mk ul103_1 ge103_1)
      clear hva_ hvn_ hvc_ ge103_1 ul103_1
      clear hcc103 hce103
      have HR103_0 := Aside0.mk hi103_0
      have HC103_0 := Aside0.mk hl103_0
      clear hi103_0 hl103_0
      have HR103_1 := Aside0.mk hi103_1
      have HC103_1 := Aside0.mk hl103_1
      clear hi103_1 hl103_1
      replace p103 := eq_true p103
      replace q103 := eq_true q103
      have ea_ := Option.some.inj (hx101_0.symm.trans hx103_0)
      injection ea_ with ea_ en_ ec_
      subst ea_
      subst ec_
      clear en_
      have ea_ := Option.some.inj (hx101_1.symm.trans hx103_1)
      injection ea_ with ea_ en_ ec_
      subst ea_
      subst ec_
      clear en_
      refine start_ (n := 20) (S := fun w' => w'.cell? (ad101.add ((x4_1).toNat * 5)) = some (.slice A101_0 ((rd_T30 l0 x4_1).f0.f0).length c101_0) ∧ w'.cell? ⟨(ad101.add ((x4_1).toNat * 5)).block, (ad101.add ((x4_1).toNat * 5)).off + 1, none⟩ = some (.slice A101_1 ((rd_T30 l0 x4_1).f0.f1).length c101_1) ∧ w'.cell? ⟨(ad101.add ((x4_1).toNat * 5)).block, (ad101.add ((x4_1).toNat * 5)).off + 2, none⟩ = some (.int .i64 ((rd_T30 l0 x4_1).f0.f2)) ∧ w'.cell? ⟨(ad101.add ((x4_1).toNat * 5)).block, (ad101.add ((x4_1).toNat * 5)).off + 3, none⟩ = some (.int .i64 ((rd_T30 l0 x4_1).f1)) ∧ w'.cell? ⟨(ad101.add ((x4_1).toNat * 5)).block, (ad101.add ((x4_1).toNat * 5)).off + 4, none⟩ = some (.int .i64 ((rd_T30 l0 x4_1).f2)) ∧ w'.cell? (ad101.add ((x4_1).toNat * 5)) = some (.slice A101_0 ((rd_T30 l0 x4_1).f0.f0).length c101_0) ∧ w'.cell? ⟨(ad101.add ((x4_1).toNat * 5)).block, (ad101.add ((x4_1).toNat * 5)).off + 1, none⟩ = some (.slice A101_1 ((rd_T30 l0 x4_1).f0.f1).length c101_1) ∧ w'.cell? ⟨(ad101.add ((x4_1).toNat * 5)).block, (ad101.add ((x4_1).toNat * 5)).off + 2, none⟩ = some (.int .i64 ((rd_T30 l0 x4_1).f0.f2)) ∧ w'.cell? ⟨(ad101.add ((x4_1).toNat * 5)).block, (ad101.add ((x4_1).toNat * 5)).off + 3, none⟩ = some (.int .i64 ((rd_T30 l0 x4_1).f1)) ∧ w'.cell? ⟨(ad101.add ((x4_1).toNat * 5)).block, (ad101.add ((x4_1).toNat * 5)).off + 4, none⟩ = some (.int .i64 ((rd_T30 l0 x4_1).f2)) ∧ w'.cell? (ad101.add ((x4_1).toNat * 5)) = some (.slice A101_0 ((rd_T30 l0 x4_1).f0.f0).length c101_0) ∧ w'.cell? ⟨(ad101.add ((x4_1).toNat * 5)).block, (ad101.add ((x4_1).toNat * 5)).off + 1, none⟩ = some (.slice A101_1 ((rd_T30 l0 x4_1).f0.f1).length c101_1) ∧ w'.cell? ⟨(ad101.add ((x4_1).toNat * 5)).block, (ad101.add ((x4_1).toNat * 5)).off + 2, none⟩ = some (.int .i64 ((rd_T30 l0 x4_1).f0.f2)) ∧ w'.cell? ⟨(ad101.add ((x4_1).toNat * 5)).block, (ad101.add ((x4_1).toNat * 5)).off + 3, none⟩ = some (.int .i64 ((rd_T30 l0 x4_1).f1)) ∧ w'.cell? ⟨(ad101.add ((x4_1).toNat * 5)).block, (ad101.add ((x4_1).toNat * 5)).off + 4, none⟩ = some (.int .i64 ((rd_T30 l0 x4_1).f2))) (ds := [17, 18]) #[false, false, false, false, false, false, false, false, false, false, false, false, false, false, false, false, false, false, false, false] (by kernel_rfl) rfl rfl ⟨hx101_0, hx101_1, hx101_2, hx101_3, hx101_4, hx102_0, hx102_1, hx102_2, hx102_3, hx102_4, hx103_0, hx103_1, hx103_2, hx103_3, hx103_4⟩ (fun hHeld => ?_); refine with_tabW coraclelaw18_batches.tab5 coraclelaw18_batches.bits5 (fun HT_ HW_ => ?_)
      generalize wr.drew = w5 at HO_0 HO_3 HB HL101_0 HL101_1 HL102_0 HL102_1 HL103_0 HL103_1 HR101_0 HR101_1 HR102_0 HR102_1 HR103_0 HR103_1 hx101_0 hx101_1 hx101_2 hx101_3 hx101_4 hx102_0 hx102_1 hx102_2 hx102_3 hx102_4 hx103_0 hx103_1 hx103_2 hx103_3 hx103_4 hHeld ⊢
      refine pure_ (i := 0) (N := some 11) (v := ?_) (a' := ?_) #[true, false, false, false, false, false, false, false, false, false, false, false, false, false, false, false, false, false, false, false] rfl rfl (any_of HT_.out (by kernel_rfl)) (fun _ _ _ h => h) (Or.inl ⟨by rfl, ?_⟩) ?_ ?_
      rotate_left
      ·
       intro w'
       go_simp
       with_reducible rfl
      rotate_left
      ·
       simp only [Act.put, List.setIfInBounds_toArray, List.set_cons_zero, List.set_cons_succ, i64_w, i32_w]
       rfl
      refine pure_ (i := 1) (N := some 12) (v := ?_) (a' := ?_) #[true, true, false, false, false, false, false, false, false, false, false, false, false, false, false, false, false, false, false, false] rfl rfl (any_of HT_.out (by kernel_rfl)) (fun _ _ _ h => h) (Or.inl ⟨by rfl, ?_⟩) ?_ ?_
      rotate_left
      ·
       intro w'
       go_simp
       with_reducible rfl
      rotate_left
      ·
       simp only [Act.put, List.setIfInBounds_toArray, List.set_cons_zero, List.set_cons_succ, i64_w, i32_w]
       rfl
      refine pure_ (i := 2) (N := some 13) (v := ?_) (a' := ?_) #[true, true, true, false, false, false, false, false, false, false, false, false, false, false, false, false, false, false, false, false] rfl rfl (any_of HT_.out (by kernel_rfl)) (fun _ _ _ h => h) (Or.inl ⟨by rfl, ?_⟩) ?_ ?_
      rotate_left
      ·
       intro w'
       go_simp
       with_reducible rfl
      rotate_left
      ·
       simp only [Act.put, List.setIfInBounds_toArray, List.set_cons_zero, List.set_cons_succ, i64_w, i32_w]
       rfl
      refine pure_ (i := 3) (N := some 14) (v := ?_) (a' := ?_) #[true, true, true, true, false, false, false, false, false, false, false, false, false, false, false, false, false, false, false, false] rfl rfl (any_of HT_.out (by kernel_rfl)) (fun _ _ _ h => h) (Or.inl ⟨by rfl, ?_⟩) ?_ ?_
      rotate_left
      ·
       intro w'
       go_simp
       with_reducible rfl
      rotate_left
      ·
       simp only [Act.put, List.setIfInBounds_toArray, List.set_cons_zero, List.set_cons_succ, i64_w, i32_w]
       rfl
      refine pure_ (i := 4) (N := some 15) (v := ?_) (a' := ?_) #[true, true, true, true, true, false, false, false, false, false, false, false, false, false, false, false, false, false, false, false] rfl rfl (any_of HT_.out (by kernel_rfl)) (fun _ _ _ h => h) (Or.inl ⟨by rfl, ?_⟩) ?_ ?_
      rotate_left
      ·
       intro w'
       go_simp
       with_reducible rfl
      rotate_left
      ·
       simp only [Act.put, List.setIfInBounds_toArray, List.set_cons_zero, List.set_cons_succ, i64_w, i32_w]
       rfl
      refine pure_ (i := 6) (N := some 17) (v := ?_) (a' := ?_) #[true, true, true, true, true, false, true, false, false, false, false, false, false, false, false, false, false, false, false, false] rfl rfl (any_of HT_.out (by kernel_rfl)) (fun _ _ _ h => h) (Or.inl ⟨by rfl, ?_⟩) ?_ ?_
      rotate_left
      ·
       intro w'
       go_simp
       with_reducible rfl
      rotate_left
      ·
       simp only [Act.put, List.setIfInBounds_toArray, List.set_cons_zero, List.set_cons_succ, i64_w, i32_w]
       rfl
      refine pure_ (i := 7) (N := some 18) (v := ?_) (a' := ?_) #[true, true, true, true, true, false, true, true, false, false, false, false, false, false, false, false, false, false, false, false] rfl rfl (any_of HT_.out (by kernel_rfl)) (fun _ _ _ h => h) (Or.inl ⟨by rfl, ?_⟩) ?_ ?_
      rotate_left
      ·
       intro w'
       go_simp
       with_reducible rfl
      rotate_left
      ·
       simp only [Act.put, List.setIfInBounds_toArray, List.set_cons_zero, List.set_cons_succ, i64_w, i32_w]
       rfl
      refine pure_ (i := 8) (N := some 19) (v := ?_) (a' := ?_) #[true, true, true, true, true, false, true, true, true, false, false, false, false, false, false, false, false, false, false, false] rfl rfl (any_of HT_.out (by kernel_rfl)) (fun _ _ _ h => h) (Or.inl ⟨by rfl, ?_⟩) ?_ ?_
      rotate_left
      ·
       intro w'
       go_simp
       with_reducible rfl
      rotate_left
      ·
       simp only [Act.put, List.setIfInBounds_toArray, List.set_cons_zero, List.set_cons_succ, i64_w, i32_w]
       rfl
      refine pure_ (i := 9) (N := some 20) (v := ?_) (a' := ?_) #[true, true, true, true, true, false, true, true, true, true, false, false, false, false, false, false, false, false, false, false] rfl rfl (any_of HT_.out (by kernel_rfl)) (fun _ _ _ h => h) (Or.inl ⟨by rfl, ?_⟩) ?_ ?_
      rotate_left
      ·
       intro w'
       go_simp
       with_reducible rfl
      rotate_left
      ·
       simp only [Act.put, List.setIfInBounds_toArray, List.set_cons_zero, List.set_cons_succ, i64_w, i32_w]
       rfl
      refine pure_ (i := 11) (N := some 22) (v := ?_) (a' := ?_) #[true, true, true, true, true, false, true, true, true, true, false, true, false, false, false, false, false, false, false, false] rfl rfl (any_of HT_.out (by kernel_rfl)) (fun _ _ _ h => h) (Or.inl ⟨by rfl, ?_⟩) ?_ ?_
      rotate_left
      ·
       intro w'
       go_simp
       with_reducible rfl
      rotate_left
      ·
       simp only [Act.put, List.setIfInBounds_toArray, List.set_cons_zero, List.set_cons_succ, i64_w, i32_w]
       rfl
      refine pure_ (i := 12) (N := some 23) (v := ?_) (a' := ?_) #[true, true, true, true, true, false, true, true, true, true, false, true, true, false, false, false, false, false, false, false] rfl rfl (any_of HT_.out (by kernel_rfl)) (fun _ _ _ h => h) (Or.inl ⟨by rfl, ?_⟩) ?_ ?_
      rotate_left
      ·
       intro w'
       go_simp
       with_reducible rfl
      rotate_left
      ·
       simp only [Act.put, List.setIfInBounds_toArray, List.set_cons_zero, List.set_cons_succ, i64_w, i32_w]
       rfl
      refine pure_ (i := 13) (N := some 24) (v := ?_) (a' := ?_) #[true, true, true, true, true, false, true, true, true, true, false, true, true, true, false, false, false, false, false, false] rfl rfl (any_of HT_.out (by kernel_rfl)) (fun _ _ _ h => h) (Or.inl ⟨by rfl, ?_⟩) ?_ ?_
      rotate_left
      ·
       intro w'
       go_simp
       with_reducible rfl
      rotate_left
      ·
       simp only [Act.put, List.setIfInBounds_toArray, List.set_cons_zero, List.set_cons_succ, i64_w, i32_w]
       rfl
      refine pure_ (i := 14) (N := some 25) (v := ?_) (a' := ?_) #[true, true, true, true, true, false, true, true, true, true, false, true, true, true, true, false, false, false, false, false] rfl rfl (any_of HT_.out (by kernel_rfl)) (fun _ _ _ h => h) (Or.inl ⟨by rfl, ?_⟩) ?_ ?_
      rotate_left
      ·
       intro w'
       go_simp
       with_reducible rfl
      rotate_left
      ·
       simp only [Act.put, List.setIfInBounds_toArray, List.set_cons_zero, List.set_cons_succ, i64_w, i32_w]
       rfl
      refine take_ (i := 5) (N := some 16) (v := ?_) (a' := ?_) #[true, true, true, true, true, true, true, true, true, true, false, true, true, true, true, false, false, false, false, false] rfl rfl (take_ofW HT_.out HW_.out (by kernel_rfl)) (fun _ _ _ h => h) (Or.inl ⟨by rfl, ?_⟩) hHeld ?_ ?_
      rotate_left
      ·
       rintro w' ⟨s0, s1, s2, s3, s4, s5, s6, s7, s8, s9, s10, s11, s12, s13, s14⟩
       go_simp
       with_reducible rfl
      rotate_left
      ·
       simp only [Act.put, List.setIfInBounds_toArray, List.set_cons_zero, List.set_cons_succ, i64_w, i32_w]
       rfl
      refine take_ (i := 10) (N := some 21) (v := ?_) (a' := ?_) #[true, true, true, true, true, true, true, true, true, true, true, true, true, true, true, false, false, false, false, false] rfl rfl (take_ofW HT_.out HW_.out (by kernel_rfl)) (fun _ _ _ h => h) (Or.inl ⟨by rfl, ?_⟩) hHeld ?_ ?_
      rotate_left
      ·
       rintro w' ⟨s0, s1, s2, s3, s4, s5, s6, s7, s8, s9, s10, s11, s12, s13, s14⟩
       go_simp
       with_reducible rfl
      rotate_left
      ·
       simp only [Act.put, List.setIfInBounds_toArray, List.set_cons_zero, List.set_cons_succ, i64_w, i32_w]
       rfl
      refine take_ (i := 15) (N := some 26) (v := ?_) (a' := ?_) #[true, true, true, true, true, true, true, true, true, true, true, true, true, true, true, true, false, false, false, false] rfl rfl (take_ofW HT_.out HW_.out (by kernel_rfl)) (fun _ _ _ h => h) (Or.inl ⟨by rfl, ?_⟩) hHeld ?_ ?_
      rotate_left
      ·
       rintro w' ⟨s0, s1, s2, s3, s4, s5, s6, s7, s8, s9, s10, s11, s12, s13, s14⟩
       go_simp
       with_reducible rfl
      rotate_left
      ·
       simp only [Act.put, List.setIfInBounds_toArray, List.set_cons_zero, List.set_cons_succ, i64_w, i32_w]
       rfl
      refine pure_ (i := 16) (N := some 27) (v := ?_) (a' := ?_) #[true, true, true, true, true, true, true, true, true, true, true, true, true, true, true, true, true, false, false, false] rfl rfl (any_of HT_.out (by kernel_rfl)) (fun _ _ _ h => h) (Or.inl ⟨by rfl, ?_⟩) ?_ ?_
      rotate_left
      ·
       intro w'
       go_simp
       with_reducible rfl
      rotate_left
      ·
       simp only [Act.put, List.setIfInBounds_toArray, List.set_cons_zero, List.set_cons_succ, i64_w, i32_w]
       rfl
      refine last_ (i := 17) (N := some 28) #[true, true, true, true, true, true, true, true, true, true, true, true, true, true, true, true, true, true, false, false] rfl rfl (one_of HT_.out (by kernel_rfl)) (by decide) (fun K hK => ?_)
      refine value_ (w1 := ?_) (v := ?_) (by rfl) rfl ?_ ?_
      rotate_left 2
      ·
       go_simp
       constructor
       ·
        rfl
       ·
        rfl
      refine hK.out _ _ ?_
      clear hK K
      refine norm_ (a' := ?_) ?_ ?_
      rotate_left
      ·
       show Act.put _ (some 28) _ = _
       simp only [Act.put, List.setIfInBounds_toArray, List.set_cons_zero, List.set_cons_succ, i64_w, i32_w]
       rfl
      refine last_ (i := 18) (N := some 29) #[true, true, true, true, true, true, true, true, true, true, true, true, true, true, true, true, true, true, true, false] rfl rfl (one_of HT_.out (by kernel_rfl)) (by decide) (fun K hK => ?_)
      refine Kd.N_append_step k39 (w0 := w) w.heap.size (by rfl) (.tmp 11) (.tmp 28) 24 39 (.agg #[(.slice none 0 0), (.slice none 0 0), (.int .i64 0), (.int .i64 0), (.int .i64 0)]) 72 rfl Try.underlying24 info39 rfl (by decide) (by omega) u3 x3_1 (⟨(⟨(rd_T30 l0 x4_1).f0.f0, (rd_T30 l0 x4_1).f0.f1, (rd_T30 l0 x4_1).f0.f2⟩ : S28), (rd_T30 l0 x4_1).f1, (rd_T30 l0 x4_1).f2⟩ : S39) [.slice A101_0 ((rd_T30 l0 x4_1).f0.f0).length c101_0, .slice A101_1 ((rd_T30 l0 x4_1).f0.f1).length c101_1, .int .i64 ((rd_T30 l0 x4_1).f0.f2), .int .i64 ((rd_T30 l0 x4_1).f1), .int .i64 ((rd_T30 l0 x4_1).f2)] (fun k_ => (P0_ k_ ∨ w.heap.size ≤ k_)) (fun k_ => ((fun k_ => (P0_ k_ ∨ w.heap.size ≤ k_))) k_ ∧ some k_ ≠ (u3 : Value).ownBlock) rfl rfl ?aP (fun _ hk => hk) ?aF ?aO ?aB ?aS ?aL ?_
      (case aP => exact (k39_mkF _ _ (⟨(⟨(rd_T30 l0 x4_1).f0.f0, (rd_T30 l0 x4_1).f0.f1, (rd_T30 l0 x4_1).f0.f2⟩ : S28), (rd_T30 l0 x4_1).f1, (rd_T30 l0 x4_1).f2⟩ : S39) (Kd.V_reads' (Kd.V_mono (ok' := (fun k_ => ((fun k_ => (P0_ k_ ∨ w.heap.size ≤ k_))) k_ ∧ some k_ ≠ (u3 : Value).ownBlock)) (HL101_0.out) (fun k_ hk => ⟨hk.1, hk.2⟩))).2.1 (Kd.V_F (Kd.V_mono (ok' := (fun k_ => ((fun k_ => (P0_ k_ ∨ w.heap.size ≤ k_))) k_ ∧ some k_ ≠ (u3 : Value).ownBlock)) (HL101_0.out) (fun k_ hk => ⟨hk.1, hk.2⟩))) (Kd.V_reads' (Kd.V_mono (ok' := (fun k_ => ((fun k_ => (P0_ k_ ∨ w.heap.size ≤ k_))) k_ ∧ some k_ ≠ (u3 : Value).ownBlock)) (HL101_1.out) (fun k_ hk => ⟨hk.1, hk.2⟩))).2.1 (Kd.V_F (Kd.V_mono (ok' := (fun k_ => ((fun k_ => (P0_ k_ ∨ w.heap.size ≤ k_))) k_ ∧ some k_ ≠ (u3 : Value).ownBlock)) (HL101_1.out) (fun k_ hk => ⟨hk.1, hk.2⟩)))))
      (case aB => exact (by repeat (first | (with_reducible first | exact HB.out | apply below_alloc | apply pw_below_drewN | apply below_drew1) | exact HB.out)))
      (case aF => exact (fun k_ hk => (.inr (Nat.le_trans (below_size (by repeat (first | (with_reducible first | exact HB.out | apply below_alloc | apply pw_below_drewN | apply below_drew1) | exact HB.out))) hk))))
      (case aO => exact (by (with_reducible repeat (first | apply Kd.N_alloc | apply Kd.N_drewN | apply Kd.N_drew)); exact HO_3.out))
      (case aS => exact (below_size (by repeat (first | (with_reducible first | exact HB.out | apply below_alloc | apply pw_below_drewN | apply below_drew1) | exact HB.out))))
      (case aL => have := LMc4.out; omega)
      intro v105 w6 ho hb hg hat
      rw [← Ny104.out] at ho
      have n0_ := Aside0.mk (Kd.V_afterv (ok := (fun k_ => (P0_ k_ ∨ w.heap.size ≤ k_))) (by (with_reducible repeat (first | apply Kd.V_alloc | apply Kd.V_drewN | apply Kd.V_drew)); exact HO_0.out) hg hat)
      have n1_ := Aside0.mk (Kd.V_afterv (ok := (fun k_ => (P0_ k_ ∨ w.heap.size ≤ k_))) (by (with_reducible repeat (first | apply Kd.V_alloc | apply Kd.V_drewN | apply Kd.V_drew)); exact HL101_0.out) hg hat)
      have n2_ := Aside0.mk (Kd.V_afterv (ok := (fun k_ => (P0_ k_ ∨ w.heap.size ≤ k_))) (by (with_reducible repeat (first | apply Kd.V_alloc | apply Kd.V_drewN | apply Kd.V_drew)); exact HL101_1.out) hg hat)
      have n3_ := Aside0.mk (Kd.V_afterv (ok := (fun k_ => (P0_ k_ ∨ w.heap.size ≤ k_))) (by (with_reducible repeat (first | apply Kd.V_alloc | apply Kd.V_drewN | apply Kd.V_drew)); exact HL102_0.out) hg hat)
      have n4_ := Aside0.mk (Kd.V_afterv (ok := (fun k_ => (P0_ k_ ∨ w.heap.size ≤ k_))) (by (with_reducible repeat (first | apply Kd.V_alloc | apply Kd.V_drewN | apply Kd.V_drew)); exact HL102_1.out) hg hat)
      have n5_ := Aside0.mk (Kd.V_afterv (ok := (fun k_ => (P0_ k_ ∨ w.heap.size ≤ k_))) (by (with_reducible repeat (first | apply Kd.V_alloc | apply Kd.V_drewN | apply Kd.V_drew)); exact HL103_0.out) hg hat)
      have n6_ := Aside0.mk (Kd.V_afterv (ok := (fun k_ => (P0_ k_ ∨ w.heap.size ≤ k_))) (by (with_reducible repeat (first | apply Kd.V_alloc | apply Kd.V_drewN | apply Kd.V_drew)); exact HL103_1.out) hg hat)
      have n7_ := Aside0.mk (hb)
      have n8_ := Aside0.mk (ho)
      clear HO_0
      clear HL101_0
      clear HL101_1
      clear HL102_0
      clear HL102_1
      clear HL103_0
      clear HL103_1
      clear HB
      clear HO_3
      have HO_0 := n0_
      have HL101_0 := n1_
      have HL101_1 := n2_
      have HL102_0 := n3_
      have HL102_1 := n4_
      have HL103_0 := n5_
      have HL103_1 := n6_
      have HB := n7_
      have HO106 := n8_
      clear n0_ n1_ n2_ n3_ n4_ n5_ n6_ n7_ n8_
      clear ho hb hg hat
      refine hK.out _ _ ?_
      clear hK K
      refine norm_ (a' := ?_) ?_ ?_
      rotate_left
      ·
       show Act.put _ (some 29) _ = _
       simp only [Act.put, List.setIfInBounds_toArray, List.set_cons_zero, List.set_cons_succ, i64_w, i32_w]
       rfl
      refine pure_ (i := 19) (N := some 3) (v := ?_) (a' := ?_) #[true, true, true, true, true, true, true, true, true, true, true, true, true, true, true, true, true, true, true, true] rfl rfl (any_of HT_.out (by kernel_rfl)) (fun _ _ _ h => h) (Or.inl ⟨by rfl, ?_⟩) ?_ ?_
      rotate_left
      ·
       intro w'
       go_simp
       with_reducible rfl
      rotate_left
      ·
       simp only [Act.put, List.setIfInBounds_toArray, List.set_cons_zero, List.set_cons_succ, i64_w, i32_w]
       rfl
      refine done_ (done_of HT_.out (by kernel_rfl)) ?_
      try go_wp2
      go_roundg k1
      case measure => have := HK1.out; omega
      case rel => exact ⟨(y104), (wrap64 (x4_1 + 1)), (by first | rfl | (simp; done) | (simp [*]; done)), H', ⟨by have := HK1.out; omega⟩, ⟨by (with_reducible repeat (first | apply Kd.V_alloc | apply Kd.V_drewN | apply Kd.V_drew)); exact HO_0.out⟩, ⟨by (with_reducible repeat (first | apply Kd.N_alloc | apply Kd.N_drewN | apply Kd.N_drew)); exact HO106.out⟩, ⟨by repeat (first | (with_reducible first | exact HB.out | apply below_alloc | apply pw_below_drewN | apply below_drew1) | exact HB.out)⟩⟩
     ·
      rw [if_neg c4] at H
      exact absurd H (by simp)
    ·
     rw [if_neg c3] at H
     exact absurd H (by simp)
   ·
    rw [if_neg c2] at H
    have c2b0 : decide (x4_1 < (l0.length : Int)) = false := decide_eq_false c2
    clear c2
    obtain rfl := Option.some.inj H
    go_wp2
    go_ret
    exact ⟨_, by first | rfl | (simp [errW_none, errW_some] <;> rfl) | (simp [*, errW_none, errW_some] <;> rfl), by (with_reducible repeat (first | apply Kd.N_alloc | apply Kd.N_drewN | apply Kd.N_drew)); exact HO_3.out, by repeat (first | (with_reducible first | exact HB.out | apply below_alloc | apply pw_below_drewN | apply below_drew1) | exact HB.out)⟩

/-! ### tx_Conflict: function 31 -/
-- EQ: coracle/api.Outpoint
/-- Are two outpoints one? -/
def oeq (x y : S34) : Bool := (x.f0.f0 == y.f0.f0 && (x.f0.f1 == y.f0.f1 && (x.f0.f2 == y.f0.f2 && (x.f0.f3 == y.f0.f3 && (x.f0.f4 == y.f0.f4 && (x.f0.f5 == y.f0.f5 && (x.f0.f6 == y.f0.f6 && (x.f0.f7 == y.f0.f7 && (x.f0.f8 == y.f0.f8 && (x.f0.f9 == y.f0.f9 && (x.f0.f10 == y.f0.f10 && (x.f0.f11 == y.f0.f11 && (x.f0.f12 == y.f0.f12 && (x.f0.f13 == y.f0.f13 && (x.f0.f14 == y.f0.f14 && (x.f0.f15 == y.f0.f15 && (x.f0.f16 == y.f0.f16 && (x.f0.f17 == y.f0.f17 && (x.f0.f18 == y.f0.f18 && (x.f0.f19 == y.f0.f19 && (x.f0.f20 == y.f0.f20 && (x.f0.f21 == y.f0.f21 && (x.f0.f22 == y.f0.f22 && (x.f0.f23 == y.f0.f23 && (x.f0.f24 == y.f0.f24 && (x.f0.f25 == y.f0.f25 && (x.f0.f26 == y.f0.f26 && (x.f0.f27 == y.f0.f27 && (x.f0.f28 == y.f0.f28 && (x.f0.f29 == y.f0.f29 && (x.f0.f30 == y.f0.f30 && (x.f0.f31 == y.f0.f31)))))))))))))))))))))))))))))))) && (x.f1 == y.f1)
/-- An input's cells. -/
def encIn (x : S38) : List Value := [.int .u8 x.f0.f0.f0, .int .u8 x.f0.f0.f1, .int .u8 x.f0.f0.f2, .int .u8 x.f0.f0.f3, .int .u8 x.f0.f0.f4, .int .u8 x.f0.f0.f5, .int .u8 x.f0.f0.f6, .int .u8 x.f0.f0.f7, .int .u8 x.f0.f0.f8, .int .u8 x.f0.f0.f9, .int .u8 x.f0.f0.f10, .int .u8 x.f0.f0.f11, .int .u8 x.f0.f0.f12, .int .u8 x.f0.f0.f13, .int .u8 x.f0.f0.f14, .int .u8 x.f0.f0.f15, .int .u8 x.f0.f0.f16, .int .u8 x.f0.f0.f17, .int .u8 x.f0.f0.f18, .int .u8 x.f0.f0.f19, .int .u8 x.f0.f0.f20, .int .u8 x.f0.f0.f21, .int .u8 x.f0.f0.f22, .int .u8 x.f0.f0.f23, .int .u8 x.f0.f0.f24, .int .u8 x.f0.f0.f25, .int .u8 x.f0.f0.f26, .int .u8 x.f0.f0.f27, .int .u8 x.f0.f0.f28, .int .u8 x.f0.f0.f29, .int .u8 x.f0.f0.f30, .int .u8 x.f0.f0.f31, .int .i64 x.f0.f1, .int .i64 x.f1, .int .i64 x.f2.f0, .int .i64 x.f2.f1, .string x.f2.f2]
theorem readsIn {w : World} {A : Option Addr} {n : Nat} {l : List S38} (h : Kd.C k38 w A n l) : ReadsRow (fun x c => c = encIn x) 37 w A n l :=
  ReadsRow.imp_ h (Below.refl _ w) (fun _ _ hp => k38_open hp)
theorem blk_in {w : World} {q : Nat} {o : Obj} (hm : w.heap[q]? = some o) : q < w.heap.size := by
  by_cases h : q < w.heap.size
  · exact h
  · rw [Array.getElem?_eq_none (by omega)] at hm; cases hm
set_option maxHeartbeats 1000000 in
set_option maxRecDepth 100000 in
theorem spends_lit (p : S34) (q : Nat) (w : World) (hm : w.heap[q]? = some (.cells #[.int .u8 p.f0.f0, .int .u8 p.f0.f1, .int .u8 p.f0.f2, .int .u8 p.f0.f3, .int .u8 p.f0.f4, .int .u8 p.f0.f5, .int .u8 p.f0.f6, .int .u8 p.f0.f7, .int .u8 p.f0.f8, .int .u8 p.f0.f9, .int .u8 p.f0.f10, .int .u8 p.f0.f11, .int .u8 p.f0.f12, .int .u8 p.f0.f13, .int .u8 p.f0.f14, .int .u8 p.f0.f15, .int .u8 p.f0.f16, .int .u8 p.f0.f17, .int .u8 p.f0.f18, .int .u8 p.f0.f19, .int .u8 p.f0.f20, .int .u8 p.f0.f21, .int .u8 p.f0.f22, .int .u8 p.f0.f23, .int .u8 p.f0.f24, .int .u8 p.f0.f25, .int .u8 p.f0.f26, .int .u8 p.f0.f27, .int .u8 p.f0.f28, .int .u8 p.f0.f29, .int .u8 p.f0.f30, .int .u8 p.f0.f31, .int .i64 p.f1] 34 (0, 0))) :
    PredBelow Try.prog 50 #[.pointer (some ⟨q, 0, none⟩)] (fun x => .agg (encIn x).toArray) (fun x => oeq x.f0 p) w := fun W x hb => by
  have HM := Aside0.mk ((hb.block q (blk_in hm)).trans hm)
  have HB := Aside0.mk hb
  clear hm hb
  have e1 : (#[Value.agg (encIn x).toArray] ++ #[Value.pointer (some ⟨q, 0, none⟩)] : Array Value) = #[.agg #[.int .u8 x.f0.f0.f0, .int .u8 x.f0.f0.f1, .int .u8 x.f0.f0.f2, .int .u8 x.f0.f0.f3, .int .u8 x.f0.f0.f4, .int .u8 x.f0.f0.f5, .int .u8 x.f0.f0.f6, .int .u8 x.f0.f0.f7, .int .u8 x.f0.f0.f8, .int .u8 x.f0.f0.f9, .int .u8 x.f0.f0.f10, .int .u8 x.f0.f0.f11, .int .u8 x.f0.f0.f12, .int .u8 x.f0.f0.f13, .int .u8 x.f0.f0.f14, .int .u8 x.f0.f0.f15, .int .u8 x.f0.f0.f16, .int .u8 x.f0.f0.f17, .int .u8 x.f0.f0.f18, .int .u8 x.f0.f0.f19, .int .u8 x.f0.f0.f20, .int .u8 x.f0.f0.f21, .int .u8 x.f0.f0.f22, .int .u8 x.f0.f0.f23, .int .u8 x.f0.f0.f24, .int .u8 x.f0.f0.f25, .int .u8 x.f0.f0.f26, .int .u8 x.f0.f0.f27, .int .u8 x.f0.f0.f28, .int .u8 x.f0.f0.f29, .int .u8 x.f0.f0.f30, .int .u8 x.f0.f0.f31, .int .i64 x.f0.f1, .int .i64 x.f1, .int .i64 x.f2.f0, .int .i64 x.f2.f1, .string x.f2.f2], .pointer (some ⟨q, 0, none⟩)] := by simp [encIn]
  show Calls _ _ (#[Value.agg (encIn x).toArray] ++ #[Value.pointer (some ⟨q, 0, none⟩)]) W (fun e w' => e = Ending.returned (Value.bool (oeq x.f0 p)) ∧ Below w.heap.size w w')
  rw [e1]
  clear e1
  go_enter Try.func50, Try.ntmps50
  go_wp2_with (first | ((with_reducible refine gate_dst (N := 2) rfl ?_); refine box_event ?hg (N := 2) ?hd (cs := #[.int .u8 x.f0.f0.f0, .int .u8 x.f0.f0.f1, .int .u8 x.f0.f0.f2, .int .u8 x.f0.f0.f3, .int .u8 x.f0.f0.f4, .int .u8 x.f0.f0.f5, .int .u8 x.f0.f0.f6, .int .u8 x.f0.f0.f7, .int .u8 x.f0.f0.f8, .int .u8 x.f0.f0.f9, .int .u8 x.f0.f0.f10, .int .u8 x.f0.f0.f11, .int .u8 x.f0.f0.f12, .int .u8 x.f0.f0.f13, .int .u8 x.f0.f0.f14, .int .u8 x.f0.f0.f15, .int .u8 x.f0.f0.f16, .int .u8 x.f0.f0.f17, .int .u8 x.f0.f0.f18, .int .u8 x.f0.f0.f19, .int .u8 x.f0.f0.f20, .int .u8 x.f0.f0.f21, .int .u8 x.f0.f0.f22, .int .u8 x.f0.f0.f23, .int .u8 x.f0.f0.f24, .int .u8 x.f0.f0.f25, .int .u8 x.f0.f0.f26, .int .u8 x.f0.f0.f27, .int .u8 x.f0.f0.f28, .int .u8 x.f0.f0.f29, .int .u8 x.f0.f0.f30, .int .u8 x.f0.f0.f31, .int .i64 x.f0.f1, .int .i64 x.f1, .int .i64 x.f2.f0, .int .i64 x.f2.f1, .string x.f2.f2]) (t := 38) ?hr ?_; (case hd => rfl); (case hg => rfl); (case hr => first | (go_simp; done) | (go_simp; rfl)); intro gb hg w3 hbox hb; have HM3 := Aside0.mk (blk_below HM.out hb); have HB3 := Aside0.mk (below_step HB.out hb); have BK := Aside0.mk hbox; clear HM HB hbox hb hg; have hx0 : w3.cell? ⟨q, 0, none⟩ = some _ := (blk_cell HM3.out 0).trans rfl; have hx1 : w3.cell? ⟨q, 1, none⟩ = some _ := (blk_cell HM3.out 1).trans rfl; have hx2 : w3.cell? ⟨q, 2, none⟩ = some _ := (blk_cell HM3.out 2).trans rfl; have hx3 : w3.cell? ⟨q, 3, none⟩ = some _ := (blk_cell HM3.out 3).trans rfl; have hx4 : w3.cell? ⟨q, 4, none⟩ = some _ := (blk_cell HM3.out 4).trans rfl; have hx5 : w3.cell? ⟨q, 5, none⟩ = some _ := (blk_cell HM3.out 5).trans rfl; have hx6 : w3.cell? ⟨q, 6, none⟩ = some _ := (blk_cell HM3.out 6).trans rfl; have hx7 : w3.cell? ⟨q, 7, none⟩ = some _ := (blk_cell HM3.out 7).trans rfl; have hx8 : w3.cell? ⟨q, 8, none⟩ = some _ := (blk_cell HM3.out 8).trans rfl; have hx9 : w3.cell? ⟨q, 9, none⟩ = some _ := (blk_cell HM3.out 9).trans rfl; have hx10 : w3.cell? ⟨q, 10, none⟩ = some _ := (blk_cell HM3.out 10).trans rfl; have hx11 : w3.cell? ⟨q, 11, none⟩ = some _ := (blk_cell HM3.out 11).trans rfl; have hx12 : w3.cell? ⟨q, 12, none⟩ = some _ := (blk_cell HM3.out 12).trans rfl; have hx13 : w3.cell? ⟨q, 13, none⟩ = some _ := (blk_cell HM3.out 13).trans rfl; have hx14 : w3.cell? ⟨q, 14, none⟩ = some _ := (blk_cell HM3.out 14).trans rfl; have hx15 : w3.cell? ⟨q, 15, none⟩ = some _ := (blk_cell HM3.out 15).trans rfl; have hx16 : w3.cell? ⟨q, 16, none⟩ = some _ := (blk_cell HM3.out 16).trans rfl; have hx17 : w3.cell? ⟨q, 17, none⟩ = some _ := (blk_cell HM3.out 17).trans rfl; have hx18 : w3.cell? ⟨q, 18, none⟩ = some _ := (blk_cell HM3.out 18).trans rfl; have hx19 : w3.cell? ⟨q, 19, none⟩ = some _ := (blk_cell HM3.out 19).trans rfl; have hx20 : w3.cell? ⟨q, 20, none⟩ = some _ := (blk_cell HM3.out 20).trans rfl; have hx21 : w3.cell? ⟨q, 21, none⟩ = some _ := (blk_cell HM3.out 21).trans rfl; have hx22 : w3.cell? ⟨q, 22, none⟩ = some _ := (blk_cell HM3.out 22).trans rfl; have hx23 : w3.cell? ⟨q, 23, none⟩ = some _ := (blk_cell HM3.out 23).trans rfl; have hx24 : w3.cell? ⟨q, 24, none⟩ = some _ := (blk_cell HM3.out 24).trans rfl; have hx25 : w3.cell? ⟨q, 25, none⟩ = some _ := (blk_cell HM3.out 25).trans rfl; have hx26 : w3.cell? ⟨q, 26, none⟩ = some _ := (blk_cell HM3.out 26).trans rfl; have hx27 : w3.cell? ⟨q, 27, none⟩ = some _ := (blk_cell HM3.out 27).trans rfl; have hx28 : w3.cell? ⟨q, 28, none⟩ = some _ := (blk_cell HM3.out 28).trans rfl; have hx29 : w3.cell? ⟨q, 29, none⟩ = some _ := (blk_cell HM3.out 29).trans rfl; have hx30 : w3.cell? ⟨q, 30, none⟩ = some _ := (blk_cell HM3.out 30).trans rfl; have hx31 : w3.cell? ⟨q, 31, none⟩ = some _ := (blk_cell HM3.out 31).trans rfl; have hx32 : w3.cell? ⟨q, 32, none⟩ = some _ := (blk_cell HM3.out 32).trans rfl; have hwx := Go.Proofs.Ytiodebjjbgcbhaa.Wide.mk33 (a := ⟨q, 0, none⟩) hx0 hx1 hx2 hx3 hx4 hx5 hx6 hx7 hx8 hx9 hx10 hx11 hx12 hx13 hx14 hx15 hx16 hx17 hx18 hx19 hx20 hx21 hx22 hx23 hx24 hx25 hx26 hx27 hx28 hx29 hx30 hx31 hx32; clear hx0 hx1 hx2 hx3 hx4 hx5 hx6 hx7 hx8 hx9 hx10 hx11 hx12 hx13 hx14 hx15 hx16 hx17 hx18 hx19 hx20 hx21 hx22 hx23 hx24 hx25 hx26 hx27 hx28 hx29 hx30 hx31 hx32; have hx0 : w3.cell? ⟨gb, 0, none⟩ = some _ := (blk_cell BK.out 0).trans rfl; have hx1 : w3.cell? ⟨gb, 1, none⟩ = some _ := (blk_cell BK.out 1).trans rfl; have hx2 : w3.cell? ⟨gb, 2, none⟩ = some _ := (blk_cell BK.out 2).trans rfl; have hx3 : w3.cell? ⟨gb, 3, none⟩ = some _ := (blk_cell BK.out 3).trans rfl; have hx4 : w3.cell? ⟨gb, 4, none⟩ = some _ := (blk_cell BK.out 4).trans rfl; have hx5 : w3.cell? ⟨gb, 5, none⟩ = some _ := (blk_cell BK.out 5).trans rfl; have hx6 : w3.cell? ⟨gb, 6, none⟩ = some _ := (blk_cell BK.out 6).trans rfl; have hx7 : w3.cell? ⟨gb, 7, none⟩ = some _ := (blk_cell BK.out 7).trans rfl; have hx8 : w3.cell? ⟨gb, 8, none⟩ = some _ := (blk_cell BK.out 8).trans rfl; have hx9 : w3.cell? ⟨gb, 9, none⟩ = some _ := (blk_cell BK.out 9).trans rfl; have hx10 : w3.cell? ⟨gb, 10, none⟩ = some _ := (blk_cell BK.out 10).trans rfl; have hx11 : w3.cell? ⟨gb, 11, none⟩ = some _ := (blk_cell BK.out 11).trans rfl; have hx12 : w3.cell? ⟨gb, 12, none⟩ = some _ := (blk_cell BK.out 12).trans rfl; have hx13 : w3.cell? ⟨gb, 13, none⟩ = some _ := (blk_cell BK.out 13).trans rfl; have hx14 : w3.cell? ⟨gb, 14, none⟩ = some _ := (blk_cell BK.out 14).trans rfl; have hx15 : w3.cell? ⟨gb, 15, none⟩ = some _ := (blk_cell BK.out 15).trans rfl; have hx16 : w3.cell? ⟨gb, 16, none⟩ = some _ := (blk_cell BK.out 16).trans rfl; have hx17 : w3.cell? ⟨gb, 17, none⟩ = some _ := (blk_cell BK.out 17).trans rfl; have hx18 : w3.cell? ⟨gb, 18, none⟩ = some _ := (blk_cell BK.out 18).trans rfl; have hx19 : w3.cell? ⟨gb, 19, none⟩ = some _ := (blk_cell BK.out 19).trans rfl; have hx20 : w3.cell? ⟨gb, 20, none⟩ = some _ := (blk_cell BK.out 20).trans rfl; have hx21 : w3.cell? ⟨gb, 21, none⟩ = some _ := (blk_cell BK.out 21).trans rfl; have hx22 : w3.cell? ⟨gb, 22, none⟩ = some _ := (blk_cell BK.out 22).trans rfl; have hx23 : w3.cell? ⟨gb, 23, none⟩ = some _ := (blk_cell BK.out 23).trans rfl; have hx24 : w3.cell? ⟨gb, 24, none⟩ = some _ := (blk_cell BK.out 24).trans rfl; have hx25 : w3.cell? ⟨gb, 25, none⟩ = some _ := (blk_cell BK.out 25).trans rfl; have hx26 : w3.cell? ⟨gb, 26, none⟩ = some _ := (blk_cell BK.out 26).trans rfl; have hx27 : w3.cell? ⟨gb, 27, none⟩ = some _ := (blk_cell BK.out 27).trans rfl; have hx28 : w3.cell? ⟨gb, 28, none⟩ = some _ := (blk_cell BK.out 28).trans rfl; have hx29 : w3.cell? ⟨gb, 29, none⟩ = some _ := (blk_cell BK.out 29).trans rfl; have hx30 : w3.cell? ⟨gb, 30, none⟩ = some _ := (blk_cell BK.out 30).trans rfl; have hx31 : w3.cell? ⟨gb, 31, none⟩ = some _ := (blk_cell BK.out 31).trans rfl; have hx32 : w3.cell? ⟨gb, 32, none⟩ = some _ := (blk_cell BK.out 32).trans rfl; have hwy := Go.Proofs.Ytiodebjjbgcbhaa.Wide.mk33 (a := ⟨gb, 0, none⟩) hx0 hx1 hx2 hx3 hx4 hx5 hx6 hx7 hx8 hx9 hx10 hx11 hx12 hx13 hx14 hx15 hx16 hx17 hx18 hx19 hx20 hx21 hx22 hx23 hx24 hx25 hx26 hx27 hx28 hx29 hx30 hx31 hx32; clear hx0 hx1 hx2 hx3 hx4 hx5 hx6 hx7 hx8 hx9 hx10 hx11 hx12 hx13 hx14 hx15 hx16 hx17 hx18 hx19 hx20 hx21 hx22 hx23 hx24 hx25 hx26 hx27 hx28 hx29 hx30 hx31 hx32))
  go_ret
  exact ⟨rfl, HB3.out⟩
def layIndexIn_ren : Go.Shelf.Ren := ⟨fun | 6 => 49 | n => n, fun | 22 => 25 | 23 => 38 | 25 => 100 | 3 => 3 | 0 => 0 | 4 => 4 | n => n, fun | n => n⟩
theorem layIndexIn : SlLaysH0.n6 Try.prog layIndexIn_ren := {
  mixed := by kernel_rfl,
  f6 := ⟨Try.f49.name, by decide, Try.func49.trans (congrArg some (by kernel_rfl))⟩,
  t0 := Try.underlying0,
  a0 := Try.isAgg0,
  z0 := Try.sizeOf0,
  v0 := Try.zeroValue0,
  t3 := Try.underlying3,
  a3 := Try.isAgg3,
  z3 := Try.sizeOf3,
  v3 := Try.zeroValue3,
  t4 := Try.underlying4,
  a4 := Try.isAgg4,
  z4 := Try.sizeOf4,
  v4 := Try.zeroValue4,
  t22 := Try.underlying25,
  a22 := Try.isAgg25,
  z22 := Try.sizeOf25,
  v22 := Try.zeroValue25,
  t25 := Try.underlying100,
  a25 := Try.isAgg100,
  z25 := Try.sizeOf100,
  v25 := Try.zeroValue100 }
def tx_Spends.f (l0_0 : List S38) (l0_1 : List S64) (a0_2 : Int) (a1_0 : Int) (a1_1 : Int) (a1_2 : Int) (a1_3 : Int) (a1_4 : Int) (a1_5 : Int) (a1_6 : Int) (a1_7 : Int) (a1_8 : Int) (a1_9 : Int) (a1_10 : Int) (a1_11 : Int) (a1_12 : Int) (a1_13 : Int) (a1_14 : Int) (a1_15 : Int) (a1_16 : Int) (a1_17 : Int) (a1_18 : Int) (a1_19 : Int) (a1_20 : Int) (a1_21 : Int) (a1_22 : Int) (a1_23 : Int) (a1_24 : Int) (a1_25 : Int) (a1_26 : Int) (a1_27 : Int) (a1_28 : Int) (a1_29 : Int) (a1_30 : Int) (a1_31 : Int) (a1_32 : Int) : Option Int :=
  some (Go.Proofs.Ytiodebjjbgcbhaa.FindQ.firstOf (fun x => oeq x.f0 (⟨(⟨a1_0, a1_1, a1_2, a1_3, a1_4, a1_5, a1_6, a1_7, a1_8, a1_9, a1_10, a1_11, a1_12, a1_13, a1_14, a1_15, a1_16, a1_17, a1_18, a1_19, a1_20, a1_21, a1_22, a1_23, a1_24, a1_25, a1_26, a1_27, a1_28, a1_29, a1_30, a1_31⟩ : S32), a1_32⟩ : S34)) l0_0)
set_option maxHeartbeats 4000000 in
set_option maxRecDepth 100000 in
theorem tx_Spends.calls (A0_0 : Option Addr) (c0_0 : Nat) (l0_0 : List S38) (A0_1 : Option Addr) (c0_1 : Nat) (l0_1 : List S64) (a0_2 : Int) (a1_0 : Int) (a1_1 : Int) (a1_2 : Int) (a1_3 : Int) (a1_4 : Int) (a1_5 : Int) (a1_6 : Int) (a1_7 : Int) (a1_8 : Int) (a1_9 : Int) (a1_10 : Int) (a1_11 : Int) (a1_12 : Int) (a1_13 : Int) (a1_14 : Int) (a1_15 : Int) (a1_16 : Int) (a1_17 : Int) (a1_18 : Int) (a1_19 : Int) (a1_20 : Int) (a1_21 : Int) (a1_22 : Int) (a1_23 : Int) (a1_24 : Int) (a1_25 : Int) (a1_26 : Int) (a1_27 : Int) (a1_28 : Int) (a1_29 : Int) (a1_30 : Int) (a1_31 : Int) (a1_32 : Int) (r : Int) (w : World) (hr0_0 : Kd.C k38 w A0_0 l0_0.length l0_0) (hc0_0 : l0_0.length ≤ c0_0) (hr0_1 : Kd.C k64 w A0_1 l0_1.length l0_1) (hc0_1 : l0_1.length ≤ c0_1)
    (h : tx_Spends.f l0_0 l0_1 a0_2 a1_0 a1_1 a1_2 a1_3 a1_4 a1_5 a1_6 a1_7 a1_8 a1_9 a1_10 a1_11 a1_12 a1_13 a1_14 a1_15 a1_16 a1_17 a1_18 a1_19 a1_20 a1_21 a1_22 a1_23 a1_24 a1_25 a1_26 a1_27 a1_28 a1_29 a1_30 a1_31 a1_32 = some r) :
    Calls Try.prog 26 #[.agg #[.slice A0_0 l0_0.length c0_0, .slice A0_1 l0_1.length c0_1, .int .i64 a0_2], .agg #[.int .u8 a1_0, .int .u8 a1_1, .int .u8 a1_2, .int .u8 a1_3, .int .u8 a1_4, .int .u8 a1_5, .int .u8 a1_6, .int .u8 a1_7, .int .u8 a1_8, .int .u8 a1_9, .int .u8 a1_10, .int .u8 a1_11, .int .u8 a1_12, .int .u8 a1_13, .int .u8 a1_14, .int .u8 a1_15, .int .u8 a1_16, .int .u8 a1_17, .int .u8 a1_18, .int .u8 a1_19, .int .u8 a1_20, .int .u8 a1_21, .int .u8 a1_22, .int .u8 a1_23, .int .u8 a1_24, .int .u8 a1_25, .int .u8 a1_26, .int .u8 a1_27, .int .u8 a1_28, .int .u8 a1_29, .int .u8 a1_30, .int .u8 a1_31, .int .i64 a1_32]] w fun e w' => e = .returned (.int .i64 r) ∧ Below w.heap.size w w' := by
  obtain rfl := Option.some.inj h
  have HR := Aside0.mk hr0_0
  have HB := Aside0.mk (Below.refl w.heap.size w)
  clear h hr0_0 hr0_1
  have eg : ∀ args w, (callFunc 50 args).run Try.prog w = .ok (.enter 50 args) w := enters_of Try.func50 (by kernel_rfl) rfl
  have EG := Aside0.mk eg
  clear eg
  go_enter Try.func26, Try.ntmps26
  go_wp2_with (first | ((with_reducible refine gate_dst (N := 2) rfl ?_); refine box_event ?hg (N := 2) ?hd (cs := #[.slice A0_0 l0_0.length c0_0, .slice A0_1 l0_1.length c0_1, .int .i64 a0_2]) (t := 28) ?hr ?_; (case hd => rfl); (case hg => rfl); (case hr => first | (go_simp; done) | (go_simp; rfl)); intro gb hg w3 hbox hb; have HB3 := Aside0.mk (below_step HB.out hb); have BK3 := Aside0.mk hbox; clear HB hbox hb hg) | ((with_reducible refine gate_dst (N := 3) rfl ?_); refine box_event ?hg (N := 3) ?hd (cs := #[.int .u8 a1_0, .int .u8 a1_1, .int .u8 a1_2, .int .u8 a1_3, .int .u8 a1_4, .int .u8 a1_5, .int .u8 a1_6, .int .u8 a1_7, .int .u8 a1_8, .int .u8 a1_9, .int .u8 a1_10, .int .u8 a1_11, .int .u8 a1_12, .int .u8 a1_13, .int .u8 a1_14, .int .u8 a1_15, .int .u8 a1_16, .int .u8 a1_17, .int .u8 a1_18, .int .u8 a1_19, .int .u8 a1_20, .int .u8 a1_21, .int .u8 a1_22, .int .u8 a1_23, .int .u8 a1_24, .int .u8 a1_25, .int .u8 a1_26, .int .u8 a1_27, .int .u8 a1_28, .int .u8 a1_29, .int .u8 a1_30, .int .u8 a1_31, .int .i64 a1_32]) (t := 34) ?hr ?_; (case hd => rfl); (case hg => rfl); (case hr => first | (go_simp; done) | (go_simp; rfl)); intro gp hg w4 hbox hb; have HB4 := Aside0.mk (below_step HB3.out hb); have BK4 := Aside0.mk (blk_below BK3.out hb); have BP4 := Aside0.mk hbox; clear HB3 BK3 hbox hb hg; have hz0 : w4.cell? ⟨gb, 0, none⟩ = some (.slice A0_0 l0_0.length c0_0) := (blk_cell BK4.out 0).trans rfl) | (go_at_call 49; refine (Go.Proofs.Ytiodebjjbgcbhaa.FindQ.index_row layIndexIn 37 Try.isAgg38 Try.sizeOf38 encIn (fun _ => rfl) (fun x => oeq x.f0 (⟨(⟨a1_0, a1_1, a1_2, a1_3, a1_4, a1_5, a1_6, a1_7, a1_8, a1_9, a1_10, a1_11, a1_12, a1_13, a1_14, a1_15, a1_16, a1_17, a1_18, a1_19, a1_20, a1_21, a1_22, a1_23, a1_24, a1_25, a1_26, a1_27, a1_28, a1_29, a1_30, a1_31⟩ : S32), a1_32⟩ : S34)) 50 #[.pointer (some ⟨gp, 0, none⟩)] EG.out A0_0 c0_0 l0_0 _ (spends_lit (⟨(⟨a1_0, a1_1, a1_2, a1_3, a1_4, a1_5, a1_6, a1_7, a1_8, a1_9, a1_10, a1_11, a1_12, a1_13, a1_14, a1_15, a1_16, a1_17, a1_18, a1_19, a1_20, a1_21, a1_22, a1_23, a1_24, a1_25, a1_26, a1_27, a1_28, a1_29, a1_30, a1_31⟩ : S32), a1_32⟩ : S34) gp _ BP4.out) (readsIn (Kd.C_below HR.out HB4.out))).mono ?_; rintro e w' ⟨rfl, hb'⟩))
  go_ret
  exact ⟨rfl, below_then HB4.out (Below.size HB4.out) hb'⟩

set_option maxHeartbeats 4000000 in
set_option maxRecDepth 100000 in
theorem conflict_lit (A : Option Addr) (c : Nat) (l : List S38) (A1 : Option Addr) (c1 : Nat) (l1 : List S64) (a2 : Int) (q : Nat) (w : World) (hm : w.heap[q]? = some (.cells #[.slice A l.length c, .slice A1 l1.length c1, .int .i64 a2] 28 (0, 0)))
    (hr : Kd.C k38 w A l.length l) (hc : l.length ≤ c) (hr1 : Kd.C k64 w A1 l1.length l1) (hc1 : l1.length ≤ c1) :
    PredBelow Try.prog 61 #[.pointer (some ⟨q, 0, none⟩)] (fun x => .agg (encIn x).toArray) (fun x => decide (0 ≤ Go.Proofs.Ytiodebjjbgcbhaa.FindQ.firstOf (fun y => oeq y.f0 x.f0) l)) w := fun W x hb => by
  have HM := Aside0.mk ((hb.block q (blk_in hm)).trans hm)
  have HB := Aside0.mk hb
  have HR := Aside0.mk (Kd.C_below hr hb)
  have HR1 := Aside0.mk (Kd.C_below hr1 hb)
  clear hm hb hr hr1
  have e1 : (#[Value.agg (encIn x).toArray] ++ #[Value.pointer (some ⟨q, 0, none⟩)] : Array Value) = #[.agg #[.int .u8 x.f0.f0.f0, .int .u8 x.f0.f0.f1, .int .u8 x.f0.f0.f2, .int .u8 x.f0.f0.f3, .int .u8 x.f0.f0.f4, .int .u8 x.f0.f0.f5, .int .u8 x.f0.f0.f6, .int .u8 x.f0.f0.f7, .int .u8 x.f0.f0.f8, .int .u8 x.f0.f0.f9, .int .u8 x.f0.f0.f10, .int .u8 x.f0.f0.f11, .int .u8 x.f0.f0.f12, .int .u8 x.f0.f0.f13, .int .u8 x.f0.f0.f14, .int .u8 x.f0.f0.f15, .int .u8 x.f0.f0.f16, .int .u8 x.f0.f0.f17, .int .u8 x.f0.f0.f18, .int .u8 x.f0.f0.f19, .int .u8 x.f0.f0.f20, .int .u8 x.f0.f0.f21, .int .u8 x.f0.f0.f22, .int .u8 x.f0.f0.f23, .int .u8 x.f0.f0.f24, .int .u8 x.f0.f0.f25, .int .u8 x.f0.f0.f26, .int .u8 x.f0.f0.f27, .int .u8 x.f0.f0.f28, .int .u8 x.f0.f0.f29, .int .u8 x.f0.f0.f30, .int .u8 x.f0.f0.f31, .int .i64 x.f0.f1, .int .i64 x.f1, .int .i64 x.f2.f0, .int .i64 x.f2.f1, .string x.f2.f2], .pointer (some ⟨q, 0, none⟩)] := by simp [encIn]
  show Calls _ _ (#[Value.agg (encIn x).toArray] ++ #[Value.pointer (some ⟨q, 0, none⟩)]) W (fun e w' => e = Ending.returned (Value.bool (decide (0 ≤ Go.Proofs.Ytiodebjjbgcbhaa.FindQ.firstOf (fun y => oeq y.f0 x.f0) l))) ∧ Below w.heap.size w w')
  rw [e1]
  clear e1
  generalize hf : Go.Proofs.Ytiodebjjbgcbhaa.FindQ.firstOf (fun y => oeq y.f0 x.f0) l = fr
  have HF := Aside0.mk hf
  clear hf
  go_enter Try.func61, Try.ntmps61
  go_wp2_with (first | ((with_reducible refine gate_dst (N := 2) rfl ?_); refine box_event ?hg (N := 2) ?hd (cs := #[.int .u8 x.f0.f0.f0, .int .u8 x.f0.f0.f1, .int .u8 x.f0.f0.f2, .int .u8 x.f0.f0.f3, .int .u8 x.f0.f0.f4, .int .u8 x.f0.f0.f5, .int .u8 x.f0.f0.f6, .int .u8 x.f0.f0.f7, .int .u8 x.f0.f0.f8, .int .u8 x.f0.f0.f9, .int .u8 x.f0.f0.f10, .int .u8 x.f0.f0.f11, .int .u8 x.f0.f0.f12, .int .u8 x.f0.f0.f13, .int .u8 x.f0.f0.f14, .int .u8 x.f0.f0.f15, .int .u8 x.f0.f0.f16, .int .u8 x.f0.f0.f17, .int .u8 x.f0.f0.f18, .int .u8 x.f0.f0.f19, .int .u8 x.f0.f0.f20, .int .u8 x.f0.f0.f21, .int .u8 x.f0.f0.f22, .int .u8 x.f0.f0.f23, .int .u8 x.f0.f0.f24, .int .u8 x.f0.f0.f25, .int .u8 x.f0.f0.f26, .int .u8 x.f0.f0.f27, .int .u8 x.f0.f0.f28, .int .u8 x.f0.f0.f29, .int .u8 x.f0.f0.f30, .int .u8 x.f0.f0.f31, .int .i64 x.f0.f1, .int .i64 x.f1, .int .i64 x.f2.f0, .int .i64 x.f2.f1, .string x.f2.f2]) (t := 38) ?hr ?_; (case hd => rfl); (case hg => rfl); (case hr => first | (go_simp; done) | (go_simp; rfl)); intro gb hg w3 hbox hb; have HM3 := Aside0.mk (blk_below HM.out hb); have HB3 := Aside0.mk (below_step HB.out hb); have HR3 := Aside0.mk (Kd.C_below HR.out hb); have HR13 := Aside0.mk (Kd.C_below HR1.out hb); have BK := Aside0.mk hbox; clear HM HB HR HR1 hbox hb hg; have hz0 : w3.cell? ⟨q, 0, none⟩ = some (.slice A l.length c) := (blk_cell HM3.out 0).trans rfl; have hz1 : w3.cell? ⟨q, 1, none⟩ = some (.slice A1 l1.length c1) := (blk_cell HM3.out 1).trans rfl; have hz2 : w3.cell? ⟨q, 2, none⟩ = some (.int .i64 a2) := (blk_cell HM3.out 2).trans rfl; have hx0 : w3.cell? ⟨gb, 0, none⟩ = some _ := (blk_cell BK.out 0).trans rfl; have hx1 : w3.cell? ⟨gb, 1, none⟩ = some _ := (blk_cell BK.out 1).trans rfl; have hx2 : w3.cell? ⟨gb, 2, none⟩ = some _ := (blk_cell BK.out 2).trans rfl; have hx3 : w3.cell? ⟨gb, 3, none⟩ = some _ := (blk_cell BK.out 3).trans rfl; have hx4 : w3.cell? ⟨gb, 4, none⟩ = some _ := (blk_cell BK.out 4).trans rfl; have hx5 : w3.cell? ⟨gb, 5, none⟩ = some _ := (blk_cell BK.out 5).trans rfl; have hx6 : w3.cell? ⟨gb, 6, none⟩ = some _ := (blk_cell BK.out 6).trans rfl; have hx7 : w3.cell? ⟨gb, 7, none⟩ = some _ := (blk_cell BK.out 7).trans rfl; have hx8 : w3.cell? ⟨gb, 8, none⟩ = some _ := (blk_cell BK.out 8).trans rfl; have hx9 : w3.cell? ⟨gb, 9, none⟩ = some _ := (blk_cell BK.out 9).trans rfl; have hx10 : w3.cell? ⟨gb, 10, none⟩ = some _ := (blk_cell BK.out 10).trans rfl; have hx11 : w3.cell? ⟨gb, 11, none⟩ = some _ := (blk_cell BK.out 11).trans rfl; have hx12 : w3.cell? ⟨gb, 12, none⟩ = some _ := (blk_cell BK.out 12).trans rfl; have hx13 : w3.cell? ⟨gb, 13, none⟩ = some _ := (blk_cell BK.out 13).trans rfl; have hx14 : w3.cell? ⟨gb, 14, none⟩ = some _ := (blk_cell BK.out 14).trans rfl; have hx15 : w3.cell? ⟨gb, 15, none⟩ = some _ := (blk_cell BK.out 15).trans rfl; have hx16 : w3.cell? ⟨gb, 16, none⟩ = some _ := (blk_cell BK.out 16).trans rfl; have hx17 : w3.cell? ⟨gb, 17, none⟩ = some _ := (blk_cell BK.out 17).trans rfl; have hx18 : w3.cell? ⟨gb, 18, none⟩ = some _ := (blk_cell BK.out 18).trans rfl; have hx19 : w3.cell? ⟨gb, 19, none⟩ = some _ := (blk_cell BK.out 19).trans rfl; have hx20 : w3.cell? ⟨gb, 20, none⟩ = some _ := (blk_cell BK.out 20).trans rfl; have hx21 : w3.cell? ⟨gb, 21, none⟩ = some _ := (blk_cell BK.out 21).trans rfl; have hx22 : w3.cell? ⟨gb, 22, none⟩ = some _ := (blk_cell BK.out 22).trans rfl; have hx23 : w3.cell? ⟨gb, 23, none⟩ = some _ := (blk_cell BK.out 23).trans rfl; have hx24 : w3.cell? ⟨gb, 24, none⟩ = some _ := (blk_cell BK.out 24).trans rfl; have hx25 : w3.cell? ⟨gb, 25, none⟩ = some _ := (blk_cell BK.out 25).trans rfl; have hx26 : w3.cell? ⟨gb, 26, none⟩ = some _ := (blk_cell BK.out 26).trans rfl; have hx27 : w3.cell? ⟨gb, 27, none⟩ = some _ := (blk_cell BK.out 27).trans rfl; have hx28 : w3.cell? ⟨gb, 28, none⟩ = some _ := (blk_cell BK.out 28).trans rfl; have hx29 : w3.cell? ⟨gb, 29, none⟩ = some _ := (blk_cell BK.out 29).trans rfl; have hx30 : w3.cell? ⟨gb, 30, none⟩ = some _ := (blk_cell BK.out 30).trans rfl; have hx31 : w3.cell? ⟨gb, 31, none⟩ = some _ := (blk_cell BK.out 31).trans rfl; have hx32 : w3.cell? ⟨gb, 32, none⟩ = some _ := (blk_cell BK.out 32).trans rfl; have hwy := Go.Proofs.Ytiodebjjbgcbhaa.Wide.mk33 (a := ⟨gb, 0, none⟩) hx0 hx1 hx2 hx3 hx4 hx5 hx6 hx7 hx8 hx9 hx10 hx11 hx12 hx13 hx14 hx15 hx16 hx17 hx18 hx19 hx20 hx21 hx22 hx23 hx24 hx25 hx26 hx27 hx28 hx29 hx30 hx31 hx32; clear hx0 hx1 hx2 hx3 hx4 hx5 hx6 hx7 hx8 hx9 hx10 hx11 hx12 hx13 hx14 hx15 hx16 hx17 hx18 hx19 hx20 hx21 hx22 hx23 hx24 hx25 hx26 hx27 hx28 hx29 hx30 hx31 hx32) | (go_at_call 26; refine (tx_Spends.calls A c l A1 c1 l1 a2 (x.f0.f0.f0) (x.f0.f0.f1) (x.f0.f0.f2) (x.f0.f0.f3) (x.f0.f0.f4) (x.f0.f0.f5) (x.f0.f0.f6) (x.f0.f0.f7) (x.f0.f0.f8) (x.f0.f0.f9) (x.f0.f0.f10) (x.f0.f0.f11) (x.f0.f0.f12) (x.f0.f0.f13) (x.f0.f0.f14) (x.f0.f0.f15) (x.f0.f0.f16) (x.f0.f0.f17) (x.f0.f0.f18) (x.f0.f0.f19) (x.f0.f0.f20) (x.f0.f0.f21) (x.f0.f0.f22) (x.f0.f0.f23) (x.f0.f0.f24) (x.f0.f0.f25) (x.f0.f0.f26) (x.f0.f0.f27) (x.f0.f0.f28) (x.f0.f0.f29) (x.f0.f0.f30) (x.f0.f0.f31) (x.f0.f1) fr _ HR3.out hc HR13.out hc1 (congrArg some HF.out)).mono ?_; rintro e w' ⟨rfl, hb'⟩))
  go_ret
  exact ⟨rfl, below_then HB3.out (Below.size HB3.out) hb'⟩
def layContainsIn_ren : Go.Shelf.Ren := ⟨fun | 8 => 60 | 6 => 49 | n => n, fun | 22 => 25 | 23 => 38 | 25 => 100 | 4 => 4 | 3 => 3 | 0 => 0 | n => n, fun | n => n⟩
theorem layContainsIn : SlLaysH0.n8 Try.prog layContainsIn_ren := {
  mixed := by kernel_rfl,
  f6 := ⟨Try.f49.name, by decide, Try.func49.trans (congrArg some (by kernel_rfl))⟩,
  f8 := ⟨Try.f60.name, by decide, Try.func60.trans (congrArg some (by kernel_rfl))⟩,
  t0 := Try.underlying0,
  a0 := Try.isAgg0,
  z0 := Try.sizeOf0,
  v0 := Try.zeroValue0,
  t3 := Try.underlying3,
  a3 := Try.isAgg3,
  z3 := Try.sizeOf3,
  v3 := Try.zeroValue3,
  t4 := Try.underlying4,
  a4 := Try.isAgg4,
  z4 := Try.sizeOf4,
  v4 := Try.zeroValue4,
  t22 := Try.underlying25,
  a22 := Try.isAgg25,
  z22 := Try.sizeOf25,
  v22 := Try.zeroValue25,
  t25 := Try.underlying100,
  a25 := Try.isAgg100,
  z25 := Try.sizeOf100,
  v25 := Try.zeroValue100 }
def tx_Conflict.f (l0_0 : List S38) (l0_1 : List S64) (a0_2 : Int) (l1_0 : List S38) (l1_1 : List S64) (a1_2 : Int) : Option Bool :=
  some (l0_0.any fun x => decide (0 ≤ Go.Proofs.Ytiodebjjbgcbhaa.FindQ.firstOf (fun y => oeq y.f0 x.f0) l1_0))
set_option maxHeartbeats 4000000 in
set_option maxRecDepth 100000 in
theorem tx_Conflict.calls (A0_0 : Option Addr) (c0_0 : Nat) (l0_0 : List S38) (A0_1 : Option Addr) (c0_1 : Nat) (l0_1 : List S64) (a0_2 : Int) (A1_0 : Option Addr) (c1_0 : Nat) (l1_0 : List S38) (A1_1 : Option Addr) (c1_1 : Nat) (l1_1 : List S64) (a1_2 : Int) (r : Bool) (w : World) (hr0_0 : Kd.C k38 w A0_0 l0_0.length l0_0) (hc0_0 : l0_0.length ≤ c0_0) (hr0_1 : Kd.C k64 w A0_1 l0_1.length l0_1) (hc0_1 : l0_1.length ≤ c0_1) (hr1_0 : Kd.C k38 w A1_0 l1_0.length l1_0) (hc1_0 : l1_0.length ≤ c1_0) (hr1_1 : Kd.C k64 w A1_1 l1_1.length l1_1) (hc1_1 : l1_1.length ≤ c1_1)
    (h : tx_Conflict.f l0_0 l0_1 a0_2 l1_0 l1_1 a1_2 = some r) :
    Calls Try.prog 31 #[.agg #[.slice A0_0 l0_0.length c0_0, .slice A0_1 l0_1.length c0_1, .int .i64 a0_2], .agg #[.slice A1_0 l1_0.length c1_0, .slice A1_1 l1_1.length c1_1, .int .i64 a1_2]] w fun e w' => e = .returned (.bool r) ∧ Below w.heap.size w w' := by
  obtain rfl := Option.some.inj h
  have HR := Aside0.mk hr0_0
  have HR1 := Aside0.mk hr1_0
  have HR11 := Aside0.mk hr1_1
  have HB := Aside0.mk (Below.refl w.heap.size w)
  clear h hr0_0 hr0_1 hr1_0 hr1_1
  have eg : ∀ args w, (callFunc 61 args).run Try.prog w = .ok (.enter 61 args) w := enters_of Try.func61 (by kernel_rfl) rfl
  have EG := Aside0.mk eg
  clear eg
  go_enter Try.func31, Try.ntmps31
  go_wp2_with (first | ((with_reducible refine gate_dst (N := 2) rfl ?_); refine box_event ?hg (N := 2) ?hd (cs := #[.slice A0_0 l0_0.length c0_0, .slice A0_1 l0_1.length c0_1, .int .i64 a0_2]) (t := 28) ?hr ?_; (case hd => rfl); (case hg => rfl); (case hr => first | (go_simp; done) | (go_simp; rfl)); intro gb hg w3 hbox hb; have HB3 := Aside0.mk (below_step HB.out hb); have BK3 := Aside0.mk hbox; clear HB hbox hb hg) | ((with_reducible refine gate_dst (N := 3) rfl ?_); refine box_event ?hg (N := 3) ?hd (cs := #[.slice A1_0 l1_0.length c1_0, .slice A1_1 l1_1.length c1_1, .int .i64 a1_2]) (t := 28) ?hr ?_; (case hd => rfl); (case hg => rfl); (case hr => first | (go_simp; done) | (go_simp; rfl)); intro gp hg w4 hbox hb; have HB4 := Aside0.mk (below_step HB3.out hb); have BK4 := Aside0.mk (blk_below BK3.out hb); have BP4 := Aside0.mk hbox; clear HB3 BK3 hbox hb hg; have hz0 : w4.cell? ⟨gb, 0, none⟩ = some (.slice A0_0 l0_0.length c0_0) := (blk_cell BK4.out 0).trans rfl) | (go_at_call 60; refine (Go.Proofs.Ytiodebjjbgcbhaa.FindQ.contains_row layContainsIn 37 Try.isAgg38 Try.sizeOf38 encIn (fun _ => rfl) _ 61 #[.pointer (some ⟨gp, 0, none⟩)] EG.out A0_0 c0_0 l0_0 _ (conflict_lit A1_0 c1_0 l1_0 A1_1 c1_1 l1_1 a1_2 gp _ BP4.out (Kd.C_below HR1.out HB4.out) hc1_0 (Kd.C_below HR11.out HB4.out) hc1_1) (readsIn (Kd.C_below HR.out HB4.out))).mono ?_; rintro e w' ⟨rfl, hb'⟩))
  go_ret
  exact ⟨rfl, below_then HB4.out (Below.size HB4.out) hb'⟩

/-! ### replace_Conflicts: function 13 -/
def replace_Conflicts.l0 : Nat → List Int → List (S39) → Int → Int → List (S38) → List (S64) → Int → Int → Int → Option (List Int)
  | 0, _, _, _, _, _, _, _, _, _ => none
  | k + 1, x4, x7, x8, x9, x108000, x108001, x108002, x108003, x108004 => if x9 < x8 then (if 0 ≤ x9 then (if x9 < (x7.length : Int) then ((tx_Conflict.f ((rd_T39 x7 x9).f0.f0) ((rd_T39 x7 x9).f0.f1) ((rd_T39 x7 x9).f0.f2) x108000 x108001 x108002).bind fun t110 => (if t110 = true then (if x4.length < 17592186044416 then (replace_Conflicts.l0 k (x4 ++ [x9]) x7 x8 (wrap64 (x9 + 1)) x108000 x108001 x108002 x108003 x108004) else (none)) else (replace_Conflicts.l0 k x4 x7 x8 (wrap64 (x9 + 1)) x108000 x108001 x108002 x108003 x108004))) else (none)) else (none)) else (some x4)
def replace_Conflicts.f (k : Nat) (l0 : List (S39)) (l1_0 : List (S38)) (l1_1 : List (S64)) (a1_2 : Int) (a1_3 : Int) (a1_4 : Int) : Option (List Int) := replace_Conflicts.l0 k ([] : List Int) l0 (l0.length : Int) 0 l1_0 l1_1 a1_2 a1_3 a1_4
theorem replace_Conflicts.mono_l : ∀ k, (∀ y0 y1 y2 y3 y4 y5 y6 y7 y8, LeO (replace_Conflicts.l0 k y0 y1 y2 y3 y4 y5 y6 y7 y8) (replace_Conflicts.l0 (k + 1) y0 y1 y2 y3 y4 y5 y6 y7 y8))
  | 0 => fun _ _ _ _ _ _ _ _ _ r h => by simp [replace_Conflicts.l0] at h
  | k + 1 => by
    have ih0 := replace_Conflicts.mono_l k
    · intro y0 y1 y2 y3 y4 y5 y6 y7 y8
      unfold replace_Conflicts.l0
      repeat' first
      | (with_reducible exact ih0 _ _ _ _ _ _ _ _ _)
      | (with_reducible exact LeO.refl _)
      | (with_reducible exact LeO.none _)
      | (with_reducible refine LeO.ite ?_ ?_)
      | (with_reducible refine LeO.bind ?_ (fun _ => ?_))
      | exact ih0 _ _ _ _ _ _ _ _ _
      | exact LeO.none _
      | refine LeO.ite ?_ ?_
      | refine LeO.bind ?_ (fun _ => ?_)
theorem replace_Conflicts.mono : ∀ a0 a1 a2 a3 a4 a5 k, LeO (replace_Conflicts.f k a0 a1 a2 a3 a4 a5) (replace_Conflicts.f (k + 1) a0 a1 a2 a3 a4 a5) := by
  intro a0 a1 a2 a3 a4 a5 k
  have ih0 := replace_Conflicts.mono_l k
  unfold replace_Conflicts.f
  repeat' first
      | (with_reducible exact ih0 _ _ _ _ _ _ _ _ _)
      | (with_reducible exact LeO.refl _)
      | (with_reducible exact LeO.none _)
      | (with_reducible refine LeO.ite ?_ ?_)
      | (with_reducible refine LeO.bind ?_ (fun _ => ?_))
      | exact ih0 _ _ _ _ _ _ _ _ _
      | exact LeO.none _
      | refine LeO.ite ?_ ?_
      | refine LeO.bind ?_ (fun _ => ?_)
set_option maxHeartbeats 8000000 in
set_option maxRecDepth 100000 in
theorem replace_Conflicts.calls (k : Nat) (A0 : Option Addr) (c0 : Nat) (l0 : List (S39)) (A1_0 : Option Addr) (c1_0 : Nat) (l1_0 : List (S38)) (A1_1 : Option Addr) (c1_1 : Nat) (l1_1 : List (S64)) (a1_2 : Int) (a1_3 : Int) (a1_4 : Int) (r : List Int) (w : World) (hr0 : Kd.C k39 w A0 l0.length l0) (hc0 : l0.length ≤ c0) (hr1_0 : Kd.C k38 w A1_0 l1_0.length l1_0) (hc1_0 : l1_0.length ≤ c1_0) (hr1_1 : Kd.C k64 w A1_1 l1_1.length l1_1) (hc1_1 : l1_1.length ≤ c1_1) (h : replace_Conflicts.f k l0 l1_0 l1_1 a1_2 a1_3 a1_4 = some r) :
  Calls Try.prog 13 #[.slice A0 l0.length c0, .agg #[.slice A1_0 l1_0.length c1_0, .slice A1_1 l1_1.length c1_1, .int .i64 a1_2, .int .i64 a1_3, .int .i64 a1_4]] w fun e w' => ∃ v0_ : Value, e = .returned (v0_) ∧ Kd.R (Kd.int .i64) 3 w' w.heap.size (fun _ => True) v0_ r ∧ Below w.heap.size w w' := by
 have hu39 := Try.underlying39
 have hu28 := Try.underlying28
 have HR0 := Aside0.mk hr0
 have HC0 := Aside0.mk hc0
 clear hr0 hc0
 have HR1_0 := Aside0.mk hr1_0
 have HC1_0 := Aside0.mk hc1_0
 clear hr1_0 hc1_0
 have HR1_1 := Aside0.mk hr1_1
 have HC1_1 := Aside0.mk hc1_1
 clear hr1_1 hc1_1
 have HB := Aside0.mk (Below.refl w.heap.size w)
 have H : (replace_Conflicts.l0 k ([] : List Int) l0 (l0.length : Int) 0 l1_0 l1_1 a1_2 a1_3 a1_4) = some r := h
 clear h
 have H' := Aside0.mk H
 clear H
 go_enter Try.func13, Try.ntmps13
 go_wp2_with (first | ((with_reducible refine gate_dst (N := 3) rfl ?_); refine box_event ?hg (N := 3) ?hd (cs := #[.slice A1_0 l1_0.length c1_0, .slice A1_1 l1_1.length c1_1, .int .i64 a1_2, .int .i64 a1_3, .int .i64 a1_4]) (t := 39) ?hr ?_; (case hd => rfl); (case hg => rfl); (case hr => first | (go_simp; done) | (go_simp; rfl)); intro gb107 hg w3 hbox hb; have n0_ := Aside0.mk (below_step (by repeat (first | (with_reducible first | exact HB.out | apply below_alloc | apply pw_below_drewN | apply below_drew1) | exact HB.out)) hb); have n1_ := Aside0.mk (hbox); have n2_ := Aside0.mk ((by rw [hg]; exact (below_size (by repeat (first | (with_reducible first | exact HB.out | apply below_alloc | apply pw_below_drewN | apply below_drew1) | exact HB.out))) : w.heap.size ≤ gb107)); have n3_ := Aside0.mk ((by rw [hg]; exact (below_size (by repeat (first | (with_reducible first | exact HB.out | apply below_alloc | apply pw_below_drewN | apply below_drew1) | exact HB.out))) : w.heap.size ≤ gb107)); clear HB; have HB := n0_; have BK107 := n1_; have GW107 := n2_; have GE107 := n3_; clear n0_ n1_ n2_ n3_; clear hb hbox hg))
 go_loopg [4, 9] k (fun kq v4 v9 w' => ∃ (x4_1 : List Int) (x9_1 : Int), v9 = .int .i64 x9_1 ∧ Aside0 (replace_Conflicts.l0 kq x4_1 l0 (l0.length : Int) x9_1 l1_0 l1_1 a1_2 a1_3 a1_4 = some r) ∧ Aside0 (kq ≤ k) ∧ Aside0 (Kd.R (Kd.int .i64) 3 w' w.heap.size (fun _ => True) v4 x4_1) ∧ Aside0 (w'.heap[gb107]? = some (.cells #[(.slice A1_0 l1_0.length c1_0), (.slice A1_1 l1_1.length c1_1), .int .i64 a1_2, .int .i64 a1_3, .int .i64 a1_4] 39 (0, 0))) ∧ Aside0 (Below w.heap.size w w'))
 case atStart => exact ⟨(([] : List Int)), (0), (by first | rfl | (simp; done) | (simp [*]; done)), H', ⟨Nat.le_refl _⟩, ⟨by first | exact Kd.R_nil _ _ _ _ _ | exact Kd.N_nil _ _ _ _ _ | exact Kd.V_nil _ _ _ _ _ | exact Kd.Q_nil _ _ _ _ _ | exact Kd.S_nil _ _ _ _ _⟩, ⟨by (with_reducible repeat (first | refine blk_drewN ?_ _ | refine blk_drew ?_ | refine blk_alloc ?_ _)); exact BK107.out⟩, ⟨by repeat (first | (with_reducible first | exact HB.out | apply below_alloc | apply pw_below_drewN | apply below_drew1 | refine below_set ?_ GE107.out) | exact HB.out)⟩⟩
 case round =>
  clear H'
  try clear c1
  try clear p2
  obtain ⟨x4_1, x9_1, rfl, HA, HK1, HO_4, BK107, HB⟩ := hrel
  cases gk with
  | zero => exact absurd HA.out (by simp [replace_Conflicts.l0])
  | succ k1 =>
   have H := HA.out
   clear HA
   simp only [replace_Conflicts.l0] at H
   by_cases c4 : x9_1 < (l0.length : Int)
   ·
    rw [if_pos c4] at H
    have c4b0 : decide (x9_1 < (l0.length : Int)) = true := decide_eq_true c4
    clear c4
    by_cases c5 : 0 ≤ x9_1
    ·
     rw [if_pos c5] at H
     have c5b0 : decide (0 ≤ x9_1) = true := decide_eq_true c5
     clear c5
     by_cases c6 : x9_1 < (l0.length : Int)
     ·
      rw [if_pos c6] at H
      have c6b0 : decide (x9_1 < (l0.length : Int)) = true := decide_eq_true c6
      clear c6
      replace H := Option.bind_eq_some_iff.mp H
      obtain ⟨t110, A70, H⟩ := H
      replace H : (if t110 = true then (if x4_1.length < 17592186044416 then (replace_Conflicts.l0 k1 (x4_1 ++ [x9_1]) l0 (l0.length : Int) (wrap64 (x9_1 + 1)) l1_0 l1_1 a1_2 a1_3 a1_4) else (none)) else (replace_Conflicts.l0 k1 x4_1 l0 (l0.length : Int) (wrap64 (x9_1 + 1)) l1_0 l1_1 a1_2 a1_3 a1_4)) = some r := H
      have A7 := Aside0.mk A70
      clear A70
      by_cases c8 : t110 = true
      ·
       subst c8
       have H1 : (if x4_1.length < 17592186044416 then (replace_Conflicts.l0 k1 (x4_1 ++ [x9_1]) l0 (l0.length : Int) (wrap64 (x9_1 + 1)) l1_0 l1_1 a1_2 a1_3 a1_4) else (none)) = some r := by rw [if_pos rfl] at H; exact H
       clear H
       have H := H1
       clear H1
       by_cases c9 : x4_1.length < 17592186044416
       ·
        rw [if_pos c9] at H
        have LMc9 := Aside0.mk c9
        clear c9
        obtain ⟨y111, hy111⟩ : ∃ y_ : List Int, y_ = (x4_1 ++ [x9_1]) := ⟨_, rfl⟩
        replace H : (replace_Conflicts.l0 k1 y111 l0 (l0.length : Int) (wrap64 (x9_1 + 1)) l1_0 l1_1 a1_2 a1_3 a1_4) = some r := by first | (rw [hy111]; with_reducible exact H) | (have H2_ := (Option.bind_some _ _).symm.trans H; rw [hy111]; with_reducible exact H2_) | (have H2_ := (Option.bind_some _ _).symm.trans H; with_reducible exact H2_) | with_reducible exact H | (rw [hy111]; exact H) | exact H
        have Ny111 := Aside0.mk hy111
        clear hy111
        have H' := Aside0.mk H
        clear H
        have p108 : 0 ≤ (x9_1 : Int) := of_decide_eq_true (by first | (with_reducible assumption) | assumption)
        have q108 : x9_1 < (l0.length : Int) := of_decide_eq_true (by first | (with_reducible assumption) | assumption)
        obtain ⟨ad108, A108_0, c108_0, A108_1, c108_1, e108, hx108_0, hx108_1, hx108_2, hx108_3, hx108_4, hl108_0, hi108_0, hl108_1, hi108_1⟩ := at_T39 HR0.out x9_1 p108 q108
        cases e108
        replace hx108_0 := (HB.out.cell (World.block_lt_of_cell? w _ hx108_0)).trans hx108_0
        replace hx108_1 := (HB.out.cell (World.block_lt_of_cell? w _ hx108_1)).trans hx108_1
        replace hx108_2 := (HB.out.cell (World.block_lt_of_cell? w _ hx108_2)).trans hx108_2
        replace hx108_3 := (HB.out.cell (World.block_lt_of_cell? w _ hx108_3)).trans hx108_3
        replace hx108_4 := (HB.out.cell (World.block_lt_of_cell? w _ hx108_4)).trans hx108_4
        have HR108_0 := Aside0.mk hi108_0
        have HC108_0 := Aside0.mk hl108_0
        clear hi108_0 hl108_0
        have HR108_1 := Aside0.mk hi108_1
        have HC108_1 := Aside0.mk hl108_1
        clear hi108_1 hl108_1
        replace p108 := eq_true p108
        replace q108 := eq_true q108
        go_wp2_with (first | ((with_reducible refine gate_dst (N := 6) rfl ?_); refine box_event ?hg (N := 6) ?hd (cs := #[.slice none 0 0, .slice none 0 0, .int .i64 0, .int .i64 0, .int .i64 0]) (t := 39) ?hr ?_; (case hd => rfl); (case hg => rfl); (case hr => first | (go_simp; done) | (go_simp; rfl)); intro gb109 hg w10 hbox hb; have n0_ := Aside0.mk (Kd.R_below (by (with_reducible repeat (first | apply Kd.R_alloc | apply Kd.R_drewN | apply Kd.R_drew)); exact HO_4.out) hb); have n1_ := Aside0.mk (blk_below (g := gb107) (o := .cells #[.slice A1_0 l1_0.length c1_0, .slice A1_1 l1_1.length c1_1, .int .i64 a1_2, .int .i64 a1_3, .int .i64 a1_4] 39 (0, 0)) (by (with_reducible repeat (first | refine blk_drewN ?_ _ | refine blk_drew ?_ | refine blk_alloc ?_ _)); exact BK107.out) hb); have n2_ := Aside0.mk (below_step (by repeat (first | (with_reducible first | exact HB.out | apply below_alloc | apply pw_below_drewN | apply below_drew1 | refine below_set ?_ GE107.out) | exact HB.out)) hb); have n3_ := Aside0.mk (hbox); have n4_ := Aside0.mk ((by rw [hg]; exact (below_size (by repeat (first | (with_reducible first | exact HB.out | apply below_alloc | apply pw_below_drewN | apply below_drew1 | refine below_set ?_ GE107.out) | exact HB.out))) : w.heap.size ≤ gb109)); have n5_ := Aside0.mk ((by rw [hg]; exact (below_size (by repeat (first | (with_reducible first | exact HB.out | apply below_alloc | apply pw_below_drewN | apply below_drew1 | refine below_set ?_ GE107.out) | exact HB.out))) : w.heap.size ≤ gb109)); have n6_ := Aside0.mk ((by rw [hg]; exact Nat.ne_of_lt (blk_lt (g := gb107) (o := .cells #[.slice A1_0 l1_0.length c1_0, .slice A1_1 l1_1.length c1_1, .int .i64 a1_2, .int .i64 a1_3, .int .i64 a1_4] 39 (0, 0)) (by (with_reducible repeat (first | refine blk_drewN ?_ _ | refine blk_drew ?_ | refine blk_alloc ?_ _)); exact BK107.out)) : gb107 ≠ gb109)); have n7_ := Aside0.mk ((by rw [hg]; exact Nat.ne_of_gt (blk_lt (g := gb107) (o := .cells #[.slice A1_0 l1_0.length c1_0, .slice A1_1 l1_1.length c1_1, .int .i64 a1_2, .int .i64 a1_3, .int .i64 a1_4] 39 (0, 0)) (by (with_reducible repeat (first | refine blk_drewN ?_ _ | refine blk_drew ?_ | refine blk_alloc ?_ _)); exact BK107.out)) : gb109 ≠ gb107)); clear HO_4; clear BK107; clear HB; have HO_4 := n0_; have BK107 := n1_; have HB := n2_; have BK109 := n3_; have GW109 := n4_; have GE109 := n5_; have NB107_109 := n6_; have NB109_107 := n7_; clear n0_ n1_ n2_ n3_ n4_ n5_ n6_ n7_; clear hb hbox hg; have hnb11 := NB109_107.out; have hnc11 := NB107_109.out; have hcz12_0 : w10.cell? ⟨gb109, 0, none⟩ = some (.slice none 0 0) := (blk_cell BK109.out 0).trans rfl; have hcz12_1 : w10.cell? ⟨gb109, 1, none⟩ = some (.slice none 0 0) := (blk_cell BK109.out 1).trans rfl; have hcz12_2 : w10.cell? ⟨gb109, 2, none⟩ = some (.int .i64 0) := (blk_cell BK109.out 2).trans rfl; have hcz12_3 : w10.cell? ⟨gb109, 3, none⟩ = some (.int .i64 0) := (blk_cell BK109.out 3).trans rfl; have hcz12_4 : w10.cell? ⟨gb109, 4, none⟩ = some (.int .i64 0) := (blk_cell BK109.out 4).trans rfl; have hfz12_0 := blk_frozen BK109.out 0; have hfz12_1 := blk_frozen BK109.out 1; have hfz12_2 := blk_frozen BK109.out 2; have hfz12_3 := blk_frozen BK109.out 3; have hfz12_4 := blk_frozen BK109.out 4; have hcz13_0 : w10.cell? ⟨gb107, 0, none⟩ = some (.slice A1_0 l1_0.length c1_0) := (blk_cell BK107.out 0).trans rfl; have hcz13_1 : w10.cell? ⟨gb107, 1, none⟩ = some (.slice A1_1 l1_1.length c1_1) := (blk_cell BK107.out 1).trans rfl; have hcz13_2 : w10.cell? ⟨gb107, 2, none⟩ = some (.int .i64 a1_2) := (blk_cell BK107.out 2).trans rfl; have hcz13_3 : w10.cell? ⟨gb107, 3, none⟩ = some (.int .i64 a1_3) := (blk_cell BK107.out 3).trans rfl; have hcz13_4 : w10.cell? ⟨gb107, 4, none⟩ = some (.int .i64 a1_4) := (blk_cell BK107.out 4).trans rfl; have hfz13_0 := blk_frozen BK107.out 0; have hfz13_1 := blk_frozen BK107.out 1; have hfz13_2 := blk_frozen BK107.out 2; have hfz13_3 := blk_frozen BK107.out 3; have hfz13_4 := blk_frozen BK107.out 4) | ((with_reducible refine gate_callee (f := 31) rfl ?_); refine goesL_ (some 18) rfl rfl Try.func31 (by kernel_rfl) rfl #[.agg #[.slice A108_0 ((rd_T39 l0 x9_1).f0.f0).length c108_0, .slice A108_1 ((rd_T39 l0 x9_1).f0.f1).length c108_1, .int .i64 ((rd_T39 l0 x9_1).f0.f2)], .agg #[.slice A1_0 l1_0.length c1_0, .slice A1_1 l1_1.length c1_1, .int .i64 a1_2]] rfl (by (try simp only [List.map_toArray, List.map_cons, List.map_nil]); first | done | rfl | (simp only [List.length_drop, List.length_take]; rfl)) ?_; (with_reducible refine (tx_Conflict.calls _ _ ((rd_T39 l0 x9_1).f0.f0) _ _ ((rd_T39 l0 x9_1).f0.f1) ((rd_T39 l0 x9_1).f0.f2) _ _ l1_0 _ _ l1_1 a1_2 true _ ?side1 ?side2 ?side3 ?side4 ?side5 ?side6 ?side7 ?side8 A7.out).mono ?_); (case side1 => exact Kd.C_below HR108_0.out (by repeat (first | (with_reducible first | exact HB.out | apply below_alloc | apply pw_below_drewN | apply below_drew1 | refine below_set ?_ GE107.out | refine below_set ?_ GE109.out) | exact HB.out))); (case side2 => exact HC108_0.out); (case side3 => exact Kd.C_below HR108_1.out (by repeat (first | (with_reducible first | exact HB.out | apply below_alloc | apply pw_below_drewN | apply below_drew1 | refine below_set ?_ GE107.out | refine below_set ?_ GE109.out) | exact HB.out))); (case side4 => exact HC108_1.out); (case side5 => exact Kd.C_below HR1_0.out (by repeat (first | (with_reducible first | exact HB.out | apply below_alloc | apply pw_below_drewN | apply below_drew1 | refine below_set ?_ GE107.out | refine below_set ?_ GE109.out) | exact HB.out))); (case side6 => exact HC1_0.out); (case side7 => exact Kd.C_below HR1_1.out (by repeat (first | (with_reducible first | exact HB.out | apply below_alloc | apply pw_below_drewN | apply below_drew1 | refine below_set ?_ GE107.out | refine below_set ?_ GE109.out) | exact HB.out))); (case side8 => exact HC1_1.out); rintro e w14 ⟨rfl, hb⟩; refine ⟨_, rfl, ?_⟩; have n0_ := Aside0.mk (Kd.R_below (by (with_reducible repeat (first | apply Kd.R_alloc | apply Kd.R_drewN | apply Kd.R_drew)); exact (Kd.R_mono (Kd.R_far (p := ⟨gb109, 4, none⟩) (Kd.R_far (p := ⟨gb109, 3, none⟩) (Kd.R_far (p := ⟨gb109, 2, none⟩) (Kd.R_far (p := ⟨gb109, 1, none⟩) (Kd.R_far (p := ⟨gb109, 0, none⟩) (Kd.R_types HO_4.out BK109.out (by decide)) (fun _ hk => hk.2) (.slice A108_0 ((rd_T39 l0 x9_1).f0.f0).length c108_0)) (fun _ hk => hk.2) (.slice A108_1 ((rd_T39 l0 x9_1).f0.f1).length c108_1)) (fun _ hk => hk.2) (.int .i64 ((rd_T39 l0 x9_1).f0.f2))) (fun _ hk => hk.2) (.int .i64 ((rd_T39 l0 x9_1).f1))) (fun _ hk => hk.2) (.int .i64 ((rd_T39 l0 x9_1).f2))) (fun _ h_ => h_.1))) hb); have n1_ := Aside0.mk (blk_below (g := gb107) (o := .cells #[.slice A1_0 l1_0.length c1_0, .slice A1_1 l1_1.length c1_1, .int .i64 a1_2, .int .i64 a1_3, .int .i64 a1_4] 39 (0, 0)) (by (with_reducible repeat (first | refine blk_drewN ?_ _ | refine blk_drew ?_ | refine blk_alloc ?_ _)); refine blk_far ?_ NB107_109.out _; (with_reducible repeat (first | refine blk_drewN ?_ _ | refine blk_drew ?_ | refine blk_alloc ?_ _)); refine blk_far ?_ NB107_109.out _; (with_reducible repeat (first | refine blk_drewN ?_ _ | refine blk_drew ?_ | refine blk_alloc ?_ _)); refine blk_far ?_ NB107_109.out _; (with_reducible repeat (first | refine blk_drewN ?_ _ | refine blk_drew ?_ | refine blk_alloc ?_ _)); refine blk_far ?_ NB107_109.out _; (with_reducible repeat (first | refine blk_drewN ?_ _ | refine blk_drew ?_ | refine blk_alloc ?_ _)); refine blk_far ?_ NB107_109.out _; (with_reducible repeat (first | refine blk_drewN ?_ _ | refine blk_drew ?_ | refine blk_alloc ?_ _)); exact BK107.out) hb); have n2_ := Aside0.mk (blk_below (g := gb109) (o := .cells #[.slice A108_0 ((rd_T39 l0 x9_1).f0.f0).length c108_0, .slice A108_1 ((rd_T39 l0 x9_1).f0.f1).length c108_1, .int .i64 ((rd_T39 l0 x9_1).f0.f2), .int .i64 ((rd_T39 l0 x9_1).f1), .int .i64 ((rd_T39 l0 x9_1).f2)] 39 (0, 0)) (by (with_reducible repeat (first | refine blk_drewN ?_ _ | refine blk_drew ?_ | refine blk_alloc ?_ _)); refine blk_put (cs := #[.slice A108_0 ((rd_T39 l0 x9_1).f0.f0).length c108_0, .slice A108_1 ((rd_T39 l0 x9_1).f0.f1).length c108_1, .int .i64 ((rd_T39 l0 x9_1).f0.f2), .int .i64 ((rd_T39 l0 x9_1).f1), .int .i64 0]) ?_ 4 _ rfl; (with_reducible repeat (first | refine blk_drewN ?_ _ | refine blk_drew ?_ | refine blk_alloc ?_ _)); refine blk_put (cs := #[.slice A108_0 ((rd_T39 l0 x9_1).f0.f0).length c108_0, .slice A108_1 ((rd_T39 l0 x9_1).f0.f1).length c108_1, .int .i64 ((rd_T39 l0 x9_1).f0.f2), .int .i64 0, .int .i64 0]) ?_ 3 _ rfl; (with_reducible repeat (first | refine blk_drewN ?_ _ | refine blk_drew ?_ | refine blk_alloc ?_ _)); refine blk_put (cs := #[.slice A108_0 ((rd_T39 l0 x9_1).f0.f0).length c108_0, .slice A108_1 ((rd_T39 l0 x9_1).f0.f1).length c108_1, .int .i64 0, .int .i64 0, .int .i64 0]) ?_ 2 _ rfl; (with_reducible repeat (first | refine blk_drewN ?_ _ | refine blk_drew ?_ | refine blk_alloc ?_ _)); refine blk_put (cs := #[.slice A108_0 ((rd_T39 l0 x9_1).f0.f0).length c108_0, .slice none 0 0, .int .i64 0, .int .i64 0, .int .i64 0]) ?_ 1 _ rfl; (with_reducible repeat (first | refine blk_drewN ?_ _ | refine blk_drew ?_ | refine blk_alloc ?_ _)); refine blk_put (cs := #[.slice none 0 0, .slice none 0 0, .int .i64 0, .int .i64 0, .int .i64 0]) ?_ 0 _ rfl; (with_reducible repeat (first | refine blk_drewN ?_ _ | refine blk_drew ?_ | refine blk_alloc ?_ _)); exact BK109.out) hb); have n3_ := Aside0.mk (below_step (by repeat (first | (with_reducible first | exact HB.out | apply below_alloc | apply pw_below_drewN | apply below_drew1 | refine below_set ?_ GE107.out | refine below_set ?_ GE109.out) | exact HB.out)) hb); clear HO_4; clear BK107; clear BK109; clear HB; have HO_4 := n0_; have BK107 := n1_; have BK109 := n2_; have HB := n3_; clear n0_ n1_ n2_ n3_; (try clear hb); (try clear hb2); (try clear hk); (try clear hi)) | ((with_reducible refine gate_builtin (b := .append) (xs := #[.tmp 19, .tmp 21]) rfl ?_); at_builtin; refine Kd.R_append (Kd.int .i64) (w0 := w) w.heap.size rfl (.tmp 19) (.tmp 21) 22 3 (.int .i64 0) 8 rfl Try.underlying22 info3 rfl (by decide) (by omega) u4 x4_1 x9_1 [.int .i64 x9_1] (fun _ => True) (fun _ => False) rfl rfl ?aP (fun _ hk => hk.elim) ?aF ?aO ?aB ?aS ?aL ?_; (case aP => exact rfl); (case aB => exact (by repeat (first | (with_reducible first | exact HB.out | apply below_alloc | apply pw_below_drewN | apply below_drew1 | refine below_set ?_ GE107.out | refine below_set ?_ GE109.out) | exact HB.out))); (case aF => exact (fun _ _ => trivial)); (case aO => exact (by (with_reducible repeat (first | apply Kd.R_alloc | apply Kd.R_drewN | apply Kd.R_drew)); exact HO_4.out)); (case aS => exact (below_size (by repeat (first | (with_reducible first | exact HB.out | apply below_alloc | apply pw_below_drewN | apply below_drew1 | refine below_set ?_ GE107.out | refine below_set ?_ GE109.out) | exact HB.out)))); (case aL => have := LMc9.out; omega); intro v112 w15 ho hb hg hat; rw [← Ny111.out] at ho; have n0_ := Aside0.mk (blk_grown (g := gb107) (o := .cells #[.slice A1_0 l1_0.length c1_0, .slice A1_1 l1_1.length c1_1, .int .i64 a1_2, .int .i64 a1_3, .int .i64 a1_4] 39 (0, 0)) (by (with_reducible repeat (first | refine blk_drewN ?_ _ | refine blk_drew ?_ | refine blk_alloc ?_ _)); exact BK107.out) hg (Kd.R_ne HO_4.out BK107.out (by decide))); have n1_ := Aside0.mk (blk_grown (g := gb109) (o := .cells #[.slice A108_0 ((rd_T39 l0 x9_1).f0.f0).length c108_0, .slice A108_1 ((rd_T39 l0 x9_1).f0.f1).length c108_1, .int .i64 ((rd_T39 l0 x9_1).f0.f2), .int .i64 ((rd_T39 l0 x9_1).f1), .int .i64 ((rd_T39 l0 x9_1).f2)] 39 (0, 0)) (by (with_reducible repeat (first | refine blk_drewN ?_ _ | refine blk_drew ?_ | refine blk_alloc ?_ _)); exact BK109.out) hg (Kd.R_ne HO_4.out BK109.out (by decide))); have n2_ := Aside0.mk (hb); have n3_ := Aside0.mk (ho); clear BK107; clear BK109; clear HB; clear HO_4; have BK107 := n0_; have BK109 := n1_; have HB := n2_; have HO113 := n3_; clear n0_ n1_ n2_ n3_; clear ho hb hg hat))
        go_roundg k1
        case measure => have := HK1.out; omega
        case rel => exact ⟨(y111), (wrap64 (x9_1 + 1)), (by first | rfl | (simp; done) | (simp [*]; done)), H', ⟨by have := HK1.out; omega⟩, ⟨by (with_reducible repeat (first | apply Kd.R_alloc | apply Kd.R_drewN | apply Kd.R_drew)); exact HO113.out⟩, ⟨by (with_reducible repeat (first | refine blk_drewN ?_ _ | refine blk_drew ?_ | refine blk_alloc ?_ _)); exact BK107.out⟩, ⟨by repeat (first | (with_reducible first | exact HB.out | apply below_alloc | apply pw_below_drewN | apply below_drew1 | refine below_set ?_ GE107.out | refine below_set ?_ GE109.out) | exact HB.out)⟩⟩
       ·
        rw [if_neg c9] at H
        exact absurd H (by simp)
      ·
       replace c8 := Bool.eq_false_iff.mpr c8
       subst c8
       have H1 : (replace_Conflicts.l0 k1 x4_1 l0 (l0.length : Int) (wrap64 (x9_1 + 1)) l1_0 l1_1 a1_2 a1_3 a1_4) = some r := by rw [if_neg (show ¬ (false = true) by decide)] at H; exact H
       clear H
       have H := H1
       clear H1
       have H' := Aside0.mk H
       clear H
       have p108 : 0 ≤ (x9_1 : Int) := of_decide_eq_true (by first | (with_reducible assumption) | assumption)
       have q108 : x9_1 < (l0.length : Int) := of_decide_eq_true (by first | (with_reducible assumption) | assumption)
       obtain ⟨ad108, A108_0, c108_0, A108_1, c108_1, e108, hx108_0, hx108_1, hx108_2, hx108_3, hx108_4, hl108_0, hi108_0, hl108_1, hi108_1⟩ := at_T39 HR0.out x9_1 p108 q108
       cases e108
       replace hx108_0 := (HB.out.cell (World.block_lt_of_cell? w _ hx108_0)).trans hx108_0
       replace hx108_1 := (HB.out.cell (World.block_lt_of_cell? w _ hx108_1)).trans hx108_1
       replace hx108_2 := (HB.out.cell (World.block_lt_of_cell? w _ hx108_2)).trans hx108_2
       replace hx108_3 := (HB.out.cell (World.block_lt_of_cell? w _ hx108_3)).trans hx108_3
       replace hx108_4 := (HB.out.cell (World.block_lt_of_cell? w _ hx108_4)).trans hx108_4
       have HR108_0 := Aside0.mk hi108_0
       have HC108_0 := Aside0.mk hl108_0
       clear hi108_0 hl108_0
       have HR108_1 := Aside0.mk hi108_1
       have HC108_1 := Aside0.mk hl108_1
       clear hi108_1 hl108_1
       replace p108 := eq_true p108
       replace q108 := eq_true q108
       go_wp2_with (first | ((with_reducible refine gate_dst (N := 6) rfl ?_); refine box_event ?hg (N := 6) ?hd (cs := #[.slice none 0 0, .slice none 0 0, .int .i64 0, .int .i64 0, .int .i64 0]) (t := 39) ?hr ?_; (case hd => rfl); (case hg => rfl); (case hr => first | (go_simp; done) | (go_simp; rfl)); intro gb109 hg w16 hbox hb; have n0_ := Aside0.mk (Kd.R_below (by (with_reducible repeat (first | apply Kd.R_alloc | apply Kd.R_drewN | apply Kd.R_drew)); exact HO_4.out) hb); have n1_ := Aside0.mk (blk_below (g := gb107) (o := .cells #[.slice A1_0 l1_0.length c1_0, .slice A1_1 l1_1.length c1_1, .int .i64 a1_2, .int .i64 a1_3, .int .i64 a1_4] 39 (0, 0)) (by (with_reducible repeat (first | refine blk_drewN ?_ _ | refine blk_drew ?_ | refine blk_alloc ?_ _)); exact BK107.out) hb); have n2_ := Aside0.mk (below_step (by repeat (first | (with_reducible first | exact HB.out | apply below_alloc | apply pw_below_drewN | apply below_drew1 | refine below_set ?_ GE107.out) | exact HB.out)) hb); have n3_ := Aside0.mk (hbox); have n4_ := Aside0.mk ((by rw [hg]; exact (below_size (by repeat (first | (with_reducible first | exact HB.out | apply below_alloc | apply pw_below_drewN | apply below_drew1 | refine below_set ?_ GE107.out) | exact HB.out))) : w.heap.size ≤ gb109)); have n5_ := Aside0.mk ((by rw [hg]; exact (below_size (by repeat (first | (with_reducible first | exact HB.out | apply below_alloc | apply pw_below_drewN | apply below_drew1 | refine below_set ?_ GE107.out) | exact HB.out))) : w.heap.size ≤ gb109)); have n6_ := Aside0.mk ((by rw [hg]; exact Nat.ne_of_lt (blk_lt (g := gb107) (o := .cells #[.slice A1_0 l1_0.length c1_0, .slice A1_1 l1_1.length c1_1, .int .i64 a1_2, .int .i64 a1_3, .int .i64 a1_4] 39 (0, 0)) (by (with_reducible repeat (first | refine blk_drewN ?_ _ | refine blk_drew ?_ | refine blk_alloc ?_ _)); exact BK107.out)) : gb107 ≠ gb109)); have n7_ := Aside0.mk ((by rw [hg]; exact Nat.ne_of_gt (blk_lt (g := gb107) (o := .cells #[.slice A1_0 l1_0.length c1_0, .slice A1_1 l1_1.length c1_1, .int .i64 a1_2, .int .i64 a1_3, .int .i64 a1_4] 39 (0, 0)) (by (with_reducible repeat (first | refine blk_drewN ?_ _ | refine blk_drew ?_ | refine blk_alloc ?_ _)); exact BK107.out)) : gb109 ≠ gb107)); clear HO_4; clear BK107; clear HB; have HO_4 := n0_; have BK107 := n1_; have HB := n2_; have BK109 := n3_; have GW109 := n4_; have GE109 := n5_; have NB107_109 := n6_; have NB109_107 := n7_; clear n0_ n1_ n2_ n3_ n4_ n5_ n6_ n7_; clear hb hbox hg; have hnb17 := NB109_107.out; have hnc17 := NB107_109.out; have hcz18_0 : w16.cell? ⟨gb109, 0, none⟩ = some (.slice none 0 0) := (blk_cell BK109.out 0).trans rfl; have hcz18_1 : w16.cell? ⟨gb109, 1, none⟩ = some (.slice none 0 0) := (blk_cell BK109.out 1).trans rfl; have hcz18_2 : w16.cell? ⟨gb109, 2, none⟩ = some (.int .i64 0) := (blk_cell BK109.out 2).trans rfl; have hcz18_3 : w16.cell? ⟨gb109, 3, none⟩ = some (.int .i64 0) := (blk_cell BK109.out 3).trans rfl; have hcz18_4 : w16.cell? ⟨gb109, 4, none⟩ = some (.int .i64 0) := (blk_cell BK109.out 4).trans rfl; have hfz18_0 := blk_frozen BK109.out 0; have hfz18_1 := blk_frozen BK109.out 1; have hfz18_2 := blk_frozen BK109.out 2; have hfz18_3 := blk_frozen BK109.out 3; have hfz18_4 := blk_frozen BK109.out 4; have hcz19_0 : w16.cell? ⟨gb107, 0, none⟩ = some (.slice A1_0 l1_0.length c1_0) := (blk_cell BK107.out 0).trans rfl; have hcz19_1 : w16.cell? ⟨gb107, 1, none⟩ = some (.slice A1_1 l1_1.length c1_1) := (blk_cell BK107.out 1).trans rfl; have hcz19_2 : w16.cell? ⟨gb107, 2, none⟩ = some (.int .i64 a1_2) := (blk_cell BK107.out 2).trans rfl; have hcz19_3 : w16.cell? ⟨gb107, 3, none⟩ = some (.int .i64 a1_3) := (blk_cell BK107.out 3).trans rfl; have hcz19_4 : w16.cell? ⟨gb107, 4, none⟩ = some (.int .i64 a1_4) := (blk_cell BK107.out 4).trans rfl; have hfz19_0 := blk_frozen BK107.out 0; have hfz19_1 := blk_frozen BK107.out 1; have hfz19_2 := blk_frozen BK107.out 2; have hfz19_3 := blk_frozen BK107.out 3; have hfz19_4 := blk_frozen BK107.out 4) | ((with_reducible refine gate_callee (f := 31) rfl ?_); refine goesL_ (some 18) rfl rfl Try.func31 (by kernel_rfl) rfl #[.agg #[.slice A108_0 ((rd_T39 l0 x9_1).f0.f0).length c108_0, .slice A108_1 ((rd_T39 l0 x9_1).f0.f1).length c108_1, .int .i64 ((rd_T39 l0 x9_1).f0.f2)], .agg #[.slice A1_0 l1_0.length c1_0, .slice A1_1 l1_1.length c1_1, .int .i64 a1_2]] rfl (by (try simp only [List.map_toArray, List.map_cons, List.map_nil]); first | done | rfl | (simp only [List.length_drop, List.length_take]; rfl)) ?_; (with_reducible refine (tx_Conflict.calls _ _ ((rd_T39 l0 x9_1).f0.f0) _ _ ((rd_T39 l0 x9_1).f0.f1) ((rd_T39 l0 x9_1).f0.f2) _ _ l1_0 _ _ l1_1 a1_2 false _ ?side1 ?side2 ?side3 ?side4 ?side5 ?side6 ?side7 ?side8 A7.out).mono ?_); (case side1 => exact Kd.C_below HR108_0.out (by repeat (first | (with_reducible first | exact HB.out | apply below_alloc | apply pw_below_drewN | apply below_drew1 | refine below_set ?_ GE107.out | refine below_set ?_ GE109.out) | exact HB.out))); (case side2 => exact HC108_0.out); (case side3 => exact Kd.C_below HR108_1.out (by repeat (first | (with_reducible first | exact HB.out | apply below_alloc | apply pw_below_drewN | apply below_drew1 | refine below_set ?_ GE107.out | refine below_set ?_ GE109.out) | exact HB.out))); (case side4 => exact HC108_1.out); (case side5 => exact Kd.C_below HR1_0.out (by repeat (first | (with_reducible first | exact HB.out | apply below_alloc | apply pw_below_drewN | apply below_drew1 | refine below_set ?_ GE107.out | refine below_set ?_ GE109.out) | exact HB.out))); (case side6 => exact HC1_0.out); (case side7 => exact Kd.C_below HR1_1.out (by repeat (first | (with_reducible first | exact HB.out | apply below_alloc | apply pw_below_drewN | apply below_drew1 | refine below_set ?_ GE107.out | refine below_set ?_ GE109.out) | exact HB.out))); (case side8 => exact HC1_1.out); rintro e w20 ⟨rfl, hb⟩; refine ⟨_, rfl, ?_⟩; have n0_ := Aside0.mk (Kd.R_below (by (with_reducible repeat (first | apply Kd.R_alloc | apply Kd.R_drewN | apply Kd.R_drew)); exact (Kd.R_mono (Kd.R_far (p := ⟨gb109, 4, none⟩) (Kd.R_far (p := ⟨gb109, 3, none⟩) (Kd.R_far (p := ⟨gb109, 2, none⟩) (Kd.R_far (p := ⟨gb109, 1, none⟩) (Kd.R_far (p := ⟨gb109, 0, none⟩) (Kd.R_types HO_4.out BK109.out (by decide)) (fun _ hk => hk.2) (.slice A108_0 ((rd_T39 l0 x9_1).f0.f0).length c108_0)) (fun _ hk => hk.2) (.slice A108_1 ((rd_T39 l0 x9_1).f0.f1).length c108_1)) (fun _ hk => hk.2) (.int .i64 ((rd_T39 l0 x9_1).f0.f2))) (fun _ hk => hk.2) (.int .i64 ((rd_T39 l0 x9_1).f1))) (fun _ hk => hk.2) (.int .i64 ((rd_T39 l0 x9_1).f2))) (fun _ h_ => h_.1))) hb); have n1_ := Aside0.mk (blk_below (g := gb107) (o := .cells #[.slice A1_0 l1_0.length c1_0, .slice A1_1 l1_1.length c1_1, .int .i64 a1_2, .int .i64 a1_3, .int .i64 a1_4] 39 (0, 0)) (by (with_reducible repeat (first | refine blk_drewN ?_ _ | refine blk_drew ?_ | refine blk_alloc ?_ _)); refine blk_far ?_ NB107_109.out _; (with_reducible repeat (first | refine blk_drewN ?_ _ | refine blk_drew ?_ | refine blk_alloc ?_ _)); refine blk_far ?_ NB107_109.out _; (with_reducible repeat (first | refine blk_drewN ?_ _ | refine blk_drew ?_ | refine blk_alloc ?_ _)); refine blk_far ?_ NB107_109.out _; (with_reducible repeat (first | refine blk_drewN ?_ _ | refine blk_drew ?_ | refine blk_alloc ?_ _)); refine blk_far ?_ NB107_109.out _; (with_reducible repeat (first | refine blk_drewN ?_ _ | refine blk_drew ?_ | refine blk_alloc ?_ _)); refine blk_far ?_ NB107_109.out _; (with_reducible repeat (first | refine blk_drewN ?_ _ | refine blk_drew ?_ | refine blk_alloc ?_ _)); exact BK107.out) hb); have n2_ := Aside0.mk (blk_below (g := gb109) (o := .cells #[.slice A108_0 ((rd_T39 l0 x9_1).f0.f0).length c108_0, .slice A108_1 ((rd_T39 l0 x9_1).f0.f1).length c108_1, .int .i64 ((rd_T39 l0 x9_1).f0.f2), .int .i64 ((rd_T39 l0 x9_1).f1), .int .i64 ((rd_T39 l0 x9_1).f2)] 39 (0, 0)) (by (with_reducible repeat (first | refine blk_drewN ?_ _ | refine blk_drew ?_ | refine blk_alloc ?_ _)); refine blk_put (cs := #[.slice A108_0 ((rd_T39 l0 x9_1).f0.f0).length c108_0, .slice A108_1 ((rd_T39 l0 x9_1).f0.f1).length c108_1, .int .i64 ((rd_T39 l0 x9_1).f0.f2), .int .i64 ((rd_T39 l0 x9_1).f1), .int .i64 0]) ?_ 4 _ rfl; (with_reducible repeat (first | refine blk_drewN ?_ _ | refine blk_drew ?_ | refine blk_alloc ?_ _)); refine blk_put (cs := #[.slice A108_0 ((rd_T39 l0 x9_1).f0.f0).length c108_0, .slice A108_1 ((rd_T39 l0 x9_1).f0.f1).length c108_1, .int .i64 ((rd_T39 l0 x9_1).f0.f2), .int .i64 0, .int .i64 0]) ?_ 3 _ rfl; (with_reducible repeat (first | refine blk_drewN ?_ _ | refine blk_drew ?_ | refine blk_alloc ?_ _)); refine blk_put (cs := #[.slice A108_0 ((rd_T39 l0 x9_1).f0.f0).length c108_0, .slice A108_1 ((rd_T39 l0 x9_1).f0.f1).length c108_1, .int .i64 0, .int .i64 0, .int .i64 0]) ?_ 2 _ rfl; (with_reducible repeat (first | refine blk_drewN ?_ _ | refine blk_drew ?_ | refine blk_alloc ?_ _)); refine blk_put (cs := #[.slice A108_0 ((rd_T39 l0 x9_1).f0.f0).length c108_0, .slice none 0 0, .int .i64 0, .int .i64 0, .int .i64 0]) ?_ 1 _ rfl; (with_reducible repeat (first | refine blk_drewN ?_ _ | refine blk_drew ?_ | refine blk_alloc ?_ _)); refine blk_put (cs := #[.slice none 0 0, .slice none 0 0, .int .i64 0, .int .i64 0, .int .i64 0]) ?_ 0 _ rfl; (with_reducible repeat (first | refine blk_drewN ?_ _ | refine blk_drew ?_ | refine blk_alloc ?_ _)); exact BK109.out) hb); have n3_ := Aside0.mk (below_step (by repeat (first | (with_reducible first | exact HB.out | apply below_alloc | apply pw_below_drewN | apply below_drew1 | refine below_set ?_ GE107.out | refine below_set ?_ GE109.out) | exact HB.out)) hb); clear HO_4; clear BK107; clear BK109; clear HB; have HO_4 := n0_; have BK107 := n1_; have BK109 := n2_; have HB := n3_; clear n0_ n1_ n2_ n3_; (try clear hb); (try clear hb2); (try clear hk); (try clear hi)))
       go_roundg k1
       case measure => have := HK1.out; omega
       case rel => exact ⟨(x4_1), (wrap64 (x9_1 + 1)), (by first | rfl | (simp; done) | (simp [*]; done)), H', ⟨by have := HK1.out; omega⟩, ⟨by (with_reducible repeat (first | apply Kd.R_alloc | apply Kd.R_drewN | apply Kd.R_drew)); exact HO_4.out⟩, ⟨by (with_reducible repeat (first | refine blk_drewN ?_ _ | refine blk_drew ?_ | refine blk_alloc ?_ _)); exact BK107.out⟩, ⟨by repeat (first | (with_reducible first | exact HB.out | apply below_alloc | apply pw_below_drewN | apply below_drew1 | refine below_set ?_ GE107.out | refine below_set ?_ GE109.out) | exact HB.out)⟩⟩
     ·
      rw [if_neg c6] at H
      exact absurd H (by simp)
    ·
     rw [if_neg c5] at H
     exact absurd H (by simp)
   ·
    rw [if_neg c4] at H
    have c4b0 : decide (x9_1 < (l0.length : Int)) = false := decide_eq_false c4
    clear c4
    obtain rfl := Option.some.inj H
    go_wp2
    go_ret
    exact ⟨_, by first | rfl | (simp [errW_none, errW_some] <;> rfl) | (simp [*, errW_none, errW_some] <;> rfl), by (with_reducible repeat (first | apply Kd.R_alloc | apply Kd.R_drewN | apply Kd.R_drew)); exact HO_4.out, by repeat (first | (with_reducible first | exact HB.out | apply below_alloc | apply pw_below_drewN | apply below_drew1 | refine below_set ?_ GE107.out) | exact HB.out)⟩

/-! ### tx_Wit: function 47 -/
def tx_Wit.f (a0 : Int) : Option (Int) := if a0 = 1 then (some 74) else (if a0 = 2 then (some 107) else (if a0 = 3 then (some 76) else (if a0 = 4 then (some 1) else (some 0))))
set_option maxHeartbeats 8000000 in
set_option maxRecDepth 100000 in
theorem tx_Wit.calls (a0 : Int) (r : Int) (w : World) (h : tx_Wit.f a0 = some r) :
  Calls Try.prog 47 #[.int .i64 a0] w fun e w' => e = .returned (.int .i64 r) ∧ Drawn0 w w' := by
 have H : (if a0 = 1 then (some 74) else (if a0 = 2 then (some 107) else (if a0 = 3 then (some 76) else (if a0 = 4 then (some 1) else (some 0))))) = some r := h
 clear h
 by_cases c2 : a0 = 1
 ·
  rw [if_pos c2] at H
  have c2b0 : (a0 == 1) = true := beq_iff_eq.mpr c2
  have c2b1 : (a0 != 1) = false := bne_eq_false_iff_eq.mpr c2
  clear c2
  obtain rfl := Option.some.inj H
  go_enter Try.func47, Try.ntmps47
  go_wp2
  go_ret
  exact ⟨by first | rfl | (simp; done) | (simp [*]; done), by repeat (first | exact Drawn0.refl _ | apply Drawn0.step)⟩
 ·
  rw [if_neg c2] at H
  have c2b0 : (a0 == 1) = false := beq_eq_false_iff_ne.mpr c2
  have c2b1 : (a0 != 1) = true := bne_iff_ne.mpr c2
  by_cases c3 : a0 = 2
  ·
   rw [if_pos c3] at H
   have c3b0 : (a0 == 2) = true := beq_iff_eq.mpr c3
   have c3b1 : (a0 != 2) = false := bne_eq_false_iff_eq.mpr c3
   clear c3
   obtain rfl := Option.some.inj H
   go_enter Try.func47, Try.ntmps47
   go_wp2
   go_ret
   exact ⟨by first | rfl | (simp; done) | (simp [*]; done), by repeat (first | exact Drawn0.refl _ | apply Drawn0.step)⟩
  ·
   rw [if_neg c3] at H
   have c3b0 : (a0 == 2) = false := beq_eq_false_iff_ne.mpr c3
   have c3b1 : (a0 != 2) = true := bne_iff_ne.mpr c3
   by_cases c4 : a0 = 3
   ·
    rw [if_pos c4] at H
    have c4b0 : (a0 == 3) = true := beq_iff_eq.mpr c4
    have c4b1 : (a0 != 3) = false := bne_eq_false_iff_eq.mpr c4
    clear c4
    obtain rfl := Option.some.inj H
    go_enter Try.func47, Try.ntmps47
    go_wp2
    go_ret
    exact ⟨by first | rfl | (simp; done) | (simp [*]; done), by repeat (first | exact Drawn0.refl _ | apply Drawn0.step)⟩
   ·
    rw [if_neg c4] at H
    have c4b0 : (a0 == 3) = false := beq_eq_false_iff_ne.mpr c4
    have c4b1 : (a0 != 3) = true := bne_iff_ne.mpr c4
    by_cases c5 : a0 = 4
    ·
     rw [if_pos c5] at H
     have c5b0 : (a0 == 4) = true := beq_iff_eq.mpr c5
     have c5b1 : (a0 != 4) = false := bne_eq_false_iff_eq.mpr c5
     clear c5
     obtain rfl := Option.some.inj H
     go_enter Try.func47, Try.ntmps47
     go_wp2
     go_ret
     exact ⟨by first | rfl | (simp; done) | (simp [*]; done), by repeat (first | exact Drawn0.refl _ | apply Drawn0.step)⟩
    ·
     rw [if_neg c5] at H
     have c5b0 : (a0 == 4) = false := beq_eq_false_iff_ne.mpr c5
     have c5b1 : (a0 != 4) = true := bne_iff_ne.mpr c5
     obtain rfl := Option.some.inj H
     go_enter Try.func47, Try.ntmps47
     go_wp2
     go_ret
     exact ⟨by first | rfl | (simp; done) | (simp [*]; done), by repeat (first | exact Drawn0.refl _ | apply Drawn0.step)⟩

end Go.Proofs.Ytiodebjjbgcbhaa.QRep
