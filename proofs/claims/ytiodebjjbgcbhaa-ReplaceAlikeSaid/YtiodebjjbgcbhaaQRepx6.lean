/- Functions of the program as plain Lean functions, and that its calls come to what these tell: written by a program of this session; Lean checks it. -/
import Derived.Test.YtiodebjjbgcbhaaQRepx0
import Derived.Test.YtiodebjjbgcbhaaQRepx1
import Derived.Test.YtiodebjjbgcbhaaQRepx3
import Derived.Test.YtiodebjjbgcbhaaQRepx5
namespace Go.Proofs.Ytiodebjjbgcbhaa.QRep
open Go.RowKit Go.Proofs.YtiodebjjbgcbhaaW.PrintWords Go.Proofs.YtiodebjjbgcbhaaW.PrintLast Go.Proofs.YtiodebjjbgcbhaaW.PrintMore
attribute [local go_sem] max2_int min2_int max_two min_two max_three min_three max_four min_four  run_fop run_feq run_fne run_flt run_fle run_fgt run_fge run_fint run_toi run_real' run_imag' run_complex' run_ceq run_cne run_cadd run_csub run_cmul Go.Proofs.Ytiodebjjbgcbhaa.Wide.cellsAt_drewN Go.Proofs.Ytiodebjjbgcbhaa.Wide.cellsAt_drew Go.Proofs.Ytiodebjjbgcbhaa.Wide.lw32 Go.Proofs.Ytiodebjjbgcbhaa.Wide.lw33 Go.Proofs.Ytiodebjjbgcbhaa.Wide.lw37 Go.Proofs.Ytiodebjjbgcbhaa.Wide.lw38 Go.Proofs.Ytiodebjjbgcbhaa.Wide.lw39 Go.Proofs.Ytiodebjjbgcbhaa.Wide.lw44
attribute [local go_sem ↓ high] Go.Proofs.Ytiodebjjbgcbhaa.Wide.hv32 Go.Proofs.Ytiodebjjbgcbhaa.Wide.hv33 Go.Proofs.Ytiodebjjbgcbhaa.Wide.hv37 Go.Proofs.Ytiodebjjbgcbhaa.Wide.hv38 Go.Proofs.Ytiodebjjbgcbhaa.Wide.hv39 Go.Proofs.Ytiodebjjbgcbhaa.Wide.hv44
set_option linter.unusedVariables false
set_option linter.unusedSimpArgs false

attribute [local go_sem high] eqA34
/-! ### batch_OwnAll: function 32 -/
def batch_OwnAll.l0 : Nat → List (S39) → List (S39) → Int → Int → Option ((List (S39)))
  | 0, _, _, _, _ => none
  | k + 1, x2, x5, x6, x7 => if x7 < x6 then (if 0 ≤ x7 then (if x7 < (x5.length : Int) then ((batch_Own.f ((rd_T39 x5 x7).f0.f0) ((rd_T39 x5 x7).f0.f1) ((rd_T39 x5 x7).f0.f2) ((rd_T39 x5 x7).f1) ((rd_T39 x5 x7).f2)).bind fun bt175 => (if x2.length < 1954687338268 then (batch_OwnAll.l0 k (x2 ++ [(⟨(⟨bt175.1, bt175.2.1, bt175.2.2.1⟩ : S28), bt175.2.2.2.1, bt175.2.2.2.2⟩ : S39)]) x5 x6 (wrap64 (x7 + 1))) else (none))) else (none)) else (none)) else (some x2)
def batch_OwnAll.f (k : Nat) (l0 : List (S39)) : Option ((List (S39))) := batch_OwnAll.l0 k ([] : List (S39)) l0 (l0.length : Int) 0
theorem batch_OwnAll.mono_l : ∀ k, (∀ y0 y1 y2 y3, LeO (batch_OwnAll.l0 k y0 y1 y2 y3) (batch_OwnAll.l0 (k + 1) y0 y1 y2 y3))
  | 0 => fun _ _ _ _ r h => by simp [batch_OwnAll.l0] at h
  | k + 1 => by
    have ih0 := batch_OwnAll.mono_l k
    · intro y0 y1 y2 y3
      unfold batch_OwnAll.l0
      repeat' first
      | (with_reducible exact ih0 _ _ _ _)
      | (with_reducible exact LeO.refl _)
      | (with_reducible exact LeO.none _)
      | (with_reducible refine LeO.ite ?_ ?_)
      | (with_reducible refine LeO.bind ?_ (fun _ => ?_))
      | exact ih0 _ _ _ _
      | exact LeO.none _
      | refine LeO.ite ?_ ?_
      | refine LeO.bind ?_ (fun _ => ?_)
theorem batch_OwnAll.mono : ∀ a0 k, LeO (batch_OwnAll.f k a0) (batch_OwnAll.f (k + 1) a0) := by
  intro a0 k
  have ih0 := batch_OwnAll.mono_l k
  unfold batch_OwnAll.f
  repeat' first
      | (with_reducible exact ih0 _ _ _ _)
      | (with_reducible exact LeO.refl _)
      | (with_reducible exact LeO.none _)
      | (with_reducible refine LeO.ite ?_ ?_)
      | (with_reducible refine LeO.bind ?_ (fun _ => ?_))
      | exact ih0 _ _ _ _
      | exact LeO.none _
      | refine LeO.ite ?_ ?_
      | refine LeO.bind ?_ (fun _ => ?_)
set_option maxHeartbeats 8000000 in
set_option maxRecDepth 100000 in
theorem batch_OwnAll.calls (k : Nat) (A0 : Option Addr) (c0 : Nat) (l0 : List (S39)) (r : List (S39)) (w : World) (hr0 : Kd.C k39 w A0 l0.length l0) (hc0 : l0.length ≤ c0) (h : batch_OwnAll.f k l0 = some r) :
  Calls Try.prog 32 #[.slice A0 l0.length c0] w fun e w' => ∃ v0_ : Value, e = .returned (v0_) ∧ Kd.S k39 39 w' w.heap.size (fun _ => True) v0_ r ∧ Below w.heap.size w w' := by
 have hu39 := Try.underlying39
 have HR0 := Aside0.mk hr0
 have HC0 := Aside0.mk hc0
 clear hr0 hc0
 have HB := Aside0.mk (Below.refl w.heap.size w)
 have H : (batch_OwnAll.l0 k ([] : List (S39)) l0 (l0.length : Int) 0) = some r := h
 clear h
 have H' := Aside0.mk H
 clear H
 go_enter Try.func32, Try.ntmps32
 go_wp2
 go_loopg [2, 7] k (fun kq v2 v7 w' => ∃ (x2_1 : List (S39)) (x7_1 : Int), v7 = .int .i64 x7_1 ∧ Aside0 (batch_OwnAll.l0 kq x2_1 l0 (l0.length : Int) x7_1 = some r) ∧ Aside0 (kq ≤ k) ∧ Aside0 (Kd.S k39 39 w' w.heap.size (fun _ => True) v2 x2_1) ∧ Aside0 (Below w.heap.size w w'))
 case atStart => exact ⟨(([] : List (S39))), (0), (by first | rfl | (simp; done) | (simp [*]; done)), H', ⟨Nat.le_refl _⟩, ⟨by first | exact Kd.S_nil _ _ _ _ _ | exact Kd.N_nil _ _ _ _ _ | exact Kd.V_nil _ _ _ _ _ | exact Kd.Q_nil _ _ _ _ _ | exact Kd.R_nil _ _ _ _ _⟩, ⟨by repeat (first | (with_reducible first | exact HB.out | apply below_alloc | apply pw_below_drewN | apply below_drew1) | exact HB.out)⟩⟩
 case round =>
  clear H'
  obtain ⟨x2_1, x7_1, rfl, HA, HK1, HO_2, HB⟩ := hrel
  cases gk with
  | zero => exact absurd HA.out (by simp [batch_OwnAll.l0])
  | succ k1 =>
   have H := HA.out
   clear HA
   simp only [batch_OwnAll.l0] at H
   by_cases c2 : x7_1 < (l0.length : Int)
   ·
    rw [if_pos c2] at H
    have c2b0 : decide (x7_1 < (l0.length : Int)) = true := decide_eq_true c2
    clear c2
    by_cases c3 : 0 ≤ x7_1
    ·
     rw [if_pos c3] at H
     have c3b0 : decide (0 ≤ x7_1) = true := decide_eq_true c3
     clear c3
     by_cases c4 : x7_1 < (l0.length : Int)
     ·
      rw [if_pos c4] at H
      have c4b0 : decide (x7_1 < (l0.length : Int)) = true := decide_eq_true c4
      clear c4
      replace H := Option.bind_eq_some_iff.mp H
      obtain ⟨⟨t175, t178, t181, t182, t183⟩, A50, H⟩ := H
      replace H : (if x2_1.length < 1954687338268 then (batch_OwnAll.l0 k1 (x2_1 ++ [(⟨(⟨t175, t178, t181⟩ : S28), t182, t183⟩ : S39)]) l0 (l0.length : Int) (wrap64 (x7_1 + 1))) else (none)) = some r := H
      have A5 := Aside0.mk A50
      clear A50
      by_cases c6 : x2_1.length < 1954687338268
      ·
       rw [if_pos c6] at H
       have LMc6 := Aside0.mk c6
       clear c6
       obtain ⟨y184, hy184⟩ : ∃ y_ : List (S39), y_ = (x2_1 ++ [(⟨(⟨t175, t178, t181⟩ : S28), t182, t183⟩ : S39)]) := ⟨_, rfl⟩
       replace H : (batch_OwnAll.l0 k1 y184 l0 (l0.length : Int) (wrap64 (x7_1 + 1))) = some r := by first | (rw [hy184]; with_reducible exact H) | (have H2_ := (Option.bind_some _ _).symm.trans H; rw [hy184]; with_reducible exact H2_) | (have H2_ := (Option.bind_some _ _).symm.trans H; with_reducible exact H2_) | with_reducible exact H | (rw [hy184]; exact H) | exact H
       have Ny184 := Aside0.mk hy184
       clear hy184
       have H' := Aside0.mk H
       clear H
       have p173 : 0 ≤ (x7_1 : Int) := of_decide_eq_true (by first | (with_reducible assumption) | assumption)
       have q173 : x7_1 < (l0.length : Int) := of_decide_eq_true (by first | (with_reducible assumption) | assumption)
       obtain ⟨ad173, A173_0, c173_0, A173_1, c173_1, e173, hx173_0, hx173_1, hx173_2, hx173_3, hx173_4, hl173_0, hi173_0, hl173_1, hi173_1⟩ := at_T39 HR0.out x7_1 p173 q173
       cases e173
       replace hx173_0 := (HB.out.cell (World.block_lt_of_cell? w _ hx173_0)).trans hx173_0
       replace hx173_1 := (HB.out.cell (World.block_lt_of_cell? w _ hx173_1)).trans hx173_1
       replace hx173_2 := (HB.out.cell (World.block_lt_of_cell? w _ hx173_2)).trans hx173_2
       replace hx173_3 := (HB.out.cell (World.block_lt_of_cell? w _ hx173_3)).trans hx173_3
       replace hx173_4 := (HB.out.cell (World.block_lt_of_cell? w _ hx173_4)).trans hx173_4
       have HR173_0 := Aside0.mk hi173_0
       have HC173_0 := Aside0.mk hl173_0
       clear hi173_0 hl173_0
       have HR173_1 := Aside0.mk hi173_1
       have HC173_1 := Aside0.mk hl173_1
       clear hi173_1 hl173_1
       replace p173 := eq_true p173
       replace q173 := eq_true q173
       go_wp2_with (first | ((with_reducible refine gate_dst (N := 4) rfl ?_); refine box_event ?hg (N := 4) ?hd (cs := #[.slice none 0 0, .slice none 0 0, .int .i64 0, .int .i64 0, .int .i64 0]) (t := 39) ?hr ?_; (case hd => rfl); (case hg => rfl); (case hr => first | (go_simp; done) | (go_simp; rfl)); intro gb174 hg w7 hbox hb; have n0_ := Aside0.mk (Kd.S_below (Kd.S_elderB (by (with_reducible repeat (first | apply Kd.S_alloc | apply Kd.S_drewN | apply Kd.S_drew)); exact HO_2.out) gb174 (Nat.le_of_eq hg.symm)) hb); have n1_ := Aside0.mk (below_step (by repeat (first | (with_reducible first | exact HB.out | apply below_alloc | apply pw_below_drewN | apply below_drew1) | exact HB.out)) hb); have n2_ := Aside0.mk (hbox); have n3_ := Aside0.mk ((by rw [hg]; exact (below_size (by repeat (first | (with_reducible first | exact HB.out | apply below_alloc | apply pw_below_drewN | apply below_drew1) | exact HB.out))) : w.heap.size ≤ gb174)); have n4_ := Aside0.mk ((by rw [hg]; exact (below_size (by repeat (first | (with_reducible first | exact HB.out | apply below_alloc | apply pw_below_drewN | apply below_drew1) | exact HB.out))) : w.heap.size ≤ gb174)); clear HO_2; clear HB; have HO_2 := n0_; have HB := n1_; have BK174 := n2_; have GW174 := n3_; have GE174 := n4_; clear n0_ n1_ n2_ n3_ n4_; clear hb hbox hg; have hcz8_0 : w7.cell? ⟨gb174, 0, none⟩ = some (.slice none 0 0) := (blk_cell BK174.out 0).trans rfl; have hcz8_1 : w7.cell? ⟨gb174, 1, none⟩ = some (.slice none 0 0) := (blk_cell BK174.out 1).trans rfl; have hcz8_2 : w7.cell? ⟨gb174, 2, none⟩ = some (.int .i64 0) := (blk_cell BK174.out 2).trans rfl; have hcz8_3 : w7.cell? ⟨gb174, 3, none⟩ = some (.int .i64 0) := (blk_cell BK174.out 3).trans rfl; have hcz8_4 : w7.cell? ⟨gb174, 4, none⟩ = some (.int .i64 0) := (blk_cell BK174.out 4).trans rfl; have hfz8_0 := blk_frozen BK174.out 0; have hfz8_1 := blk_frozen BK174.out 1; have hfz8_2 := blk_frozen BK174.out 2; have hfz8_3 := blk_frozen BK174.out 3; have hfz8_4 := blk_frozen BK174.out 4) | ((with_reducible refine gate_callee (f := 35) rfl ?_); refine goesL_ (some 13) rfl rfl Try.func35 (by kernel_rfl) rfl #[.agg #[.slice A173_0 ((rd_T39 l0 x7_1).f0.f0).length c173_0, .slice A173_1 ((rd_T39 l0 x7_1).f0.f1).length c173_1, .int .i64 ((rd_T39 l0 x7_1).f0.f2), .int .i64 ((rd_T39 l0 x7_1).f1), .int .i64 ((rd_T39 l0 x7_1).f2)]] rfl (by (try simp only [List.map_toArray, List.map_cons, List.map_nil]); first | done | rfl | (simp only [List.length_drop, List.length_take]; rfl)) ?_; (with_reducible refine (batch_Own.calls _ _ ((rd_T39 l0 x7_1).f0.f0) _ _ ((rd_T39 l0 x7_1).f0.f1) ((rd_T39 l0 x7_1).f0.f2) ((rd_T39 l0 x7_1).f1) ((rd_T39 l0 x7_1).f2) t175 t178 t181 t182 t183 _ ?side1 ?side2 ?side3 ?side4 A5.out).mono ?_); (case side1 => exact Kd.C_below HR173_0.out (by repeat (first | (with_reducible first | exact HB.out | apply below_alloc | apply pw_below_drewN | apply below_drew1 | refine below_set ?_ GE174.out) | exact HB.out))); (case side2 => exact HC173_0.out); (case side3 => exact Kd.C_below HR173_1.out (by repeat (first | (with_reducible first | exact HB.out | apply below_alloc | apply pw_below_drewN | apply below_drew1 | refine below_set ?_ GE174.out) | exact HB.out))); (case side4 => exact HC173_1.out); rintro e w9 ⟨v176, v179, rfl, ho0, ho1, hb⟩; refine ⟨_, rfl, ?_⟩; have n0_ := Aside0.mk (Kd.S_mono (Kd.S_told (Kd.S_told (Kd.S_old (by (with_reducible repeat (first | apply Kd.S_alloc | apply Kd.S_drewN | apply Kd.S_drew)); exact (Kd.S_mono (Kd.S_far (p := ⟨gb174, 4, none⟩) (Kd.S_far (p := ⟨gb174, 3, none⟩) (Kd.S_far (p := ⟨gb174, 2, none⟩) (Kd.S_far (p := ⟨gb174, 1, none⟩) (Kd.S_far (p := ⟨gb174, 0, none⟩) (Kd.S_mono HO_2.out (fun k_ hk => (⟨hk, hk.2⟩ : _ ∧ k_ ≠ gb174))) (fun _ hk => hk.2) (.slice A173_0 ((rd_T39 l0 x7_1).f0.f0).length c173_0)) (fun _ hk => hk.2) (.slice A173_1 ((rd_T39 l0 x7_1).f0.f1).length c173_1)) (fun _ hk => hk.2) (.int .i64 ((rd_T39 l0 x7_1).f0.f2))) (fun _ hk => hk.2) (.int .i64 ((rd_T39 l0 x7_1).f1))) (fun _ hk => hk.2) (.int .i64 ((rd_T39 l0 x7_1).f2))) (fun _ h_ => h_.1))) hb) (Kd.R_base ho0)) (Kd.R_base ho1)) (fun _ h_ => h_.1)); have n1_ := Aside0.mk (Kd.R_lower ho0 (below_size (by repeat (first | (with_reducible first | exact HB.out | apply below_alloc | apply pw_below_drewN | apply below_drew1 | refine below_set ?_ GE174.out) | exact HB.out)))); have n2_ := Aside0.mk (Kd.R_lower ho1 (below_size (by repeat (first | (with_reducible first | exact HB.out | apply below_alloc | apply pw_below_drewN | apply below_drew1 | refine below_set ?_ GE174.out) | exact HB.out)))); have n3_ := Aside0.mk (blk_below (g := gb174) (o := .cells #[.slice A173_0 ((rd_T39 l0 x7_1).f0.f0).length c173_0, .slice A173_1 ((rd_T39 l0 x7_1).f0.f1).length c173_1, .int .i64 ((rd_T39 l0 x7_1).f0.f2), .int .i64 ((rd_T39 l0 x7_1).f1), .int .i64 ((rd_T39 l0 x7_1).f2)] 39 (0, 0)) (by (with_reducible repeat (first | refine blk_drewN ?_ _ | refine blk_drew ?_ | refine blk_alloc ?_ _)); refine blk_put (cs := #[.slice A173_0 ((rd_T39 l0 x7_1).f0.f0).length c173_0, .slice A173_1 ((rd_T39 l0 x7_1).f0.f1).length c173_1, .int .i64 ((rd_T39 l0 x7_1).f0.f2), .int .i64 ((rd_T39 l0 x7_1).f1), .int .i64 0]) ?_ 4 _ rfl; (with_reducible repeat (first | refine blk_drewN ?_ _ | refine blk_drew ?_ | refine blk_alloc ?_ _)); refine blk_put (cs := #[.slice A173_0 ((rd_T39 l0 x7_1).f0.f0).length c173_0, .slice A173_1 ((rd_T39 l0 x7_1).f0.f1).length c173_1, .int .i64 ((rd_T39 l0 x7_1).f0.f2), .int .i64 0, .int .i64 0]) ?_ 3 _ rfl; (with_reducible repeat (first | refine blk_drewN ?_ _ | refine blk_drew ?_ | refine blk_alloc ?_ _)); refine blk_put (cs := #[.slice A173_0 ((rd_T39 l0 x7_1).f0.f0).length c173_0, .slice A173_1 ((rd_T39 l0 x7_1).f0.f1).length c173_1, .int .i64 0, .int .i64 0, .int .i64 0]) ?_ 2 _ rfl; (with_reducible repeat (first | refine blk_drewN ?_ _ | refine blk_drew ?_ | refine blk_alloc ?_ _)); refine blk_put (cs := #[.slice A173_0 ((rd_T39 l0 x7_1).f0.f0).length c173_0, .slice none 0 0, .int .i64 0, .int .i64 0, .int .i64 0]) ?_ 1 _ rfl; (with_reducible repeat (first | refine blk_drewN ?_ _ | refine blk_drew ?_ | refine blk_alloc ?_ _)); refine blk_put (cs := #[.slice none 0 0, .slice none 0 0, .int .i64 0, .int .i64 0, .int .i64 0]) ?_ 0 _ rfl; (with_reducible repeat (first | refine blk_drewN ?_ _ | refine blk_drew ?_ | refine blk_alloc ?_ _)); exact BK174.out) hb); have n4_ := Aside0.mk (below_step (by repeat (first | (with_reducible first | exact HB.out | apply below_alloc | apply pw_below_drewN | apply below_drew1 | refine below_set ?_ GE174.out) | exact HB.out)) hb); clear HO_2; clear BK174; clear HB; have HO_2 := n0_; have HO177 := n1_; have HO180 := n2_; have BK174 := n3_; have HB := n4_; clear n0_ n1_ n2_ n3_ n4_; (try clear hb); (try clear hb2); (try clear hk); (try clear hi); (try clear ho0); (try clear ho1); obtain ⟨Ao11, co11, eo11⟩ := Kd.R_slice HO177.out; subst eo11; obtain ⟨Ao12, co12, eo12⟩ := Kd.R_slice HO180.out; subst eo12) | ((with_reducible refine gate_builtin (b := .append) (xs := #[.tmp 11, .tmp 14]) rfl ?_); at_builtin; refine Kd.S_append k39 (w0 := w) w.heap.size rfl (.tmp 11) (.tmp 14) 24 39 (.agg #[(.slice none 0 0), (.slice none 0 0), (.int .i64 0), (.int .i64 0), (.int .i64 0)]) 72 rfl Try.underlying24 info39 rfl (by decide) (by omega) u2 x2_1 (⟨(⟨t175, t178, t181⟩ : S28), t182, t183⟩ : S39) [.slice Ao11 t175.length co11, .slice Ao12 t178.length co12, .int .i64 t181, .int .i64 t182, .int .i64 t183] (fun k_ => k_ ≠ gb174) (fun k_ => some k_ = (.slice Ao11 t175.length co11 : Value).ownBlock ∨ some k_ = (.slice Ao12 t178.length co12 : Value).ownBlock) rfl rfl ?aP (fun k_ hk_ => hk_.elim (fun h_ => ((Kd.R_mono (ok' := fun k_ => ((fun k_ => k_ ≠ gb174)) k_ ∧ some k_ ≠ (u2 : Value).ownBlock) (Kd.R_types (Kd.R_apart' (HO177.out) (Kd.S_typed HO_2.out) (by decide)) BK174.out (by decide)) (fun k_ hk => ⟨hk.2, hk.1.2⟩))).1 k_ h_.symm) (fun h_ => ((Kd.R_mono (ok' := fun k_ => ((fun k_ => k_ ≠ gb174)) k_ ∧ some k_ ≠ (u2 : Value).ownBlock) (Kd.R_types (Kd.R_apart' (HO180.out) (Kd.S_typed HO_2.out) (by decide)) BK174.out (by decide)) (fun k_ hk => ⟨hk.2, hk.1.2⟩))).1 k_ h_.symm)) ?aF ?aO ?aB ?aS ?aL ?_; (case aP => exact k39_mkM _ _ _ (⟨(⟨t175, t178, t181⟩ : S28), t182, t183⟩ : S39) (Kd.R_mono (Kd.R_tight rfl (Kd.R_mono (ok' := fun k_ => ((fun k_ => k_ ≠ gb174)) k_ ∧ some k_ ≠ (u2 : Value).ownBlock) (Kd.R_types (Kd.R_apart' (HO177.out) (Kd.S_typed HO_2.out) (by decide)) BK174.out (by decide)) (fun k_ hk => ⟨hk.2, hk.1.2⟩))) (fun _ h_ => Or.inl h_)) (Kd.R_mono (Kd.R_tight rfl (Kd.R_mono (ok' := fun k_ => ((fun k_ => k_ ≠ gb174)) k_ ∧ some k_ ≠ (u2 : Value).ownBlock) (Kd.R_types (Kd.R_apart' (HO180.out) (Kd.S_typed HO_2.out) (by decide)) BK174.out (by decide)) (fun k_ hk => ⟨hk.2, hk.1.2⟩))) (fun _ h_ => Or.inr (h_)))); (case aB => exact (by repeat (first | (with_reducible first | exact HB.out | apply below_alloc | apply pw_below_drewN | apply below_drew1 | refine below_set ?_ GE174.out) | exact HB.out))); (case aF => exact (fun k_ hk => Kd.freshB (g := gb174) (o := .cells #[.slice A173_0 ((rd_T39 l0 x7_1).f0.f0).length c173_0, .slice A173_1 ((rd_T39 l0 x7_1).f0.f1).length c173_1, .int .i64 ((rd_T39 l0 x7_1).f0.f2), .int .i64 ((rd_T39 l0 x7_1).f1), .int .i64 ((rd_T39 l0 x7_1).f2)] 39 (0, 0)) (by (with_reducible repeat (first | refine blk_drewN ?_ _ | refine blk_drew ?_ | refine blk_alloc ?_ _)); exact BK174.out) k_ hk)); (case aO => exact (by (with_reducible repeat (first | apply Kd.S_alloc | apply Kd.S_drewN | apply Kd.S_drew)); exact Kd.S_mono HO_2.out (fun k_ hk => ⟨hk.1.1.2, fun e_ => e_.elim (fun h_ => hk.1.2 h_) (fun h_ => hk.2 h_)⟩))); (case aS => exact (below_size (by repeat (first | (with_reducible first | exact HB.out | apply below_alloc | apply pw_below_drewN | apply below_drew1 | refine below_set ?_ GE174.out) | exact HB.out)))); (case aL => have := LMc6.out; omega); intro v185 w10 ho hb hg hat; rw [← Ny184.out] at ho; have n0_ := Aside0.mk (blk_grown (g := gb174) (o := .cells #[.slice A173_0 ((rd_T39 l0 x7_1).f0.f0).length c173_0, .slice A173_1 ((rd_T39 l0 x7_1).f0.f1).length c173_1, .int .i64 ((rd_T39 l0 x7_1).f0.f2), .int .i64 ((rd_T39 l0 x7_1).f1), .int .i64 ((rd_T39 l0 x7_1).f2)] 39 (0, 0)) (by (with_reducible repeat (first | refine blk_drewN ?_ _ | refine blk_drew ?_ | refine blk_alloc ?_ _)); exact BK174.out) hg (Kd.S_away HO_2.out (fun _ hk => hk.1.1.2))); have n1_ := Aside0.mk (hb); have n2_ := Aside0.mk (ho); clear BK174; clear HB; clear HO_2; clear HO177; clear HO180; have BK174 := n0_; have HB := n1_; have HO186 := n2_; clear n0_ n1_ n2_; clear ho hb hg hat))
       go_roundg k1
       case measure => have := HK1.out; omega
       case rel => exact ⟨(y184), (wrap64 (x7_1 + 1)), (by first | rfl | (simp; done) | (simp [*]; done)), H', ⟨by have := HK1.out; omega⟩, ⟨by (with_reducible repeat (first | apply Kd.S_alloc | apply Kd.S_drewN | apply Kd.S_drew)); exact Kd.S_mono HO186.out (fun _ hk => trivial)⟩, ⟨by repeat (first | (with_reducible first | exact HB.out | apply below_alloc | apply pw_below_drewN | apply below_drew1 | refine below_set ?_ GE174.out) | exact HB.out)⟩⟩
      ·
       rw [if_neg c6] at H
       exact absurd H (by simp)
     ·
      rw [if_neg c4] at H
      exact absurd H (by simp)
    ·
     rw [if_neg c3] at H
     exact absurd H (by simp)
   ·
    rw [if_neg c2] at H
    have c2b0 : decide (x7_1 < (l0.length : Int)) = false := decide_eq_false c2
    clear c2
    obtain rfl := Option.some.inj H
    go_wp2
    go_ret
    exact ⟨_, by first | rfl | (simp [errW_none, errW_some] <;> rfl) | (simp [*, errW_none, errW_some] <;> rfl), by (with_reducible repeat (first | apply Kd.S_alloc | apply Kd.S_drewN | apply Kd.S_drew)); exact HO_2.out, by repeat (first | (with_reducible first | exact HB.out | apply below_alloc | apply pw_below_drewN | apply below_drew1) | exact HB.out)⟩

/-! ### replace_Put: function 15 -/
/-- Does a batch spend what these inputs spend? -/
def clash (x : S39) (l : List S38) : Bool := x.f0.f0.any fun z => decide (0 ≤ Go.Proofs.Ytiodebjjbgcbhaa.FindQ.firstOf (fun y => oeq y.f0 z.f0) l)
set_option maxHeartbeats 4000000 in
set_option maxRecDepth 100000 in
theorem put_lit (x : S39) {A0 : Option Addr} {c0 : Nat} {A1 : Option Addr} {c1 : Nat} (B0 : Option Addr) (d0 : Nat) (l0 : List S38) (B1 : Option Addr) (d1 : Nat) (l1 : List S64) (a2 a3 a4 : Int) (q : Nat) (W : World)
    (hm : W.heap[q]? = some (.cells #[.slice B0 l0.length d0, .slice B1 l1.length d1, .int .i64 a2, .int .i64 a3, .int .i64 a4] 39 (0, 0)))
    (hx0 : x.f0.f0.length ≤ c0) (hx1 : Kd.C k38 W A0 x.f0.f0.length x.f0.f0) (hx2 : x.f0.f1.length ≤ c1) (hx3 : Kd.C k64 W A1 x.f0.f1.length x.f0.f1)
    (hl0 : l0.length ≤ d0) (hl1 : Kd.C k38 W B0 l0.length l0) (hl2 : l1.length ≤ d1) (hl3 : Kd.C k64 W B1 l1.length l1) :
    Calls Try.prog 34 #[.agg #[.slice A0 x.f0.f0.length c0, .slice A1 x.f0.f1.length c1, .int .i64 x.f0.f2, .int .i64 x.f1, .int .i64 x.f2], .pointer (some ⟨q, 0, none⟩)] W fun e w' => e = .returned (.bool (clash x l0)) ∧ Below W.heap.size W w' := by
  have HM := Aside0.mk hm
  have HX1 := Aside0.mk hx1
  have HX3 := Aside0.mk hx3
  have HL1 := Aside0.mk hl1
  have HL3 := Aside0.mk hl3
  have HB := Aside0.mk (Below.refl W.heap.size W)
  generalize hf : clash x l0 = fr
  have HF := Aside0.mk (show tx_Conflict.f x.f0.f0 x.f0.f1 x.f0.f2 l0 l1 a2 = some fr from congrArg some hf)
  clear hm hx1 hx3 hl1 hl3 hf
  go_enter Try.func34, Try.ntmps34
  go_wp2_with (first | ((with_reducible refine gate_dst (N := 2) rfl ?_); refine box_event ?hg (N := 2) ?hd (cs := #[.slice A0 x.f0.f0.length c0, .slice A1 x.f0.f1.length c1, .int .i64 x.f0.f2, .int .i64 x.f1, .int .i64 x.f2]) (t := 39) ?hr ?_; (case hd => rfl); (case hg => rfl); (case hr => first | (go_simp; done) | (go_simp; rfl)); intro gb hg w3 hbox hb; have HM3 := Aside0.mk (blk_below HM.out hb); have HB3 := Aside0.mk (below_step HB.out hb); have HX13 := Aside0.mk (Kd.C_below HX1.out hb); have HX33 := Aside0.mk (Kd.C_below HX3.out hb); have HL13 := Aside0.mk (Kd.C_below HL1.out hb); have HL33 := Aside0.mk (Kd.C_below HL3.out hb); have BK := Aside0.mk hbox; clear HM HB HX1 HX3 HL1 HL3 hbox hb hg; have hz0 : w3.cell? ⟨q, 0, none⟩ = some (.slice B0 l0.length d0) := (blk_cell HM3.out 0).trans rfl; have hz1 : w3.cell? ⟨q, 1, none⟩ = some (.slice B1 l1.length d1) := (blk_cell HM3.out 1).trans rfl; have hz2 : w3.cell? ⟨q, 2, none⟩ = some (.int .i64 a2) := (blk_cell HM3.out 2).trans rfl; have hy0 : w3.cell? ⟨gb, 0, none⟩ = some (.slice A0 x.f0.f0.length c0) := (blk_cell BK.out 0).trans rfl; have hy1 : w3.cell? ⟨gb, 1, none⟩ = some (.slice A1 x.f0.f1.length c1) := (blk_cell BK.out 1).trans rfl; have hy2 : w3.cell? ⟨gb, 2, none⟩ = some (.int .i64 x.f0.f2) := (blk_cell BK.out 2).trans rfl) | (go_at_call 31; refine (tx_Conflict.calls A0 c0 x.f0.f0 A1 c1 x.f0.f1 x.f0.f2 B0 d0 l0 B1 d1 l1 a2 fr _ HX13.out hx0 HX33.out hx2 HL13.out hl0 HL33.out hl2 HF.out).mono ?_; rintro e w' ⟨rfl, hb'⟩))
  go_ret
  exact ⟨rfl, below_then HB3.out (Below.size HB3.out) hb'⟩
/-- What a row's elements are in memory, and they themselves. -/
theorem rowPairs {w : World} {base : Nat} {ok : Nat → Prop} {xs : List S39} {inner : List Value} (hr : Reps (k39.M w base ok) k39.sz xs inner) :
    ∃ ys : List (S39 × List Value), ys.map Prod.fst = xs ∧ ys.flatMap Prod.snd = inner ∧ ∀ y ∈ ys, k39.M w base ok y.1 y.2 := by
  induction xs generalizing inner with
  | nil => exact ⟨[], rfl, by have := hr.1; simp at this; simp [this], fun y hy => by cases hy⟩
  | cons x xs ih =>
    have hl := hr.1
    have h0 := hr.2 0 x rfl
    rw [Nat.zero_mul, List.drop_zero] at h0
    have hlen : k39.sz ≤ inner.length := by rw [hl, List.length_cons, Nat.add_mul, Nat.one_mul]; exact Nat.le_add_left _ _
    obtain ⟨ys, h1, h2, h3⟩ := ih (inner := inner.drop k39.sz) ⟨by rw [List.length_drop, hl, List.length_cons, Nat.add_mul, Nat.one_mul, Nat.add_sub_cancel], fun j p hj => by
      have := hr.2 (j + 1) p (by simpa using hj)
      rwa [show (j + 1) * k39.sz = k39.sz + j * k39.sz by rw [Nat.add_mul, Nat.one_mul, Nat.add_comm], ← List.drop_drop] at this⟩
    refine ⟨(x, inner.take k39.sz) :: ys, by rw [List.map_cons, h1], by rw [List.flatMap_cons, h2, List.take_append_drop], fun y hy => ?_⟩
    rcases List.mem_cons.1 hy with rfl | hy
    · exact h0
    · exact h3 y hy
theorem pairsRow {w : World} {base : Nat} {ok : Nat → Prop} (ys : List (S39 × List Value)) (h : ∀ y ∈ ys, k39.M w base ok y.1 y.2) : Reps (k39.M w base ok) k39.sz (ys.map Prod.fst) (ys.flatMap Prod.snd) := by
  have hk : ∀ y ∈ ys, y.2.length = k39.sz := fun y hy => k39.K_len (k39.K_of_M (h y hy))
  refine ⟨by rw [Go.Proofs.Ytiodebjjbgcbhaa.DelB.flat_len' _ _ ys hk, List.length_map], fun j p hj => ?_⟩
  have hlt : j < ys.length := by have := (List.getElem?_eq_some_iff.1 hj).1; rwa [List.length_map] at this
  rw [Go.Proofs.Ytiodebjjbgcbhaa.DelB.flat_chunk _ _ ys hk j hlt]
  have e : ys[j].1 = p := by have := (List.getElem?_eq_some_iff.1 hj).2; rw [List.getElem_map] at this; exact this
  rw [← e]
  exact h _ (List.getElem_mem hlt)
theorem filter_pairs (p : S39 → Bool) (ys : List (S39 × List Value)) : (ys.map Prod.fst).filter (fun x => !p x) = (ys.filter fun y => !p y.1).map Prod.fst := by
  induction ys with
  | nil => rfl
  | cons y ys ih =>
    rw [List.map_cons, List.filter_cons, List.filter_cons]
    cases h : p y.1 <;> simp [ih]
/-- slices.DeleteFunc at a row of the call's own. -/
theorem delR (g : Nat) (lb : Array Value) (eg : ∀ args w, (callFunc g args).run Try.prog w = .ok (.enter g args) w) (p : S39 → Bool) {W : World} {base : Nat} {ok : Nat → Prop} {v : Value} {xs : List S39} (h : Kd.R k39 39 W base ok v xs) (hbase : base ≤ W.heap.size)
    (hp : ∀ W' x c, W.grownBy W' v.ownBlock → k39.M W' base (fun k => ok k ∧ some k ≠ v.ownBlock) x c → Calls Try.prog g (#[.agg c.toArray] ++ lb) W' fun e w' => e = .returned (.bool (p x)) ∧ Below W'.heap.size W' w') :
    Calls Try.prog 33 #[v, .func (.func g) #[] lb] W fun e w' => ∃ v', e = .returned v' ∧ Kd.R k39 39 w' base ok v' (xs.filter fun x => !p x) ∧ v'.ownBlock = v.ownBlock ∧ W.grownBy w' v.ownBlock ∧ Below base W w' := by
  obtain ⟨h0, inner, ho, hr⟩ := h
  rcases ho.2 with ⟨rfl, hz⟩ | ⟨b, cap, cur, rfl, hb1, hb2, r1, r2, r3, r4⟩
  · obtain rfl : xs = [] := List.length_eq_zero_iff.1 hz
    refine (Go.Proofs.Ytiodebjjbgcbhaa.DelB.del_none g lb eg W).mono ?_
    rintro e w' ⟨rfl, hB⟩
    exact ⟨_, rfl, Kd.R_nil _ _ _ _ _, rfl, ⟨hB.os, hB.tape, hB.output, hB.size, fun k hk _ => hB.block k hk⟩, hB.mono hbase⟩
  · obtain ⟨ys, e1, e2, e3⟩ := rowPairs hr
    subst e1
    have hyl : ys.length = (ys.map Prod.fst).length := by rw [List.length_map]
    have hk : ∀ y ∈ ys, y.2.length = 5 := fun y hy => k39.K_len (k39.K_of_M (e3 y hy))
    have ht : cur.toList.take (ys.length * 5) = ys.flatMap Prod.snd := by
      rw [e2, ← r4, hyl]
      rfl
    have hd := Go.Proofs.Ytiodebjjbgcbhaa.DelB.del_row g lb eg (fun y : S39 × List Value => p y.1) Prod.snd ys hk (fun y hy => k39.K_one (k39.K_of_M (e3 y hy))) b cap cur.toList W (by rw [Array.toArray_toList]; exact hb2) (by rw [Array.length_toList]; exact r3) (by rw [hyl]; exact r1) r2 ht
      (fun W' y hy hg => hp W' y.1 y.2 hg (Kd.M_grown (e3 y hy) hg (fun k hk => hk.2)))
    rw [hyl] at hd
    refine hd.mono ?_
    rintro e w' ⟨rfl, hg, cur', hc1, hc2, hc3⟩
    refine ⟨_, rfl, ?_, rfl, hg, ⟨hg.os, hg.tape, hg.output, hg.size, fun k hk => hg.block k (Nat.lt_of_lt_of_le hk hbase) (fun e => by cases e; omega)⟩⟩
    rw [filter_pairs]
    have hM : ∀ y ∈ ys.filter (fun y => !p y.1), k39.M w' base (fun k => ok k ∧ some k ≠ (Value.slice (some ⟨b, 0, none⟩) (ys.filter fun y => !p y.1).length cap).ownBlock) y.1 y.2 := fun y hy => Kd.M_grown (e3 y (List.mem_filter.1 hy).1) hg (fun k hk => hk.2)
    refine ⟨fun k hk => h0 k hk, (ys.filter fun y => !p y.1).flatMap Prod.snd, ?_, pairsRow _ hM⟩
    have hfl : (ys.filter fun y => !p y.1).length ≤ cap := by
      have := List.length_filter_le (fun y : S39 × List Value => !p y.1) ys
      omega
    rw [List.length_map]
    exact ⟨by rw [← hc3, List.length_take, hc2]; show min ((ys.filter fun y => !p y.1).length * 5) (cap * 5) = (ys.filter fun y => !p y.1).length * 5; have := Nat.mul_le_mul_right 5 hfl; omega, .inr ⟨b, cap, cur'.toArray, rfl, hb1, hc1, hfl, r2, (by simpa using hc2 : cur'.toArray.size = cap * 5), (by simpa using hc3 : cur'.toArray.toList.take ((ys.filter fun y => !p y.1).length * 5) = (ys.filter fun y => !p y.1).flatMap Prod.snd)⟩⟩
/-- What Put answers. -/
def replace_Put.f (k : Nat) (l0 : List S39) (l1_0 : List S38) (l1_1 : List S64) (a1_2 a1_3 a1_4 : Int) : Option (List S39 × Bool) := (batch_OwnAll.f k l0).bind fun o => (replace_May.f k l0 l1_0 l1_1 a1_2 a1_3 a1_4).bind fun m => if m = true then ((batch_Own.f l1_0 l1_1 a1_2 a1_3 a1_4).bind fun b => if (o.filter fun x => !clash x l1_0).length < 1954687338268 then some ((o.filter fun x => !clash x l1_0) ++ [(⟨(⟨b.1, b.2.1, b.2.2.1⟩ : S28), b.2.2.2.1, b.2.2.2.2⟩ : S39)], true) else none) else some (o, false)
theorem replace_Put.mono : ∀ a0 a1 a2 a3 a4 a5 k, LeO (replace_Put.f k a0 a1 a2 a3 a4 a5) (replace_Put.f (k + 1) a0 a1 a2 a3 a4 a5) := by
  intro a0 a1 a2 a3 a4 a5 k
  unfold replace_Put.f
  exact LeO.bind (batch_OwnAll.mono _ _) (fun _ => LeO.bind (replace_May.mono _ _ _ _ _ _ _) (fun _ => LeO.refl _))
set_option maxHeartbeats 8000000 in
set_option maxRecDepth 100000 in
theorem replace_Put.calls (k : Nat) (A0 : Option Addr) (c0 : Nat) (l0 : List S39) (A1_0 : Option Addr) (c1_0 : Nat) (l1_0 : List S38) (A1_1 : Option Addr) (c1_1 : Nat) (l1_1 : List S64) (a1_2 a1_3 a1_4 : Int) (r1 : List S39) (r2 : Bool) (w : World) (hr0 : Kd.C k39 w A0 l0.length l0) (hc0 : l0.length ≤ c0) (hr1_0 : Kd.C k38 w A1_0 l1_0.length l1_0) (hc1_0 : l1_0.length ≤ c1_0) (hr1_1 : Kd.C k64 w A1_1 l1_1.length l1_1) (hc1_1 : l1_1.length ≤ c1_1) (h : replace_Put.f k l0 l1_0 l1_1 a1_2 a1_3 a1_4 = some (r1, r2)) :
    Calls Try.prog 15 #[.slice A0 l0.length c0, .agg #[.slice A1_0 l1_0.length c1_0, .slice A1_1 l1_1.length c1_1, .int .i64 a1_2, .int .i64 a1_3, .int .i64 a1_4]] w fun e w' => ∃ v0_ : Value, e = .returned (.tuple #[v0_, .bool r2]) ∧ Kd.R k39 39 w' w.heap.size (fun _ => True) v0_ r1 ∧ Below w.heap.size w w' := by
  have HR0 := Aside0.mk hr0
  have HC0 := Aside0.mk hc0
  have HR1_0 := Aside0.mk hr1_0
  have HC1_0 := Aside0.mk hc1_0
  have HR1_1 := Aside0.mk hr1_1
  have HC1_1 := Aside0.mk hc1_1
  clear hr0 hc0 hr1_0 hc1_0 hr1_1 hc1_1
  have HB := Aside0.mk (Below.refl w.heap.size w)
  obtain ⟨o, A1', h⟩ := Option.bind_eq_some_iff.mp (show ((batch_OwnAll.f k l0).bind fun o => (replace_May.f k l0 l1_0 l1_1 a1_2 a1_3 a1_4).bind fun m => if m = true then ((batch_Own.f l1_0 l1_1 a1_2 a1_3 a1_4).bind fun b => if (o.filter fun x => !clash x l1_0).length < 1954687338268 then some ((o.filter fun x => !clash x l1_0) ++ [(⟨(⟨b.1, b.2.1, b.2.2.1⟩ : S28), b.2.2.2.1, b.2.2.2.2⟩ : S39)], true) else none) else some (o, false)) = some (r1, r2) from h)
  have A1 := Aside0.mk A1'
  clear A1'
  obtain ⟨m, A2', h⟩ := Option.bind_eq_some_iff.mp h
  have A2 := Aside0.mk A2'
  clear A2'
  cases m with
  | false =>
    rw [if_neg (by decide)] at h
    injection h with h
    obtain rfl : o = r1 := congrArg Prod.fst h
    obtain rfl : false = r2 := congrArg Prod.snd h
    clear h
    go_enter Try.func15, Try.ntmps15
    go_wp2_with (first | ((with_reducible refine gate_dst (N := 3) rfl ?_); refine box_event ?hg (N := 3) ?hd (cs := #[.slice A1_0 l1_0.length c1_0, .slice A1_1 l1_1.length c1_1, .int .i64 a1_2, .int .i64 a1_3, .int .i64 a1_4]) (t := 39) ?hr ?_; (case hd => rfl); (case hg => rfl); (case hr => first | (go_simp; done) | (go_simp; rfl)); intro gb hg w3 hbox hb; have hgw := Aside0.mk (by rw [hg]; exact below_size (by repeat (first | (with_reducible first | exact HB.out | apply below_alloc | apply pw_below_drewN | apply below_drew1) | exact HB.out)) : w.heap.size ≤ gb); have n1_ := Aside0.mk (below_step (by repeat (first | (with_reducible first | exact HB.out | apply below_alloc | apply pw_below_drewN | apply below_drew1) | exact HB.out)) hb); have n2_ := Aside0.mk hbox; clear HB; have HB := n1_; have BK := n2_; clear n1_ n2_ hb hbox hg) | (go_at_call 32; (with_reducible refine (batch_OwnAll.calls k _ _ l0 o _ ?s1 ?s2 A1.out).mono ?_); (case s1 => exact (by repeat (first | exact (Kd.C_below HR0.out HB.out) | (with_reducible refine Kd.C_alloc ?_ _) | (with_reducible refine Kd.C_drewN ?_ _) | (with_reducible refine Kd.C_drew ?_)))); (case s2 => exact HC0.out); rintro e w5 ⟨v5, rfl, ho0, hb⟩; have hs5 := Aside0.mk (hb.size : _ ≤ w5.heap.size); have n0_ := Aside0.mk (Kd.S_R ho0); have ngt := Aside0.mk (Nat.lt_of_lt_of_le (blk_lt BK.out) (by first | exact Nat.le_refl _ | (simp only [World.size_drewN]; exact Nat.le_refl _)) : gb < _); have n1_ := Aside0.mk (blk_below (by (with_reducible repeat (first | refine blk_drewN ?_ _ | refine blk_drew ?_ | refine blk_alloc ?_ _)); exact BK.out) hb); have n2_ := Aside0.mk (below_step (by repeat (first | (with_reducible first | exact HB.out | apply below_alloc | apply pw_below_drewN | apply below_drew1) | exact HB.out)) hb); clear BK HB hb ho0; have HO := n0_; have BK := n1_; have HB := n2_; clear n0_ n1_ n2_; have hcw5_0 : w5.cell? ⟨gb, 0, none⟩ = some (.slice A1_0 l1_0.length c1_0) := (blk_cell BK.out 0).trans rfl; have hcw5_1 : w5.cell? ⟨gb, 1, none⟩ = some (.slice A1_1 l1_1.length c1_1) := (blk_cell BK.out 1).trans rfl; have hcw5_2 : w5.cell? ⟨gb, 2, none⟩ = some (.int .i64 a1_2) := (blk_cell BK.out 2).trans rfl; have hcw5_3 : w5.cell? ⟨gb, 3, none⟩ = some (.int .i64 a1_3) := (blk_cell BK.out 3).trans rfl; have hcw5_4 : w5.cell? ⟨gb, 4, none⟩ = some (.int .i64 a1_4) := (blk_cell BK.out 4).trans rfl) | (go_at_call 12; (with_reducible refine (replace_May.calls k _ _ l0 _ _ l1_0 _ _ l1_1 a1_2 a1_3 a1_4 false _ ?s1 ?s2 ?s3 ?s4 ?s5 ?s6 A2.out).mono ?_); (case s1 => exact (by repeat (first | exact (Kd.C_below HR0.out HB.out) | (with_reducible refine Kd.C_alloc ?_ _) | (with_reducible refine Kd.C_drewN ?_ _) | (with_reducible refine Kd.C_drew ?_)))); (case s2 => exact HC0.out); (case s3 => exact (by repeat (first | exact (Kd.C_below HR1_0.out HB.out) | (with_reducible refine Kd.C_alloc ?_ _) | (with_reducible refine Kd.C_drewN ?_ _) | (with_reducible refine Kd.C_drew ?_)))); (case s4 => exact HC1_0.out); (case s5 => exact (by repeat (first | exact (Kd.C_below HR1_1.out HB.out) | (with_reducible refine Kd.C_alloc ?_ _) | (with_reducible refine Kd.C_drewN ?_ _) | (with_reducible refine Kd.C_drew ?_)))); (case s6 => exact HC1_1.out); rintro e w7 ⟨rfl, hb⟩; have hs7 := Aside0.mk (Nat.le_trans hs5.out hb.size : _ ≤ w7.heap.size); have n0_ := Aside0.mk (Kd.R_below (by (with_reducible repeat (first | apply Kd.R_alloc | apply Kd.R_drewN | apply Kd.R_drew)); exact HO.out) hb); have n1_ := Aside0.mk (blk_below (by (with_reducible repeat (first | refine blk_drewN ?_ _ | refine blk_drew ?_ | refine blk_alloc ?_ _)); exact BK.out) hb); have n2_ := Aside0.mk (below_step (by repeat (first | (with_reducible first | exact HB.out | apply below_alloc | apply pw_below_drewN | apply below_drew1) | exact HB.out)) hb); clear BK HB HO hb; have HO := n0_; have BK := n1_; have HB := n2_; clear n0_ n1_ n2_; have hcw7_0 : w7.cell? ⟨gb, 0, none⟩ = some (.slice A1_0 l1_0.length c1_0) := (blk_cell BK.out 0).trans rfl; have hcw7_1 : w7.cell? ⟨gb, 1, none⟩ = some (.slice A1_1 l1_1.length c1_1) := (blk_cell BK.out 1).trans rfl; have hcw7_2 : w7.cell? ⟨gb, 2, none⟩ = some (.int .i64 a1_2) := (blk_cell BK.out 2).trans rfl; have hcw7_3 : w7.cell? ⟨gb, 3, none⟩ = some (.int .i64 a1_3) := (blk_cell BK.out 3).trans rfl; have hcw7_4 : w7.cell? ⟨gb, 4, none⟩ = some (.int .i64 a1_4) := (blk_cell BK.out 4).trans rfl))
    go_ret2
    exact ⟨_, rfl, Kd.R_lower (by (with_reducible repeat (first | apply Kd.R_alloc | apply Kd.R_drewN | apply Kd.R_drew)); exact HO.out) (Nat.le_trans hgw.out (Nat.le_of_lt ngt.out)), (by repeat (first | (with_reducible first | exact HB.out | apply below_alloc | apply pw_below_drewN | apply below_drew1) | exact HB.out))⟩
  | true =>
    rw [if_pos rfl] at h
    obtain ⟨⟨q1, q2, q3, q4, q5⟩, A3', h⟩ := Option.bind_eq_some_iff.mp h
    have A3 := Aside0.mk A3'
    clear A3'
    by_cases hl : (o.filter fun x => !clash x l1_0).length < 1954687338268
    · rw [if_pos hl] at h
      have LM := Aside0.mk hl
      injection h with h
      obtain ⟨ro, hro⟩ : ∃ y, y = (o.filter fun x => !clash x l1_0) := ⟨_, rfl⟩
      rw [← hro] at LM
      obtain rfl : ro ++ [(⟨(⟨q1, q2, q3⟩ : S28), q4, q5⟩ : S39)] = r1 := by rw [hro]; exact congrArg Prod.fst h
      obtain rfl : true = r2 := congrArg Prod.snd h
      have HRO := Aside0.mk hro
      clear h hl hro
      have eg : ∀ args w, (callFunc 34 args).run Try.prog w = .ok (.enter 34 args) w := enters_of Try.func34 (by kernel_rfl) rfl
      have EG := Aside0.mk eg
      clear eg
      go_enter Try.func15, Try.ntmps15
      go_wp2_with (first | ((with_reducible refine gate_dst (N := 3) rfl ?_); refine box_event ?hg (N := 3) ?hd (cs := #[.slice A1_0 l1_0.length c1_0, .slice A1_1 l1_1.length c1_1, .int .i64 a1_2, .int .i64 a1_3, .int .i64 a1_4]) (t := 39) ?hr ?_; (case hd => rfl); (case hg => rfl); (case hr => first | (go_simp; done) | (go_simp; rfl)); intro gb hg w3 hbox hb; have hgw := Aside0.mk (by rw [hg]; exact below_size (by repeat (first | (with_reducible first | exact HB.out | apply below_alloc | apply pw_below_drewN | apply below_drew1) | exact HB.out)) : w.heap.size ≤ gb); have n1_ := Aside0.mk (below_step (by repeat (first | (with_reducible first | exact HB.out | apply below_alloc | apply pw_below_drewN | apply below_drew1) | exact HB.out)) hb); have n2_ := Aside0.mk hbox; clear HB; have HB := n1_; have BK := n2_; clear n1_ n2_ hb hbox hg) | (go_at_call 32; (with_reducible refine (batch_OwnAll.calls k _ _ l0 o _ ?s1 ?s2 A1.out).mono ?_); (case s1 => exact (by repeat (first | exact (Kd.C_below HR0.out HB.out) | (with_reducible refine Kd.C_alloc ?_ _) | (with_reducible refine Kd.C_drewN ?_ _) | (with_reducible refine Kd.C_drew ?_)))); (case s2 => exact HC0.out); rintro e w5 ⟨v5, rfl, ho0, hb⟩; have hs5 := Aside0.mk (hb.size : _ ≤ w5.heap.size); have n0_ := Aside0.mk (Kd.S_R ho0); have ngt := Aside0.mk (Nat.lt_of_lt_of_le (blk_lt BK.out) (by first | exact Nat.le_refl _ | (simp only [World.size_drewN]; exact Nat.le_refl _)) : gb < _); have n1_ := Aside0.mk (blk_below (by (with_reducible repeat (first | refine blk_drewN ?_ _ | refine blk_drew ?_ | refine blk_alloc ?_ _)); exact BK.out) hb); have n2_ := Aside0.mk (below_step (by repeat (first | (with_reducible first | exact HB.out | apply below_alloc | apply pw_below_drewN | apply below_drew1) | exact HB.out)) hb); clear BK HB hb ho0; have HO := n0_; have BK := n1_; have HB := n2_; clear n0_ n1_ n2_; have hcw5_0 : w5.cell? ⟨gb, 0, none⟩ = some (.slice A1_0 l1_0.length c1_0) := (blk_cell BK.out 0).trans rfl; have hcw5_1 : w5.cell? ⟨gb, 1, none⟩ = some (.slice A1_1 l1_1.length c1_1) := (blk_cell BK.out 1).trans rfl; have hcw5_2 : w5.cell? ⟨gb, 2, none⟩ = some (.int .i64 a1_2) := (blk_cell BK.out 2).trans rfl; have hcw5_3 : w5.cell? ⟨gb, 3, none⟩ = some (.int .i64 a1_3) := (blk_cell BK.out 3).trans rfl; have hcw5_4 : w5.cell? ⟨gb, 4, none⟩ = some (.int .i64 a1_4) := (blk_cell BK.out 4).trans rfl) | (go_at_call 12; (with_reducible refine (replace_May.calls k _ _ l0 _ _ l1_0 _ _ l1_1 a1_2 a1_3 a1_4 true _ ?s1 ?s2 ?s3 ?s4 ?s5 ?s6 A2.out).mono ?_); (case s1 => exact (by repeat (first | exact (Kd.C_below HR0.out HB.out) | (with_reducible refine Kd.C_alloc ?_ _) | (with_reducible refine Kd.C_drewN ?_ _) | (with_reducible refine Kd.C_drew ?_)))); (case s2 => exact HC0.out); (case s3 => exact (by repeat (first | exact (Kd.C_below HR1_0.out HB.out) | (with_reducible refine Kd.C_alloc ?_ _) | (with_reducible refine Kd.C_drewN ?_ _) | (with_reducible refine Kd.C_drew ?_)))); (case s4 => exact HC1_0.out); (case s5 => exact (by repeat (first | exact (Kd.C_below HR1_1.out HB.out) | (with_reducible refine Kd.C_alloc ?_ _) | (with_reducible refine Kd.C_drewN ?_ _) | (with_reducible refine Kd.C_drew ?_)))); (case s6 => exact HC1_1.out); rintro e w7 ⟨rfl, hb⟩; have hs7 := Aside0.mk (Nat.le_trans hs5.out hb.size : _ ≤ w7.heap.size); have n0_ := Aside0.mk (Kd.R_below (by (with_reducible repeat (first | apply Kd.R_alloc | apply Kd.R_drewN | apply Kd.R_drew)); exact HO.out) hb); have n1_ := Aside0.mk (blk_below (by (with_reducible repeat (first | refine blk_drewN ?_ _ | refine blk_drew ?_ | refine blk_alloc ?_ _)); exact BK.out) hb); have n2_ := Aside0.mk (below_step (by repeat (first | (with_reducible first | exact HB.out | apply below_alloc | apply pw_below_drewN | apply below_drew1) | exact HB.out)) hb); clear BK HB HO hb; have HO := n0_; have BK := n1_; have HB := n2_; clear n0_ n1_ n2_; have hcw7_0 : w7.cell? ⟨gb, 0, none⟩ = some (.slice A1_0 l1_0.length c1_0) := (blk_cell BK.out 0).trans rfl; have hcw7_1 : w7.cell? ⟨gb, 1, none⟩ = some (.slice A1_1 l1_1.length c1_1) := (blk_cell BK.out 1).trans rfl; have hcw7_2 : w7.cell? ⟨gb, 2, none⟩ = some (.int .i64 a1_2) := (blk_cell BK.out 2).trans rfl; have hcw7_3 : w7.cell? ⟨gb, 3, none⟩ = some (.int .i64 a1_3) := (blk_cell BK.out 3).trans rfl; have hcw7_4 : w7.cell? ⟨gb, 4, none⟩ = some (.int .i64 a1_4) := (blk_cell BK.out 4).trans rfl) | (go_at_call 33; (with_reducible refine (delR 34 #[.pointer (some ⟨gb, 0, none⟩)] EG.out (fun x => clash x l1_0) (by (with_reducible repeat (first | apply Kd.R_alloc | apply Kd.R_drewN | apply Kd.R_drew)); exact HO.out) ?sz ?pred).mono ?_); (case sz => exact hs7.out); (case pred => intro W' x c hgr hM; obtain ⟨X0, d0, X1, d1, rfl, i0, i1, i2, i3⟩ := k39_open (k39.K_of_M hM); have hbw : Below w.heap.size w W' := Below.grown HB.out hgr (below_size HB.out) (fun k_ hk_ => Nat.le_trans (Nat.le_trans hgw.out (Nat.le_of_lt ngt.out)) (Kd.R_base HO.out k_ hk_)); exact put_lit x A1_0 c1_0 l1_0 A1_1 c1_1 l1_1 a1_2 a1_3 a1_4 gb W' (blk_grown BK.out hgr (fun e_ => Nat.lt_irrefl _ (Nat.lt_of_lt_of_le ngt.out (Kd.R_base HO.out gb e_.symm)))) i0 i1 i2 i3 HC1_0.out (Kd.C_below HR1_0.out hbw) HC1_1.out (Kd.C_below HR1_1.out hbw)); rintro e w9 ⟨v9, rfl, ho0, ho1, ho2, _⟩; rw [← HRO.out] at ho0; have n0_ := Aside0.mk ho0; have n1_ := Aside0.mk (blk_grown BK.out ho2 (fun e_ => Nat.lt_irrefl _ (Nat.lt_of_lt_of_le ngt.out (Kd.R_base HO.out gb e_.symm)))); have n2_ := Aside0.mk (Below.grown HB.out ho2 (below_size HB.out) (fun k_ hk_ => Nat.le_trans (Nat.le_trans hgw.out (Nat.le_of_lt ngt.out)) (Kd.R_base HO.out k_ hk_))); clear BK HB HO ho0 ho1 ho2; have HO := n0_; have BK := n1_; have HB := n2_; clear n0_ n1_ n2_; have hcw9_0 : w9.cell? ⟨gb, 0, none⟩ = some (.slice A1_0 l1_0.length c1_0) := (blk_cell BK.out 0).trans rfl; have hcw9_1 : w9.cell? ⟨gb, 1, none⟩ = some (.slice A1_1 l1_1.length c1_1) := (blk_cell BK.out 1).trans rfl; have hcw9_2 : w9.cell? ⟨gb, 2, none⟩ = some (.int .i64 a1_2) := (blk_cell BK.out 2).trans rfl; have hcw9_3 : w9.cell? ⟨gb, 3, none⟩ = some (.int .i64 a1_3) := (blk_cell BK.out 3).trans rfl; have hcw9_4 : w9.cell? ⟨gb, 4, none⟩ = some (.int .i64 a1_4) := (blk_cell BK.out 4).trans rfl) | ((with_reducible refine gate_callee (f := 35) rfl ?_); refine goesL_ (some 19) rfl rfl Try.func35 (by kernel_rfl) rfl #[.agg #[.slice A1_0 l1_0.length c1_0, .slice A1_1 l1_1.length c1_1, .int .i64 a1_2, .int .i64 a1_3, .int .i64 a1_4]] rfl (by (try simp only [List.map_toArray, List.map_cons, List.map_nil]); first | done | rfl) ?_; (with_reducible refine (batch_Own.calls _ _ l1_0 _ _ l1_1 a1_2 a1_3 a1_4 q1 q2 q3 q4 q5 _ ?s1 ?s2 ?s3 ?s4 A3.out).mono ?_); (case s1 => exact (by repeat (first | exact (Kd.C_below HR1_0.out HB.out) | (with_reducible refine Kd.C_alloc ?_ _) | (with_reducible refine Kd.C_drewN ?_ _) | (with_reducible refine Kd.C_drew ?_)))); (case s2 => exact HC1_0.out); (case s3 => exact (by repeat (first | exact (Kd.C_below HR1_1.out HB.out) | (with_reducible refine Kd.C_alloc ?_ _) | (with_reducible refine Kd.C_drewN ?_ _) | (with_reducible refine Kd.C_drew ?_)))); (case s4 => exact HC1_1.out); rintro e w11 ⟨va, vb, rfl, ho0, ho1, hb⟩; refine ⟨_, rfl, ?_⟩; have n0_ := Aside0.mk (Kd.R_lower (Kd.R_old (by (with_reducible repeat (first | apply Kd.R_alloc | apply Kd.R_drewN | apply Kd.R_drew)); exact HO.out) hb) (Nat.le_trans hgw.out (Nat.le_of_lt ngt.out))); have n2_ := Aside0.mk (below_step (by repeat (first | (with_reducible first | exact HB.out | apply below_alloc | apply pw_below_drewN | apply below_drew1) | exact HB.out)) hb); have n3_ := Aside0.mk (Kd.R_lower (Kd.R_mono (Kd.R_bound ho0) (fun k_ hk_ => hk_.2.1)) (below_size (by repeat (first | (with_reducible first | exact HB.out | apply below_alloc | apply pw_below_drewN | apply below_drew1) | exact HB.out)))); have n4_ := Aside0.mk (Kd.R_lower (Kd.R_mono (Kd.R_bound ho1) (fun k_ hk_ => hk_.2.1)) (below_size (by repeat (first | (with_reducible first | exact HB.out | apply below_alloc | apply pw_below_drewN | apply below_drew1) | exact HB.out)))); clear HB HO hb ho0 ho1; have HO := n0_; have HB := n2_; have HU := n3_; have HV := n4_; clear n0_ n2_ n3_ n4_; obtain ⟨Aa, ca, ea⟩ := Kd.R_slice HU.out; subst ea; obtain ⟨Ab, cb, eb⟩ := Kd.R_slice HV.out; subst eb) | ((with_reducible refine gate_builtin (b := .append) (xs := #[.tmp 17, .tmp 20]) rfl ?_); at_builtin; refine Kd.R_append k39 (w0 := w) w.heap.size rfl (.tmp 17) (.tmp 20) 24 39 (.agg #[(.slice none 0 0), (.slice none 0 0), (.int .i64 0), (.int .i64 0), (.int .i64 0)]) 72 rfl Try.underlying24 info39 rfl (by decide) (by omega) v9 ro (⟨(⟨q1, q2, q3⟩ : S28), q4, q5⟩ : S39) [.slice Aa q1.length ca, .slice Ab q2.length cb, .int .i64 q3, .int .i64 q4, .int .i64 q5] (fun _ => True) (LE.le w9.heap.size) rfl rfl ?aP ?aK (fun _ _ => trivial) ?aO ?aB ?aS ?aL ?_; (case aP => exact k39_mkM _ _ _ (⟨(⟨q1, q2, q3⟩ : S28), q4, q5⟩ : S39) HU.out HV.out); (case aK => exact fun k_ hk_ => ⟨trivial, fun e_ => absurd (HO.out.1 k_ e_.symm).2 (Nat.not_lt.2 hk_)⟩); (case aO => exact Kd.R_mono (by (with_reducible repeat (first | apply Kd.R_alloc | apply Kd.R_drewN | apply Kd.R_drew)); exact HO.out) (fun _ _ => trivial)); (case aB => exact (by repeat (first | (with_reducible first | exact HB.out | apply below_alloc | apply pw_below_drewN | apply below_drew1) | exact HB.out))); (case aS => exact below_size (by repeat (first | (with_reducible first | exact HB.out | apply below_alloc | apply pw_below_drewN | apply below_drew1) | exact HB.out))); (case aL => have := LM.out; omega); intro v13 w13 ho hb hg hat; have n0_ := Aside0.mk ho; have n1_ := Aside0.mk hb; clear HB HO HU HV ho hb hg hat; have HO := n0_; have HB := n1_; clear n0_ n1_))
      go_ret2
      exact ⟨_, rfl, (by (with_reducible repeat (first | apply Kd.R_alloc | apply Kd.R_drewN | apply Kd.R_drew)); exact HO.out), (by repeat (first | (with_reducible first | exact HB.out | apply below_alloc | apply pw_below_drewN | apply below_drew1) | exact HB.out))⟩
    · rw [if_neg hl] at h
      cases h

/-! ### api_Outpoint: function 64 -/
def api_Outpoint.l0 : Nat → List (S34) → List (S34) → Int → Int → Option (Bool)
  | 0, _, _, _, _ => none
  | k + 1, x0, x1, x12, x13 => if x13 < x12 then (if 0 ≤ x13 then (if x13 < (x0.length : Int) then (if x13 < (x1.length : Int) then (if ((!(((rd_T34 x0 x13).f0.f0) == ((rd_T34 x1 x13).f0.f0)) || (!(((rd_T34 x0 x13).f0.f1) == ((rd_T34 x1 x13).f0.f1)) || (!(((rd_T34 x0 x13).f0.f2) == ((rd_T34 x1 x13).f0.f2)) || (!(((rd_T34 x0 x13).f0.f3) == ((rd_T34 x1 x13).f0.f3)) || (!(((rd_T34 x0 x13).f0.f4) == ((rd_T34 x1 x13).f0.f4)) || (!(((rd_T34 x0 x13).f0.f5) == ((rd_T34 x1 x13).f0.f5)) || (!(((rd_T34 x0 x13).f0.f6) == ((rd_T34 x1 x13).f0.f6)) || (!(((rd_T34 x0 x13).f0.f7) == ((rd_T34 x1 x13).f0.f7)) || (!(((rd_T34 x0 x13).f0.f8) == ((rd_T34 x1 x13).f0.f8)) || (!(((rd_T34 x0 x13).f0.f9) == ((rd_T34 x1 x13).f0.f9)) || (!(((rd_T34 x0 x13).f0.f10) == ((rd_T34 x1 x13).f0.f10)) || (!(((rd_T34 x0 x13).f0.f11) == ((rd_T34 x1 x13).f0.f11)) || (!(((rd_T34 x0 x13).f0.f12) == ((rd_T34 x1 x13).f0.f12)) || (!(((rd_T34 x0 x13).f0.f13) == ((rd_T34 x1 x13).f0.f13)) || (!(((rd_T34 x0 x13).f0.f14) == ((rd_T34 x1 x13).f0.f14)) || (!(((rd_T34 x0 x13).f0.f15) == ((rd_T34 x1 x13).f0.f15)) || (!(((rd_T34 x0 x13).f0.f16) == ((rd_T34 x1 x13).f0.f16)) || (!(((rd_T34 x0 x13).f0.f17) == ((rd_T34 x1 x13).f0.f17)) || (!(((rd_T34 x0 x13).f0.f18) == ((rd_T34 x1 x13).f0.f18)) || (!(((rd_T34 x0 x13).f0.f19) == ((rd_T34 x1 x13).f0.f19)) || (!(((rd_T34 x0 x13).f0.f20) == ((rd_T34 x1 x13).f0.f20)) || (!(((rd_T34 x0 x13).f0.f21) == ((rd_T34 x1 x13).f0.f21)) || (!(((rd_T34 x0 x13).f0.f22) == ((rd_T34 x1 x13).f0.f22)) || (!(((rd_T34 x0 x13).f0.f23) == ((rd_T34 x1 x13).f0.f23)) || (!(((rd_T34 x0 x13).f0.f24) == ((rd_T34 x1 x13).f0.f24)) || (!(((rd_T34 x0 x13).f0.f25) == ((rd_T34 x1 x13).f0.f25)) || (!(((rd_T34 x0 x13).f0.f26) == ((rd_T34 x1 x13).f0.f26)) || (!(((rd_T34 x0 x13).f0.f27) == ((rd_T34 x1 x13).f0.f27)) || (!(((rd_T34 x0 x13).f0.f28) == ((rd_T34 x1 x13).f0.f28)) || (!(((rd_T34 x0 x13).f0.f29) == ((rd_T34 x1 x13).f0.f29)) || (!(((rd_T34 x0 x13).f0.f30) == ((rd_T34 x1 x13).f0.f30)) || (!(((rd_T34 x0 x13).f0.f31) == ((rd_T34 x1 x13).f0.f31)))))))))))))))))))))))))))))))))) || (!(((rd_T34 x0 x13).f1) == ((rd_T34 x1 x13).f1)))) = true then (some false) else (api_Outpoint.l0 k x0 x1 x12 (wrap64 (x13 + 1)))) else (none)) else (none)) else (none)) else (some true)
def api_Outpoint.f (k : Nat) (l0 : List (S34)) (l1 : List (S34)) : Option (Bool) := if (l0.length : Int) = (l1.length : Int) then (api_Outpoint.l0 k l0 l1 (l0.length : Int) 0) else (some false)
theorem api_Outpoint.mono_l : ∀ k, (∀ y0 y1 y2 y3, LeO (api_Outpoint.l0 k y0 y1 y2 y3) (api_Outpoint.l0 (k + 1) y0 y1 y2 y3))
  | 0 => fun _ _ _ _ r h => by simp [api_Outpoint.l0] at h
  | k + 1 => by
    have ih0 := api_Outpoint.mono_l k
    · intro y0 y1 y2 y3
      unfold api_Outpoint.l0
      repeat' first
      | (with_reducible exact ih0 _ _ _ _)
      | (with_reducible exact LeO.refl _)
      | (with_reducible exact LeO.none _)
      | (with_reducible refine LeO.ite ?_ ?_)
      | (with_reducible refine LeO.bind ?_ (fun _ => ?_))
      | exact ih0 _ _ _ _
      | exact LeO.none _
      | refine LeO.ite ?_ ?_
      | refine LeO.bind ?_ (fun _ => ?_)
theorem api_Outpoint.mono : ∀ a0 a1 k, LeO (api_Outpoint.f k a0 a1) (api_Outpoint.f (k + 1) a0 a1) := by
  intro a0 a1 k
  have ih0 := api_Outpoint.mono_l k
  unfold api_Outpoint.f
  repeat' first
      | (with_reducible exact ih0 _ _ _ _)
      | (with_reducible exact LeO.refl _)
      | (with_reducible exact LeO.none _)
      | (with_reducible refine LeO.ite ?_ ?_)
      | (with_reducible refine LeO.bind ?_ (fun _ => ?_))
      | exact ih0 _ _ _ _
      | exact LeO.none _
      | refine LeO.ite ?_ ?_
      | refine LeO.bind ?_ (fun _ => ?_)
set_option maxHeartbeats 8000000 in
set_option maxRecDepth 100000 in
theorem api_Outpoint.calls (k : Nat) (A0 : Option Addr) (c0 : Nat) (l0 : List (S34)) (A1 : Option Addr) (c1 : Nat) (l1 : List (S34)) (r : Bool) (w : World) (hr0 : Kd.C k34 w A0 l0.length l0) (hc0 : l0.length ≤ c0) (hr1 : Kd.C k34 w A1 l1.length l1) (hc1 : l1.length ≤ c1) (h : api_Outpoint.f k l0 l1 = some r) :
  Calls Try.prog 64 #[.slice A0 l0.length c0, .slice A1 l1.length c1] w fun e w' => e = .returned (.bool r) ∧ Drawn0 w w' := by
 have hu34 := Try.underlying34
 have HR0 := Aside0.mk hr0
 have HC0 := Aside0.mk hc0
 clear hr0 hc0
 have HR1 := Aside0.mk hr1
 have HC1 := Aside0.mk hc1
 clear hr1 hc1
 have H : (if (l0.length : Int) = (l1.length : Int) then (api_Outpoint.l0 k l0 l1 (l0.length : Int) 0) else (some false)) = some r := h
 clear h
 by_cases c3 : (l0.length : Int) = (l1.length : Int)
 ·
  rw [if_pos c3] at H
  have c3b0 : ((l0.length : Int) == (l1.length : Int)) = true := beq_iff_eq.mpr c3
  have c3b1 : ((l0.length : Int) != (l1.length : Int)) = false := bne_eq_false_iff_eq.mpr c3
  have c3b2 : (l0.length == l1.length) = true := by first | simpa using c3 | (simp at c3 ⊢; omega)
  clear c3
  have H' := Aside0.mk H
  clear H
  go_enter Try.func64, Try.ntmps64
  go_wp2
  repeat (go_quiet (fail); try go_wp2)
  go_loopg [13] k (fun kq v13 w' => ∃ (x13_1 : Int), v13 = .int .i64 x13_1 ∧ Aside0 (api_Outpoint.l0 kq l0 l1 (l0.length : Int) x13_1 = some r) ∧ Aside0 (kq ≤ k) ∧ Drawn0 w w')
  case atStart => exact ⟨(0), (by first | rfl | (simp; done) | (simp [*]; done)), H', ⟨Nat.le_refl _⟩, by repeat (first | exact Drawn0.refl _ | apply Drawn0.step)⟩
  case round =>
   clear H'
   try clear c1
   try clear p2
   try clear c3
   try clear c3b0
   try clear c3b1
   try clear c3b2
   obtain ⟨x13_1, rfl, HA, HK1, ⟨m1, rfl⟩⟩ := hrel
   cases gk with
   | zero => exact absurd HA.out (by simp [api_Outpoint.l0])
   | succ k1 =>
    have H := HA.out
    clear HA
    simp only [api_Outpoint.l0] at H
    by_cases c4 : x13_1 < (l0.length : Int)
    ·
     rw [if_pos c4] at H
     have c4b0 : decide (x13_1 < (l0.length : Int)) = true := decide_eq_true c4
     clear c4
     by_cases c5 : 0 ≤ x13_1
     ·
      rw [if_pos c5] at H
      have c5b0 : decide (0 ≤ x13_1) = true := decide_eq_true c5
      clear c5
      by_cases c6 : x13_1 < (l0.length : Int)
      ·
       rw [if_pos c6] at H
       have c6b0 : decide (x13_1 < (l0.length : Int)) = true := decide_eq_true c6
       clear c6
       by_cases c7 : x13_1 < (l1.length : Int)
       ·
        rw [if_pos c7] at H
        have c7b0 : decide (x13_1 < (l1.length : Int)) = true := decide_eq_true c7
        clear c7
        by_cases c8 : ((!(((rd_T34 l0 x13_1).f0.f0) == ((rd_T34 l1 x13_1).f0.f0)) || (!(((rd_T34 l0 x13_1).f0.f1) == ((rd_T34 l1 x13_1).f0.f1)) || (!(((rd_T34 l0 x13_1).f0.f2) == ((rd_T34 l1 x13_1).f0.f2)) || (!(((rd_T34 l0 x13_1).f0.f3) == ((rd_T34 l1 x13_1).f0.f3)) || (!(((rd_T34 l0 x13_1).f0.f4) == ((rd_T34 l1 x13_1).f0.f4)) || (!(((rd_T34 l0 x13_1).f0.f5) == ((rd_T34 l1 x13_1).f0.f5)) || (!(((rd_T34 l0 x13_1).f0.f6) == ((rd_T34 l1 x13_1).f0.f6)) || (!(((rd_T34 l0 x13_1).f0.f7) == ((rd_T34 l1 x13_1).f0.f7)) || (!(((rd_T34 l0 x13_1).f0.f8) == ((rd_T34 l1 x13_1).f0.f8)) || (!(((rd_T34 l0 x13_1).f0.f9) == ((rd_T34 l1 x13_1).f0.f9)) || (!(((rd_T34 l0 x13_1).f0.f10) == ((rd_T34 l1 x13_1).f0.f10)) || (!(((rd_T34 l0 x13_1).f0.f11) == ((rd_T34 l1 x13_1).f0.f11)) || (!(((rd_T34 l0 x13_1).f0.f12) == ((rd_T34 l1 x13_1).f0.f12)) || (!(((rd_T34 l0 x13_1).f0.f13) == ((rd_T34 l1 x13_1).f0.f13)) || (!(((rd_T34 l0 x13_1).f0.f14) == ((rd_T34 l1 x13_1).f0.f14)) || (!(((rd_T34 l0 x13_1).f0.f15) == ((rd_T34 l1 x13_1).f0.f15)) || (!(((rd_T34 l0 x13_1).f0.f16) == ((rd_T34 l1 x13_1).f0.f16)) || (!(((rd_T34 l0 x13_1).f0.f17) == ((rd_T34 l1 x13_1).f0.f17)) || (!(((rd_T34 l0 x13_1).f0.f18) == ((rd_T34 l1 x13_1).f0.f18)) || (!(((rd_T34 l0 x13_1).f0.f19) == ((rd_T34 l1 x13_1).f0.f19)) || (!(((rd_T34 l0 x13_1).f0.f20) == ((rd_T34 l1 x13_1).f0.f20)) || (!(((rd_T34 l0 x13_1).f0.f21) == ((rd_T34 l1 x13_1).f0.f21)) || (!(((rd_T34 l0 x13_1).f0.f22) == ((rd_T34 l1 x13_1).f0.f22)) || (!(((rd_T34 l0 x13_1).f0.f23) == ((rd_T34 l1 x13_1).f0.f23)) || (!(((rd_T34 l0 x13_1).f0.f24) == ((rd_T34 l1 x13_1).f0.f24)) || (!(((rd_T34 l0 x13_1).f0.f25) == ((rd_T34 l1 x13_1).f0.f25)) || (!(((rd_T34 l0 x13_1).f0.f26) == ((rd_T34 l1 x13_1).f0.f26)) || (!(((rd_T34 l0 x13_1).f0.f27) == ((rd_T34 l1 x13_1).f0.f27)) || (!(((rd_T34 l0 x13_1).f0.f28) == ((rd_T34 l1 x13_1).f0.f28)) || (!(((rd_T34 l0 x13_1).f0.f29) == ((rd_T34 l1 x13_1).f0.f29)) || (!(((rd_T34 l0 x13_1).f0.f30) == ((rd_T34 l1 x13_1).f0.f30)) || (!(((rd_T34 l0 x13_1).f0.f31) == ((rd_T34 l1 x13_1).f0.f31)))))))))))))))))))))))))))))))))) || (!(((rd_T34 l0 x13_1).f1) == ((rd_T34 l1 x13_1).f1)))) = true
        ·
         rw [if_pos c8] at H
         have c8b0 : ((!(((rd_T34 l0 x13_1).f0.f0) == ((rd_T34 l1 x13_1).f0.f0)) || (!(((rd_T34 l0 x13_1).f0.f1) == ((rd_T34 l1 x13_1).f0.f1)) || (!(((rd_T34 l0 x13_1).f0.f2) == ((rd_T34 l1 x13_1).f0.f2)) || (!(((rd_T34 l0 x13_1).f0.f3) == ((rd_T34 l1 x13_1).f0.f3)) || (!(((rd_T34 l0 x13_1).f0.f4) == ((rd_T34 l1 x13_1).f0.f4)) || (!(((rd_T34 l0 x13_1).f0.f5) == ((rd_T34 l1 x13_1).f0.f5)) || (!(((rd_T34 l0 x13_1).f0.f6) == ((rd_T34 l1 x13_1).f0.f6)) || (!(((rd_T34 l0 x13_1).f0.f7) == ((rd_T34 l1 x13_1).f0.f7)) || (!(((rd_T34 l0 x13_1).f0.f8) == ((rd_T34 l1 x13_1).f0.f8)) || (!(((rd_T34 l0 x13_1).f0.f9) == ((rd_T34 l1 x13_1).f0.f9)) || (!(((rd_T34 l0 x13_1).f0.f10) == ((rd_T34 l1 x13_1).f0.f10)) || (!(((rd_T34 l0 x13_1).f0.f11) == ((rd_T34 l1 x13_1).f0.f11)) || (!(((rd_T34 l0 x13_1).f0.f12) == ((rd_T34 l1 x13_1).f0.f12)) || (!(((rd_T34 l0 x13_1).f0.f13) == ((rd_T34 l1 x13_1).f0.f13)) || (!(((rd_T34 l0 x13_1).f0.f14) == ((rd_T34 l1 x13_1).f0.f14)) || (!(((rd_T34 l0 x13_1).f0.f15) == ((rd_T34 l1 x13_1).f0.f15)) || (!(((rd_T34 l0 x13_1).f0.f16) == ((rd_T34 l1 x13_1).f0.f16)) || (!(((rd_T34 l0 x13_1).f0.f17) == ((rd_T34 l1 x13_1).f0.f17)) || (!(((rd_T34 l0 x13_1).f0.f18) == ((rd_T34 l1 x13_1).f0.f18)) || (!(((rd_T34 l0 x13_1).f0.f19) == ((rd_T34 l1 x13_1).f0.f19)) || (!(((rd_T34 l0 x13_1).f0.f20) == ((rd_T34 l1 x13_1).f0.f20)) || (!(((rd_T34 l0 x13_1).f0.f21) == ((rd_T34 l1 x13_1).f0.f21)) || (!(((rd_T34 l0 x13_1).f0.f22) == ((rd_T34 l1 x13_1).f0.f22)) || (!(((rd_T34 l0 x13_1).f0.f23) == ((rd_T34 l1 x13_1).f0.f23)) || (!(((rd_T34 l0 x13_1).f0.f24) == ((rd_T34 l1 x13_1).f0.f24)) || (!(((rd_T34 l0 x13_1).f0.f25) == ((rd_T34 l1 x13_1).f0.f25)) || (!(((rd_T34 l0 x13_1).f0.f26) == ((rd_T34 l1 x13_1).f0.f26)) || (!(((rd_T34 l0 x13_1).f0.f27) == ((rd_T34 l1 x13_1).f0.f27)) || (!(((rd_T34 l0 x13_1).f0.f28) == ((rd_T34 l1 x13_1).f0.f28)) || (!(((rd_T34 l0 x13_1).f0.f29) == ((rd_T34 l1 x13_1).f0.f29)) || (!(((rd_T34 l0 x13_1).f0.f30) == ((rd_T34 l1 x13_1).f0.f30)) || (!(((rd_T34 l0 x13_1).f0.f31) == ((rd_T34 l1 x13_1).f0.f31)))))))))))))))))))))))))))))))))) || (!(((rd_T34 l0 x13_1).f1) == ((rd_T34 l1 x13_1).f1)))) = true := c8
         clear c8
         obtain rfl := Option.some.inj H
         have p190 : 0 ≤ (x13_1 : Int) := of_decide_eq_true (by first | (with_reducible assumption) | assumption)
         have q190 : x13_1 < (l0.length : Int) := of_decide_eq_true (by first | (with_reducible assumption) | assumption)
         obtain ⟨ad190, e190, hx190_0, hx190_1, hx190_2, hx190_3, hx190_4, hx190_5, hx190_6, hx190_7, hx190_8, hx190_9, hx190_10, hx190_11, hx190_12, hx190_13, hx190_14, hx190_15, hx190_16, hx190_17, hx190_18, hx190_19, hx190_20, hx190_21, hx190_22, hx190_23, hx190_24, hx190_25, hx190_26, hx190_27, hx190_28, hx190_29, hx190_30, hx190_31, hx190_32⟩ := at_T34 HR0.out x13_1 p190 q190
         cases e190
         replace p190 := eq_true p190
         replace q190 := eq_true q190
         have hw190_0_32 := Go.Proofs.Ytiodebjjbgcbhaa.Wide.mk32 hx190_0 hx190_1 hx190_2 hx190_3 hx190_4 hx190_5 hx190_6 hx190_7 hx190_8 hx190_9 hx190_10 hx190_11 hx190_12 hx190_13 hx190_14 hx190_15 hx190_16 hx190_17 hx190_18 hx190_19 hx190_20 hx190_21 hx190_22 hx190_23 hx190_24 hx190_25 hx190_26 hx190_27 hx190_28 hx190_29 hx190_30 hx190_31
         have hw190_0_33 := Go.Proofs.Ytiodebjjbgcbhaa.Wide.mk33 hx190_0 hx190_1 hx190_2 hx190_3 hx190_4 hx190_5 hx190_6 hx190_7 hx190_8 hx190_9 hx190_10 hx190_11 hx190_12 hx190_13 hx190_14 hx190_15 hx190_16 hx190_17 hx190_18 hx190_19 hx190_20 hx190_21 hx190_22 hx190_23 hx190_24 hx190_25 hx190_26 hx190_27 hx190_28 hx190_29 hx190_30 hx190_31 hx190_32
         have p191 : 0 ≤ (x13_1 : Int) := of_decide_eq_true (by first | (with_reducible assumption) | assumption)
         have q191 : x13_1 < (l1.length : Int) := of_decide_eq_true (by first | (with_reducible assumption) | assumption)
         obtain ⟨ad191, e191, hx191_0, hx191_1, hx191_2, hx191_3, hx191_4, hx191_5, hx191_6, hx191_7, hx191_8, hx191_9, hx191_10, hx191_11, hx191_12, hx191_13, hx191_14, hx191_15, hx191_16, hx191_17, hx191_18, hx191_19, hx191_20, hx191_21, hx191_22, hx191_23, hx191_24, hx191_25, hx191_26, hx191_27, hx191_28, hx191_29, hx191_30, hx191_31, hx191_32⟩ := at_T34 HR1.out x13_1 p191 q191
         cases e191
         replace p191 := eq_true p191
         replace q191 := eq_true q191
         have hw191_0_32 := Go.Proofs.Ytiodebjjbgcbhaa.Wide.mk32 hx191_0 hx191_1 hx191_2 hx191_3 hx191_4 hx191_5 hx191_6 hx191_7 hx191_8 hx191_9 hx191_10 hx191_11 hx191_12 hx191_13 hx191_14 hx191_15 hx191_16 hx191_17 hx191_18 hx191_19 hx191_20 hx191_21 hx191_22 hx191_23 hx191_24 hx191_25 hx191_26 hx191_27 hx191_28 hx191_29 hx191_30 hx191_31
         have hw191_0_33 := Go.Proofs.Ytiodebjjbgcbhaa.Wide.mk33 hx191_0 hx191_1 hx191_2 hx191_3 hx191_4 hx191_5 hx191_6 hx191_7 hx191_8 hx191_9 hx191_10 hx191_11 hx191_12 hx191_13 hx191_14 hx191_15 hx191_16 hx191_17 hx191_18 hx191_19 hx191_20 hx191_21 hx191_22 hx191_23 hx191_24 hx191_25 hx191_26 hx191_27 hx191_28 hx191_29 hx191_30 hx191_31 hx191_32
         go_wp2
         repeat (go_quiet (fail); try go_wp2)
         go_ret
         exact ⟨by first | rfl | (simp; done) | (simp [*]; done), by repeat (first | exact Drawn0.refl _ | apply Drawn0.step)⟩
        ·
         rw [if_neg c8] at H
         have c8b0 : ((!(((rd_T34 l0 x13_1).f0.f0) == ((rd_T34 l1 x13_1).f0.f0)) || (!(((rd_T34 l0 x13_1).f0.f1) == ((rd_T34 l1 x13_1).f0.f1)) || (!(((rd_T34 l0 x13_1).f0.f2) == ((rd_T34 l1 x13_1).f0.f2)) || (!(((rd_T34 l0 x13_1).f0.f3) == ((rd_T34 l1 x13_1).f0.f3)) || (!(((rd_T34 l0 x13_1).f0.f4) == ((rd_T34 l1 x13_1).f0.f4)) || (!(((rd_T34 l0 x13_1).f0.f5) == ((rd_T34 l1 x13_1).f0.f5)) || (!(((rd_T34 l0 x13_1).f0.f6) == ((rd_T34 l1 x13_1).f0.f6)) || (!(((rd_T34 l0 x13_1).f0.f7) == ((rd_T34 l1 x13_1).f0.f7)) || (!(((rd_T34 l0 x13_1).f0.f8) == ((rd_T34 l1 x13_1).f0.f8)) || (!(((rd_T34 l0 x13_1).f0.f9) == ((rd_T34 l1 x13_1).f0.f9)) || (!(((rd_T34 l0 x13_1).f0.f10) == ((rd_T34 l1 x13_1).f0.f10)) || (!(((rd_T34 l0 x13_1).f0.f11) == ((rd_T34 l1 x13_1).f0.f11)) || (!(((rd_T34 l0 x13_1).f0.f12) == ((rd_T34 l1 x13_1).f0.f12)) || (!(((rd_T34 l0 x13_1).f0.f13) == ((rd_T34 l1 x13_1).f0.f13)) || (!(((rd_T34 l0 x13_1).f0.f14) == ((rd_T34 l1 x13_1).f0.f14)) || (!(((rd_T34 l0 x13_1).f0.f15) == ((rd_T34 l1 x13_1).f0.f15)) || (!(((rd_T34 l0 x13_1).f0.f16) == ((rd_T34 l1 x13_1).f0.f16)) || (!(((rd_T34 l0 x13_1).f0.f17) == ((rd_T34 l1 x13_1).f0.f17)) || (!(((rd_T34 l0 x13_1).f0.f18) == ((rd_T34 l1 x13_1).f0.f18)) || (!(((rd_T34 l0 x13_1).f0.f19) == ((rd_T34 l1 x13_1).f0.f19)) || (!(((rd_T34 l0 x13_1).f0.f20) == ((rd_T34 l1 x13_1).f0.f20)) || (!(((rd_T34 l0 x13_1).f0.f21) == ((rd_T34 l1 x13_1).f0.f21)) || (!(((rd_T34 l0 x13_1).f0.f22) == ((rd_T34 l1 x13_1).f0.f22)) || (!(((rd_T34 l0 x13_1).f0.f23) == ((rd_T34 l1 x13_1).f0.f23)) || (!(((rd_T34 l0 x13_1).f0.f24) == ((rd_T34 l1 x13_1).f0.f24)) || (!(((rd_T34 l0 x13_1).f0.f25) == ((rd_T34 l1 x13_1).f0.f25)) || (!(((rd_T34 l0 x13_1).f0.f26) == ((rd_T34 l1 x13_1).f0.f26)) || (!(((rd_T34 l0 x13_1).f0.f27) == ((rd_T34 l1 x13_1).f0.f27)) || (!(((rd_T34 l0 x13_1).f0.f28) == ((rd_T34 l1 x13_1).f0.f28)) || (!(((rd_T34 l0 x13_1).f0.f29) == ((rd_T34 l1 x13_1).f0.f29)) || (!(((rd_T34 l0 x13_1).f0.f30) == ((rd_T34 l1 x13_1).f0.f30)) || (!(((rd_T34 l0 x13_1).f0.f31) == ((rd_T34 l1 x13_1).f0.f31)))))))))))))))))))))))))))))))))) || (!(((rd_T34 l0 x13_1).f1) == ((rd_T34 l1 x13_1).f1)))) = false := by simpa using c8
         clear c8
         have H' := Aside0.mk H
         clear H
         have p190 : 0 ≤ (x13_1 : Int) := of_decide_eq_true (by first | (with_reducible assumption) | assumption)
         have q190 : x13_1 < (l0.length : Int) := of_decide_eq_true (by first | (with_reducible assumption) | assumption)
         obtain ⟨ad190, e190, hx190_0, hx190_1, hx190_2, hx190_3, hx190_4, hx190_5, hx190_6, hx190_7, hx190_8, hx190_9, hx190_10, hx190_11, hx190_12, hx190_13, hx190_14, hx190_15, hx190_16, hx190_17, hx190_18, hx190_19, hx190_20, hx190_21, hx190_22, hx190_23, hx190_24, hx190_25, hx190_26, hx190_27, hx190_28, hx190_29, hx190_30, hx190_31, hx190_32⟩ := at_T34 HR0.out x13_1 p190 q190
         cases e190
         replace p190 := eq_true p190
         replace q190 := eq_true q190
         have hw190_0_32 := Go.Proofs.Ytiodebjjbgcbhaa.Wide.mk32 hx190_0 hx190_1 hx190_2 hx190_3 hx190_4 hx190_5 hx190_6 hx190_7 hx190_8 hx190_9 hx190_10 hx190_11 hx190_12 hx190_13 hx190_14 hx190_15 hx190_16 hx190_17 hx190_18 hx190_19 hx190_20 hx190_21 hx190_22 hx190_23 hx190_24 hx190_25 hx190_26 hx190_27 hx190_28 hx190_29 hx190_30 hx190_31
         have hw190_0_33 := Go.Proofs.Ytiodebjjbgcbhaa.Wide.mk33 hx190_0 hx190_1 hx190_2 hx190_3 hx190_4 hx190_5 hx190_6 hx190_7 hx190_8 hx190_9 hx190_10 hx190_11 hx190_12 hx190_13 hx190_14 hx190_15 hx190_16 hx190_17 hx190_18 hx190_19 hx190_20 hx190_21 hx190_22 hx190_23 hx190_24 hx190_25 hx190_26 hx190_27 hx190_28 hx190_29 hx190_30 hx190_31 hx190_32
         have p191 : 0 ≤ (x13_1 : Int) := of_decide_eq_true (by first | (with_reducible assumption) | assumption)
         have q191 : x13_1 < (l1.length : Int) := of_decide_eq_true (by first | (with_reducible assumption) | assumption)
         obtain ⟨ad191, e191, hx191_0, hx191_1, hx191_2, hx191_3, hx191_4, hx191_5, hx191_6, hx191_7, hx191_8, hx191_9, hx191_10, hx191_11, hx191_12, hx191_13, hx191_14, hx191_15, hx191_16, hx191_17, hx191_18, hx191_19, hx191_20, hx191_21, hx191_22, hx191_23, hx191_24, hx191_25, hx191_26, hx191_27, hx191_28, hx191_29, hx191_30, hx191_31, hx191_32⟩ := at_T34 HR1.out x13_1 p191 q191
         cases e191
         replace p191 := eq_true p191
         replace q191 := eq_true q191
         have hw191_0_32 := Go.Proofs.Ytiodebjjbgcbhaa.Wide.mk32 hx191_0 hx191_1 hx191_2 hx191_3 hx191_4 hx191_5 hx191_6 hx191_7 hx191_8 hx191_9 hx191_10 hx191_11 hx191_12 hx191_13 hx191_14 hx191_15 hx191_16 hx191_17 hx191_18 hx191_19 hx191_20 hx191_21 hx191_22 hx191_23 hx191_24 hx191_25 hx191_26 hx191_27 hx191_28 hx191_29 hx191_30 hx191_31
         have hw191_0_33 := Go.Proofs.Ytiodebjjbgcbhaa.Wide.mk33 hx191_0 hx191_1 hx191_2 hx191_3 hx191_4 hx191_5 hx191_6 hx191_7 hx191_8 hx191_9 hx191_10 hx191_11 hx191_12 hx191_13 hx191_14 hx191_15 hx191_16 hx191_17 hx191_18 hx191_19 hx191_20 hx191_21 hx191_22 hx191_23 hx191_24 hx191_25 hx191_26 hx191_27 hx191_28 hx191_29 hx191_30 hx191_31 hx191_32
         go_wp2
         repeat (go_quiet (fail); try go_wp2)
         go_roundg k1
         case measure => have := HK1.out; omega
         case rel => exact ⟨(wrap64 (x13_1 + 1)), (by first | rfl | (simp; done) | (simp [*]; done)), H', ⟨by have := HK1.out; omega⟩, by repeat (first | exact Drawn0.refl _ | apply Drawn0.step)⟩
       ·
        rw [if_neg c7] at H
        exact absurd H (by simp)
      ·
       rw [if_neg c6] at H
       exact absurd H (by simp)
     ·
      rw [if_neg c5] at H
      exact absurd H (by simp)
    ·
     rw [if_neg c4] at H
     have c4b0 : decide (x13_1 < (l0.length : Int)) = false := decide_eq_false c4
     clear c4
     obtain rfl := Option.some.inj H
     go_wp2
     repeat (go_quiet (fail); try go_wp2)
     go_ret
     exact ⟨by first | rfl | (simp; done) | (simp [*]; done), by repeat (first | exact Drawn0.refl _ | apply Drawn0.step)⟩
 ·
  rw [if_neg c3] at H
  have c3b0 : ((l0.length : Int) == (l1.length : Int)) = false := beq_eq_false_iff_ne.mpr c3
  have c3b1 : ((l0.length : Int) != (l1.length : Int)) = true := bne_iff_ne.mpr c3
  have c3b2 : (l0.length == l1.length) = false := by first | simpa using c3 | (simp at c3 ⊢; omega)
  obtain rfl := Option.some.inj H
  go_enter Try.func64, Try.ntmps64
  go_wp2
  repeat (go_quiet (fail); try go_wp2)
  go_ret
  exact ⟨by first | rfl | (simp; done) | (simp [*]; done), by repeat (first | exact Drawn0.refl _ | apply Drawn0.step)⟩

/-! ### point_Alike: function 36 -/
/-- An outpoint's cells; its hash's bytes. -/
def encO (x : S34) : List Value := [.int .u8 x.f0.f0, .int .u8 x.f0.f1, .int .u8 x.f0.f2, .int .u8 x.f0.f3, .int .u8 x.f0.f4, .int .u8 x.f0.f5, .int .u8 x.f0.f6, .int .u8 x.f0.f7, .int .u8 x.f0.f8, .int .u8 x.f0.f9, .int .u8 x.f0.f10, .int .u8 x.f0.f11, .int .u8 x.f0.f12, .int .u8 x.f0.f13, .int .u8 x.f0.f14, .int .u8 x.f0.f15, .int .u8 x.f0.f16, .int .u8 x.f0.f17, .int .u8 x.f0.f18, .int .u8 x.f0.f19, .int .u8 x.f0.f20, .int .u8 x.f0.f21, .int .u8 x.f0.f22, .int .u8 x.f0.f23, .int .u8 x.f0.f24, .int .u8 x.f0.f25, .int .u8 x.f0.f26, .int .u8 x.f0.f27, .int .u8 x.f0.f28, .int .u8 x.f0.f29, .int .u8 x.f0.f30, .int .u8 x.f0.f31, .int .i64 x.f1]
def bsO (x : S34) : List Int := [x.f0.f0, x.f0.f1, x.f0.f2, x.f0.f3, x.f0.f4, x.f0.f5, x.f0.f6, x.f0.f7, x.f0.f8, x.f0.f9, x.f0.f10, x.f0.f11, x.f0.f12, x.f0.f13, x.f0.f14, x.f0.f15, x.f0.f16, x.f0.f17, x.f0.f18, x.f0.f19, x.f0.f20, x.f0.f21, x.f0.f22, x.f0.f23, x.f0.f24, x.f0.f25, x.f0.f26, x.f0.f27, x.f0.f28, x.f0.f29, x.f0.f30, x.f0.f31]
theorem encO_eq (x : S34) : encO x = (bsO x).map (Value.int .u8) ++ [.int .i64 x.f1] := rfl
theorem bsO_inj (x y : S34) (h : bsO x = bsO y) (h1 : x.f1 = y.f1) : x = y := by
  cases x with | mk a b => cases y with | mk c d => cases a with | mk a0 a1 a2 a3 a4 a5 a6 a7 a8 a9 a10 a11 a12 a13 a14 a15 a16 a17 a18 a19 a20 a21 a22 a23 a24 a25 a26 a27 a28 a29 a30 a31 => cases c with | mk c0 c1 c2 c3 c4 c5 c6 c7 c8 c9 c10 c11 c12 c13 c14 c15 c16 c17 c18 c19 c20 c21 c22 c23 c24 c25 c26 c27 c28 c29 c30 c31 =>
    simp only [bsO, List.cons.injEq, and_true] at h
    obtain ⟨e0, e1, e2, e3, e4, e5, e6, e7, e8, e9, e10, e11, e12, e13, e14, e15, e16, e17, e18, e19, e20, e21, e22, e23, e24, e25, e26, e27, e28, e29, e30, e31⟩ := h
    simp only at h1
    subst e0 e1 e2 e3 e4 e5 e6 e7 e8 e9 e10 e11 e12 e13 e14 e15 e16 e17 e18 e19 e20 e21 e22 e23 e24 e25 e26 e27 e28 e29 e30 e31 h1
    rfl
/-- Outpoints in order. -/
def sortO (l : List S34) : List S34 := Go.Proofs.Ytiodebjjbgcbhaa.SortO.osort bsO (fun x => x.f1) l
theorem sortO_len (l : List S34) : (sortO l).length = l.length := (List.mergeSort_perm _ _).length_eq
theorem liesO {w : World} {A : Option Addr} {l : List S34} (h : Kd.C k34 w A l.length l) : Go.Proofs.Ytiodebjjbgcbhaa.IterO.Lies encO w.heap.size w A l := by
  have hR : ReadsRow (fun x c => c = encO x) 33 w A l.length l := ReadsRow.imp_ h (Below.refl _ w) (fun _ _ hp => k34_open hp)
  cases hl : l with
  | nil => exact .inl rfl
  | cons p ps =>
    subst hl
    obtain ⟨ad, rfl, hc⟩ := hR.2.2 (by simp)
    obtain ⟨c, _, rfl, h0⟩ := hc 0 p rfl
    have h00 := h0 0 _ rfl
    rw [Nat.zero_mul, Nat.zero_add] at h00
    have hs : ad.spot = none := by
      have e : ad.add 0 = ad := by unfold Addr.add; rw [if_pos rfl]
      rw [e] at h00
      simp only [World.cell?] at h00
      split at h00
      · split at h00
        · cases h00
        · rename_i hns; simpa using hns
      · cases h00
    obtain ⟨b, off, sp⟩ := ad
    simp only at hs
    subst hs
    refine .inr ⟨b, off, rfl, World.block_lt_of_cell? w _ h00, fun j hj i v hi => ?_⟩
    obtain ⟨c, _, rfl, h1⟩ := hc j _ (List.getElem?_eq_getElem hj)
    have := h1 i v hi
    rwa [Addr.add_lit, ← Nat.add_assoc] at this
theorem ownsO {w : World} {base : Nat} {v : Value} {l : List S34} (h : w.ownsRow base 34 33 v l.length (l.flatMap encO)) (hm : l.length ≤ 9223372036854775807) :
    ∃ A c, v = .slice A l.length c ∧ l.length ≤ c ∧ Kd.C k34 w A l.length l := by
  haveI : Inhabited S34 := ⟨z34⟩
  rcases h.2 with ⟨rfl, h0⟩ | ⟨g, cap, cur, rfl, _, hg, r1, r2, r3, r4⟩
  · refine ⟨none, 0, by rw [h0], by omega, ?_⟩
    exact ⟨rfl, hm, fun hp => absurd hp (by omega)⟩
  · refine ⟨some ⟨g, 0, none⟩, cap, rfl, r1, ?_⟩
    refine ⟨rfl, hm, fun _ => ⟨⟨g, 0, none⟩, rfl, fun j p hp => ⟨encO p, rfl, k34_mk w p, fun i u hu => ?_⟩⟩⟩
    have hj : j < l.length := (List.getElem?_eq_some_iff.1 hp).1
    have hi : i < 33 := (List.getElem?_eq_some_iff.1 hu).1
    have ht : j * 33 + i < l.length * 33 := by omega
    have e := Go.Proofs.Ytiodebjjbgcbhaa.SortO.flat_at (enc := encO) 33 (by omega) (fun _ => rfl) l (j * 33 + i) ht
    rw [show (j * 33 + i) / 33 = j by omega, show (j * 33 + i) % 33 = i by omega, getElem!_pos l j hj, (List.getElem?_eq_some_iff.1 hp).2] at e
    rw [← r4, List.getElem?_take_of_lt ht] at e
    show w.cell? ((⟨g, 0, none⟩ : Addr).add (j * 33 + i)) = some u
    rw [Addr.add_lit, Nat.zero_add]
    have e2 : (encO p)[i]! = u := by rw [getElem!_pos (encO p) i (by exact hi)]; exact (List.getElem?_eq_some_iff.1 hu).2
    rw [e2] at e
    simp only [World.cell?, hg]
    simpa using e
def point_Alike.f (k : Nat) (l0 : List S34) (l1 : List S34) : Option Bool :=
  if l0.length * 40 ≤ 140737488355328 then (if l1.length * 40 ≤ 140737488355328 then api_Outpoint.f k (sortO l0) (sortO l1) else none) else none
theorem point_Alike.mono : ∀ a0 a1 k, LeO (point_Alike.f k a0 a1) (point_Alike.f (k + 1) a0 a1) := by
  intro a0 a1 k
  unfold point_Alike.f
  exact LeO.ite (LeO.ite (api_Outpoint.mono _ _ _) (LeO.refl _)) (LeO.refl _)
set_option maxHeartbeats 4000000 in
theorem point_Alike.calls (k : Nat) (A0 : Option Addr) (c0 : Nat) (l0 : List S34) (A1 : Option Addr) (c1 : Nat) (l1 : List S34) (r : Bool) (w : World) (hr0 : Kd.C k34 w A0 l0.length l0) (hc0 : l0.length ≤ c0) (hr1 : Kd.C k34 w A1 l1.length l1) (hc1 : l1.length ≤ c1) (h : point_Alike.f k l0 l1 = some r) :
    Calls Try.prog 36 #[.slice A0 l0.length c0, .slice A1 l1.length c1] w fun e w' => e = .returned (.bool r) ∧ Below w.heap.size w w' := by
  unfold point_Alike.f at h
  by_cases b0 : l0.length * 40 ≤ 140737488355328
  case neg => rw [if_neg b0] at h; cases h
  by_cases b1 : l1.length * 40 ≤ 140737488355328
  case neg => rw [if_pos b0, if_neg b1] at h; cases h
  rw [if_pos b0, if_pos b1] at h
  have H := Aside0.mk h
  have HR0 := Aside0.mk hr0
  have HR1 := Aside0.mk hr1
  have L0 := Aside0.mk (sortO_len l0)
  have L1 := Aside0.mk (sortO_len l1)
  have HV := Aside0.mk (fun (a : Option Addr) (len cap : Nat) (w : World) => callsIn_wide.1 (Go.Proofs.Ytiodebjjbgcbhaa.IterO.values Fence.wide 5 trivial rfl a len cap w))
  have HS : Aside0 (∀ (A : Option Addr) (c : Nat) (l : List S34) (W w1 : World) (Bs : Nat), l.length * 40 ≤ 140737488355328 → Kd.C k34 W A l.length l → Bs = W.heap.size → w1 = W.alloc (.cells #[.slice A l.length c] 86) →
      Calls Try.prog 65 #[.func (.func 86) #[] #[.pointer (some ⟨Bs, 0, none⟩)], .func (.func 67) #[] #[]] w1 fun e w' => ∃ v, e = .returned v ∧ w'.ownsRow W.heap.size 34 33 v (sortO l).length ((sortO l).flatMap encO) ∧ Below W.heap.size W w' ∧ Below w1.heap.size w1 w') := ⟨by
    intro A c l W w1 Bs hb hC hBs hw1
    subst hBs hw1
    have hB : Below W.heap.size W (W.alloc (.cells #[.slice A l.length c] 86)) := (Below.refl _ W).alloc (Nat.le_refl _) _
    haveI : Inhabited S34 := ⟨z34⟩
    refine (Go.Proofs.Ytiodebjjbgcbhaa.SortO.sortedFunc (enc := encO) bsO (fun x => x.f1) encO_eq (fun _ => rfl) bsO_inj W.heap.size A c l hb (W.alloc (.cells #[.slice A l.length c] 86)) (by simp) (by simp) (liesO (Kd.C_below hC hB))).mono ?_
    rintro e w' ⟨v, rfl, ho, hb'⟩
    refine ⟨v, rfl, ?_, hB.trans (hb'.mono (by simp)), hb'⟩
    rw [sortO_len]
    exact ⟨ho.1, ho.2.imp id (fun ⟨g, cap, cur, e1, e2, e3⟩ => ⟨g, cap, cur, e1, by simp at e2; omega, e3⟩)⟩⟩
  clear h hr0 hr1
  go_enter Try.func36, Try.ntmps36
  have m0 : (sortO l0).length ≤ 9223372036854775807 := by have := L0.out; omega
  have m1 : (sortO l1).length ≤ 9223372036854775807 := by have := L1.out; omega
  go_wp2_with (go_at_call 66; refine (HV.out _ _ _ w).mono ?_; rintro e w1 ⟨rfl, hw1⟩; have W1 := Aside0.mk hw1; clear hw1)
  go_wp2_with (go_at_call 65; refine (HS.out A0 c0 l0 w w1 w.heap.size b0 HR0.out rfl W1.out).mono ?_; rintro e w2 ⟨v1, rfl, ho1, hb1, hbx⟩; obtain ⟨A2, c2, rfl, hc2, hK2⟩ := ownsO ho1 m0; have O1 := Aside0.mk hK2; have C1 := Aside0.mk hc2; have B1 := Aside0.mk hb1; clear hK2 hc2 hb1 ho1 hbx)
  go_wp2_with (go_at_call 66; refine (HV.out _ _ _ w2).mono ?_; rintro e w3 ⟨rfl, hw3⟩; have W3 := Aside0.mk hw3; clear hw3)
  go_wp2_with (go_at_call 65; refine (HS.out A1 c1 l1 w2 w3 w2.heap.size b1 (Kd.C_below HR1.out B1.out) rfl W3.out).mono ?_; rintro e w4 ⟨v2, rfl, ho2, hb2, hbx⟩; obtain ⟨A4, c4, rfl, hc4, hK4⟩ := ownsO ho2 m1; have O2 := Aside0.mk hK4; have C2 := Aside0.mk hc4; have B2 := Aside0.mk hb2; clear hK4 hc4 hb2 ho2 hbx)
  go_wp2_with (go_at_call 64; refine (api_Outpoint.calls k A2 c2 (sortO l0) A4 c4 (sortO l1) r w4 (Kd.C_below O1.out B2.out) C1.out O2.out C2.out H.out).mono ?_; rintro e w5 ⟨rfl, hd⟩; have D5 := Aside0.mk hd; clear hd)
  go_ret
  refine ⟨rfl, ?_⟩
  obtain ⟨n, rfl⟩ := D5.out.out
  exact pw_below_drewN (B1.out.trans (B2.out.mono B1.out.size)) _

/-! ### replace_prevs: function 37 -/
def replace_prevs.l0 : Nat → List (S34) → List (S38) → Int → Int → Option ((List (S34)))
  | 0, _, _, _, _ => none
  | k + 1, x2, x7, x8, x9 => if x9 < x8 then (if 0 ≤ x9 then (if x9 < (x7.length : Int) then (if x2.length < 3518437208883 then (replace_prevs.l0 k (x2 ++ [(⟨(⟨(rd_T38 x7 x9).f0.f0.f0, (rd_T38 x7 x9).f0.f0.f1, (rd_T38 x7 x9).f0.f0.f2, (rd_T38 x7 x9).f0.f0.f3, (rd_T38 x7 x9).f0.f0.f4, (rd_T38 x7 x9).f0.f0.f5, (rd_T38 x7 x9).f0.f0.f6, (rd_T38 x7 x9).f0.f0.f7, (rd_T38 x7 x9).f0.f0.f8, (rd_T38 x7 x9).f0.f0.f9, (rd_T38 x7 x9).f0.f0.f10, (rd_T38 x7 x9).f0.f0.f11, (rd_T38 x7 x9).f0.f0.f12, (rd_T38 x7 x9).f0.f0.f13, (rd_T38 x7 x9).f0.f0.f14, (rd_T38 x7 x9).f0.f0.f15, (rd_T38 x7 x9).f0.f0.f16, (rd_T38 x7 x9).f0.f0.f17, (rd_T38 x7 x9).f0.f0.f18, (rd_T38 x7 x9).f0.f0.f19, (rd_T38 x7 x9).f0.f0.f20, (rd_T38 x7 x9).f0.f0.f21, (rd_T38 x7 x9).f0.f0.f22, (rd_T38 x7 x9).f0.f0.f23, (rd_T38 x7 x9).f0.f0.f24, (rd_T38 x7 x9).f0.f0.f25, (rd_T38 x7 x9).f0.f0.f26, (rd_T38 x7 x9).f0.f0.f27, (rd_T38 x7 x9).f0.f0.f28, (rd_T38 x7 x9).f0.f0.f29, (rd_T38 x7 x9).f0.f0.f30, (rd_T38 x7 x9).f0.f0.f31⟩ : S32), (rd_T38 x7 x9).f0.f1⟩ : S34)]) x7 x8 (wrap64 (x9 + 1))) else (none)) else (none)) else (none)) else (some x2)
def replace_prevs.f (k : Nat) (l0_0 : List (S38)) (l0_1 : List (S64)) (a0_2 : Int) (a0_3 : Int) (a0_4 : Int) : Option ((List (S34))) := replace_prevs.l0 k ([] : List (S34)) l0_0 (l0_0.length : Int) 0
theorem replace_prevs.mono_l : ∀ k, (∀ y0 y1 y2 y3, LeO (replace_prevs.l0 k y0 y1 y2 y3) (replace_prevs.l0 (k + 1) y0 y1 y2 y3))
  | 0 => fun _ _ _ _ r h => by simp [replace_prevs.l0] at h
  | k + 1 => by
    have ih0 := replace_prevs.mono_l k
    · intro y0 y1 y2 y3
      unfold replace_prevs.l0
      repeat' first
      | (with_reducible exact ih0 _ _ _ _)
      | (with_reducible exact LeO.refl _)
      | (with_reducible exact LeO.none _)
      | (with_reducible refine LeO.ite ?_ ?_)
      | (with_reducible refine LeO.bind ?_ (fun _ => ?_))
      | exact ih0 _ _ _ _
      | exact LeO.none _
      | refine LeO.ite ?_ ?_
      | refine LeO.bind ?_ (fun _ => ?_)
theorem replace_prevs.mono : ∀ a0 a1 a2 a3 a4 k, LeO (replace_prevs.f k a0 a1 a2 a3 a4) (replace_prevs.f (k + 1) a0 a1 a2 a3 a4) := by
  intro a0 a1 a2 a3 a4 k
  have ih0 := replace_prevs.mono_l k
  unfold replace_prevs.f
  repeat' first
      | (with_reducible exact ih0 _ _ _ _)
      | (with_reducible exact LeO.refl _)
      | (with_reducible exact LeO.none _)
      | (with_reducible refine LeO.ite ?_ ?_)
      | (with_reducible refine LeO.bind ?_ (fun _ => ?_))
      | exact ih0 _ _ _ _
      | exact LeO.none _
      | refine LeO.ite ?_ ?_
      | refine LeO.bind ?_ (fun _ => ?_)
set_option maxHeartbeats 8000000 in
set_option maxRecDepth 100000 in
theorem replace_prevs.calls (k : Nat) (A0_0 : Option Addr) (c0_0 : Nat) (l0_0 : List (S38)) (A0_1 : Option Addr) (c0_1 : Nat) (l0_1 : List (S64)) (a0_2 : Int) (a0_3 : Int) (a0_4 : Int) (r : List (S34)) (w : World) (hr0_0 : Kd.C k38 w A0_0 l0_0.length l0_0) (hc0_0 : l0_0.length ≤ c0_0) (hr0_1 : Kd.C k64 w A0_1 l0_1.length l0_1) (hc0_1 : l0_1.length ≤ c0_1) (h : replace_prevs.f k l0_0 l0_1 a0_2 a0_3 a0_4 = some r) :
  Calls Try.prog 37 #[.agg #[.slice A0_0 l0_0.length c0_0, .slice A0_1 l0_1.length c0_1, .int .i64 a0_2, .int .i64 a0_3, .int .i64 a0_4]] w fun e w' => ∃ v0_ : Value, e = .returned (v0_) ∧ Kd.R k34 34 w' w.heap.size (fun _ => True) v0_ r ∧ Below w.heap.size w w' := by
 have hu39 := Try.underlying39
 have hu38 := Try.underlying38
 have hu34 := Try.underlying34
 have HR0_0 := Aside0.mk hr0_0
 have HC0_0 := Aside0.mk hc0_0
 clear hr0_0 hc0_0
 have HR0_1 := Aside0.mk hr0_1
 have HC0_1 := Aside0.mk hc0_1
 clear hr0_1 hc0_1
 have HB := Aside0.mk (Below.refl w.heap.size w)
 have H : (replace_prevs.l0 k ([] : List (S34)) l0_0 (l0_0.length : Int) 0) = some r := h
 clear h
 have H' := Aside0.mk H
 clear H
 go_enter Try.func37, Try.ntmps37
 go_wp2_with (first | ((with_reducible refine gate_dst (N := 1) rfl ?_); refine box_event ?hg (N := 1) ?hd (cs := #[.slice A0_0 l0_0.length c0_0, .slice A0_1 l0_1.length c0_1, .int .i64 a0_2, .int .i64 a0_3, .int .i64 a0_4]) (t := 39) ?hr ?_; (case hd => rfl); (case hg => rfl); (case hr => first | (go_simp; done) | (go_simp; rfl)); intro gb192 hg w2 hbox hb; have n0_ := Aside0.mk (below_step (by repeat (first | (with_reducible first | exact HB.out | apply below_alloc | apply pw_below_drewN | apply below_drew1) | exact HB.out)) hb); have n1_ := Aside0.mk (hbox); have n2_ := Aside0.mk ((by rw [hg]; exact (below_size (by repeat (first | (with_reducible first | exact HB.out | apply below_alloc | apply pw_below_drewN | apply below_drew1) | exact HB.out))) : w.heap.size ≤ gb192)); have n3_ := Aside0.mk ((by rw [hg]; exact (below_size (by repeat (first | (with_reducible first | exact HB.out | apply below_alloc | apply pw_below_drewN | apply below_drew1) | exact HB.out))) : w.heap.size ≤ gb192)); clear HB; have HB := n0_; have BK192 := n1_; have GW192 := n2_; have GE192 := n3_; clear n0_ n1_ n2_ n3_; clear hb hbox hg; have hcz3_0 : w2.cell? ⟨gb192, 0, none⟩ = some (.slice A0_0 l0_0.length c0_0) := (blk_cell BK192.out 0).trans rfl; have hcz3_1 : w2.cell? ⟨gb192, 1, none⟩ = some (.slice A0_1 l0_1.length c0_1) := (blk_cell BK192.out 1).trans rfl; have hcz3_2 : w2.cell? ⟨gb192, 2, none⟩ = some (.int .i64 a0_2) := (blk_cell BK192.out 2).trans rfl; have hcz3_3 : w2.cell? ⟨gb192, 3, none⟩ = some (.int .i64 a0_3) := (blk_cell BK192.out 3).trans rfl; have hcz3_4 : w2.cell? ⟨gb192, 4, none⟩ = some (.int .i64 a0_4) := (blk_cell BK192.out 4).trans rfl; have hfz3_0 := blk_frozen BK192.out 0; have hfz3_1 := blk_frozen BK192.out 1; have hfz3_2 := blk_frozen BK192.out 2; have hfz3_3 := blk_frozen BK192.out 3; have hfz3_4 := blk_frozen BK192.out 4))
 go_loopg [2, 9] k (fun kq v2 v9 w' => ∃ (x2_1 : List (S34)) (x9_1 : Int), v9 = .int .i64 x9_1 ∧ Aside0 (replace_prevs.l0 kq x2_1 l0_0 (l0_0.length : Int) x9_1 = some r) ∧ Aside0 (kq ≤ k) ∧ Aside0 (Kd.R k34 34 w' w.heap.size (fun _ => True) v2 x2_1) ∧ Aside0 (w'.heap[gb192]? = some (.cells #[(.slice A0_0 l0_0.length c0_0), (.slice A0_1 l0_1.length c0_1), .int .i64 a0_2, .int .i64 a0_3, .int .i64 a0_4] 39 (0, 0))) ∧ Aside0 (Below w.heap.size w w'))
 case atStart => exact ⟨(([] : List (S34))), (0), (by first | rfl | (simp; done) | (simp [*]; done)), H', ⟨Nat.le_refl _⟩, ⟨by first | exact Kd.R_nil _ _ _ _ _ | exact Kd.N_nil _ _ _ _ _ | exact Kd.V_nil _ _ _ _ _ | exact Kd.Q_nil _ _ _ _ _ | exact Kd.S_nil _ _ _ _ _⟩, ⟨by (with_reducible repeat (first | refine blk_drewN ?_ _ | refine blk_drew ?_ | refine blk_alloc ?_ _)); exact BK192.out⟩, ⟨by repeat (first | (with_reducible first | exact HB.out | apply below_alloc | apply pw_below_drewN | apply below_drew1 | refine below_set ?_ GE192.out) | exact HB.out)⟩⟩
 case round =>
  clear H'
  try clear p2
  try clear c3
  try clear hcz3_0
  try clear hcz3_1
  try clear hcz3_2
  try clear hcz3_3
  try clear hcz3_4
  try clear hfz3_0
  try clear hfz3_1
  try clear hfz3_2
  try clear hfz3_3
  try clear hfz3_4
  obtain ⟨x2_1, x9_1, rfl, HA, HK1, HO_2, BK192, HB⟩ := hrel
  cases gk with
  | zero => exact absurd HA.out (by simp [replace_prevs.l0])
  | succ k1 =>
   have H := HA.out
   clear HA
   simp only [replace_prevs.l0] at H
   by_cases c4 : x9_1 < (l0_0.length : Int)
   ·
    rw [if_pos c4] at H
    have c4b0 : decide (x9_1 < (l0_0.length : Int)) = true := decide_eq_true c4
    clear c4
    by_cases c5 : 0 ≤ x9_1
    ·
     rw [if_pos c5] at H
     have c5b0 : decide (0 ≤ x9_1) = true := decide_eq_true c5
     clear c5
     by_cases c6 : x9_1 < (l0_0.length : Int)
     ·
      rw [if_pos c6] at H
      have c6b0 : decide (x9_1 < (l0_0.length : Int)) = true := decide_eq_true c6
      clear c6
      by_cases c7 : x2_1.length < 3518437208883
      ·
       rw [if_pos c7] at H
       have LMc7 := Aside0.mk c7
       clear c7
       obtain ⟨y195, hy195⟩ : ∃ y_ : List (S34), y_ = (x2_1 ++ [(⟨(⟨(rd_T38 l0_0 x9_1).f0.f0.f0, (rd_T38 l0_0 x9_1).f0.f0.f1, (rd_T38 l0_0 x9_1).f0.f0.f2, (rd_T38 l0_0 x9_1).f0.f0.f3, (rd_T38 l0_0 x9_1).f0.f0.f4, (rd_T38 l0_0 x9_1).f0.f0.f5, (rd_T38 l0_0 x9_1).f0.f0.f6, (rd_T38 l0_0 x9_1).f0.f0.f7, (rd_T38 l0_0 x9_1).f0.f0.f8, (rd_T38 l0_0 x9_1).f0.f0.f9, (rd_T38 l0_0 x9_1).f0.f0.f10, (rd_T38 l0_0 x9_1).f0.f0.f11, (rd_T38 l0_0 x9_1).f0.f0.f12, (rd_T38 l0_0 x9_1).f0.f0.f13, (rd_T38 l0_0 x9_1).f0.f0.f14, (rd_T38 l0_0 x9_1).f0.f0.f15, (rd_T38 l0_0 x9_1).f0.f0.f16, (rd_T38 l0_0 x9_1).f0.f0.f17, (rd_T38 l0_0 x9_1).f0.f0.f18, (rd_T38 l0_0 x9_1).f0.f0.f19, (rd_T38 l0_0 x9_1).f0.f0.f20, (rd_T38 l0_0 x9_1).f0.f0.f21, (rd_T38 l0_0 x9_1).f0.f0.f22, (rd_T38 l0_0 x9_1).f0.f0.f23, (rd_T38 l0_0 x9_1).f0.f0.f24, (rd_T38 l0_0 x9_1).f0.f0.f25, (rd_T38 l0_0 x9_1).f0.f0.f26, (rd_T38 l0_0 x9_1).f0.f0.f27, (rd_T38 l0_0 x9_1).f0.f0.f28, (rd_T38 l0_0 x9_1).f0.f0.f29, (rd_T38 l0_0 x9_1).f0.f0.f30, (rd_T38 l0_0 x9_1).f0.f0.f31⟩ : S32), (rd_T38 l0_0 x9_1).f0.f1⟩ : S34)]) := ⟨_, rfl⟩
       replace H : (replace_prevs.l0 k1 y195 l0_0 (l0_0.length : Int) (wrap64 (x9_1 + 1))) = some r := by first | (rw [hy195]; with_reducible exact H) | (have H2_ := (Option.bind_some _ _).symm.trans H; rw [hy195]; with_reducible exact H2_) | (have H2_ := (Option.bind_some _ _).symm.trans H; with_reducible exact H2_) | with_reducible exact H | (rw [hy195]; exact H) | exact H
       have Ny195 := Aside0.mk hy195
       clear hy195
       have H' := Aside0.mk H
       clear H
       have p193 : 0 ≤ (x9_1 : Int) := of_decide_eq_true (by first | (with_reducible assumption) | assumption)
       have q193 : x9_1 < (l0_0.length : Int) := of_decide_eq_true (by first | (with_reducible assumption) | assumption)
       obtain ⟨ad193, e193, hx193_0, hx193_1, hx193_2, hx193_3, hx193_4, hx193_5, hx193_6, hx193_7, hx193_8, hx193_9, hx193_10, hx193_11, hx193_12, hx193_13, hx193_14, hx193_15, hx193_16, hx193_17, hx193_18, hx193_19, hx193_20, hx193_21, hx193_22, hx193_23, hx193_24, hx193_25, hx193_26, hx193_27, hx193_28, hx193_29, hx193_30, hx193_31, hx193_32, hx193_33, hx193_34, hx193_35, hx193_36⟩ := at_T38 HR0_0.out x9_1 p193 q193
       cases e193
       replace hx193_0 := (HB.out.cell (World.block_lt_of_cell? w _ hx193_0)).trans hx193_0
       replace hx193_1 := (HB.out.cell (World.block_lt_of_cell? w _ hx193_1)).trans hx193_1
       replace hx193_2 := (HB.out.cell (World.block_lt_of_cell? w _ hx193_2)).trans hx193_2
       replace hx193_3 := (HB.out.cell (World.block_lt_of_cell? w _ hx193_3)).trans hx193_3
       replace hx193_4 := (HB.out.cell (World.block_lt_of_cell? w _ hx193_4)).trans hx193_4
       replace hx193_5 := (HB.out.cell (World.block_lt_of_cell? w _ hx193_5)).trans hx193_5
       replace hx193_6 := (HB.out.cell (World.block_lt_of_cell? w _ hx193_6)).trans hx193_6
       replace hx193_7 := (HB.out.cell (World.block_lt_of_cell? w _ hx193_7)).trans hx193_7
       replace hx193_8 := (HB.out.cell (World.block_lt_of_cell? w _ hx193_8)).trans hx193_8
       replace hx193_9 := (HB.out.cell (World.block_lt_of_cell? w _ hx193_9)).trans hx193_9
       replace hx193_10 := (HB.out.cell (World.block_lt_of_cell? w _ hx193_10)).trans hx193_10
       replace hx193_11 := (HB.out.cell (World.block_lt_of_cell? w _ hx193_11)).trans hx193_11
       replace hx193_12 := (HB.out.cell (World.block_lt_of_cell? w _ hx193_12)).trans hx193_12
       replace hx193_13 := (HB.out.cell (World.block_lt_of_cell? w _ hx193_13)).trans hx193_13
       replace hx193_14 := (HB.out.cell (World.block_lt_of_cell? w _ hx193_14)).trans hx193_14
       replace hx193_15 := (HB.out.cell (World.block_lt_of_cell? w _ hx193_15)).trans hx193_15
       replace hx193_16 := (HB.out.cell (World.block_lt_of_cell? w _ hx193_16)).trans hx193_16
       replace hx193_17 := (HB.out.cell (World.block_lt_of_cell? w _ hx193_17)).trans hx193_17
       replace hx193_18 := (HB.out.cell (World.block_lt_of_cell? w _ hx193_18)).trans hx193_18
       replace hx193_19 := (HB.out.cell (World.block_lt_of_cell? w _ hx193_19)).trans hx193_19
       replace hx193_20 := (HB.out.cell (World.block_lt_of_cell? w _ hx193_20)).trans hx193_20
       replace hx193_21 := (HB.out.cell (World.block_lt_of_cell? w _ hx193_21)).trans hx193_21
       replace hx193_22 := (HB.out.cell (World.block_lt_of_cell? w _ hx193_22)).trans hx193_22
       replace hx193_23 := (HB.out.cell (World.block_lt_of_cell? w _ hx193_23)).trans hx193_23
       replace hx193_24 := (HB.out.cell (World.block_lt_of_cell? w _ hx193_24)).trans hx193_24
       replace hx193_25 := (HB.out.cell (World.block_lt_of_cell? w _ hx193_25)).trans hx193_25
       replace hx193_26 := (HB.out.cell (World.block_lt_of_cell? w _ hx193_26)).trans hx193_26
       replace hx193_27 := (HB.out.cell (World.block_lt_of_cell? w _ hx193_27)).trans hx193_27
       replace hx193_28 := (HB.out.cell (World.block_lt_of_cell? w _ hx193_28)).trans hx193_28
       replace hx193_29 := (HB.out.cell (World.block_lt_of_cell? w _ hx193_29)).trans hx193_29
       replace hx193_30 := (HB.out.cell (World.block_lt_of_cell? w _ hx193_30)).trans hx193_30
       replace hx193_31 := (HB.out.cell (World.block_lt_of_cell? w _ hx193_31)).trans hx193_31
       replace hx193_32 := (HB.out.cell (World.block_lt_of_cell? w _ hx193_32)).trans hx193_32
       replace hx193_33 := (HB.out.cell (World.block_lt_of_cell? w _ hx193_33)).trans hx193_33
       replace hx193_34 := (HB.out.cell (World.block_lt_of_cell? w _ hx193_34)).trans hx193_34
       replace hx193_35 := (HB.out.cell (World.block_lt_of_cell? w _ hx193_35)).trans hx193_35
       replace hx193_36 := (HB.out.cell (World.block_lt_of_cell? w _ hx193_36)).trans hx193_36
       replace p193 := eq_true p193
       replace q193 := eq_true q193
       have hw193_0_32 := Go.Proofs.Ytiodebjjbgcbhaa.Wide.mk32 hx193_0 hx193_1 hx193_2 hx193_3 hx193_4 hx193_5 hx193_6 hx193_7 hx193_8 hx193_9 hx193_10 hx193_11 hx193_12 hx193_13 hx193_14 hx193_15 hx193_16 hx193_17 hx193_18 hx193_19 hx193_20 hx193_21 hx193_22 hx193_23 hx193_24 hx193_25 hx193_26 hx193_27 hx193_28 hx193_29 hx193_30 hx193_31
       have hw193_0_33 := Go.Proofs.Ytiodebjjbgcbhaa.Wide.mk33 hx193_0 hx193_1 hx193_2 hx193_3 hx193_4 hx193_5 hx193_6 hx193_7 hx193_8 hx193_9 hx193_10 hx193_11 hx193_12 hx193_13 hx193_14 hx193_15 hx193_16 hx193_17 hx193_18 hx193_19 hx193_20 hx193_21 hx193_22 hx193_23 hx193_24 hx193_25 hx193_26 hx193_27 hx193_28 hx193_29 hx193_30 hx193_31 hx193_32
       have hw193_0_37 := Go.Proofs.Ytiodebjjbgcbhaa.Wide.mk37 hx193_0 hx193_1 hx193_2 hx193_3 hx193_4 hx193_5 hx193_6 hx193_7 hx193_8 hx193_9 hx193_10 hx193_11 hx193_12 hx193_13 hx193_14 hx193_15 hx193_16 hx193_17 hx193_18 hx193_19 hx193_20 hx193_21 hx193_22 hx193_23 hx193_24 hx193_25 hx193_26 hx193_27 hx193_28 hx193_29 hx193_30 hx193_31 hx193_32 hx193_33 hx193_34 hx193_35 hx193_36
       go_wp2_with (first | ((with_reducible refine gate_dst (N := 4) rfl ?_); refine Go.Proofs.Ytiodebjjbgcbhaa.Fill.fill_event (N := 4) (x := 12) (cs := #[.int .u8 ((rd_T38 l0_0 x9_1).f0.f0.f0), .int .u8 ((rd_T38 l0_0 x9_1).f0.f0.f1), .int .u8 ((rd_T38 l0_0 x9_1).f0.f0.f2), .int .u8 ((rd_T38 l0_0 x9_1).f0.f0.f3), .int .u8 ((rd_T38 l0_0 x9_1).f0.f0.f4), .int .u8 ((rd_T38 l0_0 x9_1).f0.f0.f5), .int .u8 ((rd_T38 l0_0 x9_1).f0.f0.f6), .int .u8 ((rd_T38 l0_0 x9_1).f0.f0.f7), .int .u8 ((rd_T38 l0_0 x9_1).f0.f0.f8), .int .u8 ((rd_T38 l0_0 x9_1).f0.f0.f9), .int .u8 ((rd_T38 l0_0 x9_1).f0.f0.f10), .int .u8 ((rd_T38 l0_0 x9_1).f0.f0.f11), .int .u8 ((rd_T38 l0_0 x9_1).f0.f0.f12), .int .u8 ((rd_T38 l0_0 x9_1).f0.f0.f13), .int .u8 ((rd_T38 l0_0 x9_1).f0.f0.f14), .int .u8 ((rd_T38 l0_0 x9_1).f0.f0.f15), .int .u8 ((rd_T38 l0_0 x9_1).f0.f0.f16), .int .u8 ((rd_T38 l0_0 x9_1).f0.f0.f17), .int .u8 ((rd_T38 l0_0 x9_1).f0.f0.f18), .int .u8 ((rd_T38 l0_0 x9_1).f0.f0.f19), .int .u8 ((rd_T38 l0_0 x9_1).f0.f0.f20), .int .u8 ((rd_T38 l0_0 x9_1).f0.f0.f21), .int .u8 ((rd_T38 l0_0 x9_1).f0.f0.f22), .int .u8 ((rd_T38 l0_0 x9_1).f0.f0.f23), .int .u8 ((rd_T38 l0_0 x9_1).f0.f0.f24), .int .u8 ((rd_T38 l0_0 x9_1).f0.f0.f25), .int .u8 ((rd_T38 l0_0 x9_1).f0.f0.f26), .int .u8 ((rd_T38 l0_0 x9_1).f0.f0.f27), .int .u8 ((rd_T38 l0_0 x9_1).f0.f0.f28), .int .u8 ((rd_T38 l0_0 x9_1).f0.f0.f29), .int .u8 ((rd_T38 l0_0 x9_1).f0.f0.f30), .int .u8 ((rd_T38 l0_0 x9_1).f0.f0.f31), .int .i64 ((rd_T38 l0_0 x9_1).f0.f1), .int .i64 ((rd_T38 l0_0 x9_1).f1), .int .i64 ((rd_T38 l0_0 x9_1).f2.f0), .int .i64 ((rd_T38 l0_0 x9_1).f2.f1), .string ((rd_T38 l0_0 x9_1).f2.f2)]) (t := 38) rfl rfl rfl rfl rfl rfl Try.zeroValue38 Try.sizeOf38 rfl rfl (fun _ => rfl) (fun _ => rfl) ?_; intro gb194 hg w8 hbox hb; have n0_ := Aside0.mk (Kd.R_below (by (with_reducible repeat (first | apply Kd.R_alloc | apply Kd.R_drewN | apply Kd.R_drew)); exact HO_2.out) hb); have n1_ := Aside0.mk (blk_below (g := gb192) (o := .cells #[.slice (some ad193) l0_0.length c0_0, .slice A0_1 l0_1.length c0_1, .int .i64 a0_2, .int .i64 a0_3, .int .i64 a0_4] 39 (0, 0)) (by (with_reducible repeat (first | refine blk_drewN ?_ _ | refine blk_drew ?_ | refine blk_alloc ?_ _)); exact BK192.out) hb); have n2_ := Aside0.mk (below_step (by repeat (first | (with_reducible first | exact HB.out | apply below_alloc | apply pw_below_drewN | apply below_drew1 | refine below_set ?_ GE192.out) | exact HB.out)) hb); have n3_ := Aside0.mk (hbox); have n4_ := Aside0.mk ((by rw [hg]; exact (below_size (by repeat (first | (with_reducible first | exact HB.out | apply below_alloc | apply pw_below_drewN | apply below_drew1 | refine below_set ?_ GE192.out) | exact HB.out))) : w.heap.size ≤ gb194)); have n5_ := Aside0.mk ((by rw [hg]; exact (below_size (by repeat (first | (with_reducible first | exact HB.out | apply below_alloc | apply pw_below_drewN | apply below_drew1 | refine below_set ?_ GE192.out) | exact HB.out))) : w.heap.size ≤ gb194)); have n6_ := Aside0.mk ((by rw [hg]; exact Nat.ne_of_lt (blk_lt (g := gb192) (o := .cells #[.slice (some ad193) l0_0.length c0_0, .slice A0_1 l0_1.length c0_1, .int .i64 a0_2, .int .i64 a0_3, .int .i64 a0_4] 39 (0, 0)) (by (with_reducible repeat (first | refine blk_drewN ?_ _ | refine blk_drew ?_ | refine blk_alloc ?_ _)); exact BK192.out)) : gb192 ≠ gb194)); have n7_ := Aside0.mk ((by rw [hg]; exact Nat.ne_of_gt (blk_lt (g := gb192) (o := .cells #[.slice (some ad193) l0_0.length c0_0, .slice A0_1 l0_1.length c0_1, .int .i64 a0_2, .int .i64 a0_3, .int .i64 a0_4] 39 (0, 0)) (by (with_reducible repeat (first | refine blk_drewN ?_ _ | refine blk_drew ?_ | refine blk_alloc ?_ _)); exact BK192.out)) : gb194 ≠ gb192)); clear HO_2; clear BK192; clear HB; have HO_2 := n0_; have BK192 := n1_; have HB := n2_; have BK194 := n3_; have GW194 := n4_; have GE194 := n5_; have NB192_194 := n6_; have NB194_192 := n7_; clear n0_ n1_ n2_ n3_ n4_ n5_ n6_ n7_; clear hb hbox hg; have hnb9 := NB194_192.out; have hnc9 := NB192_194.out; have hcz10_0 : w8.cell? ⟨gb194, 0, none⟩ = some (.int .u8 ((rd_T38 l0_0 x9_1).f0.f0.f0)) := (blk_cell BK194.out 0).trans rfl; have hcz10_1 : w8.cell? ⟨gb194, 1, none⟩ = some (.int .u8 ((rd_T38 l0_0 x9_1).f0.f0.f1)) := (blk_cell BK194.out 1).trans rfl; have hcz10_2 : w8.cell? ⟨gb194, 2, none⟩ = some (.int .u8 ((rd_T38 l0_0 x9_1).f0.f0.f2)) := (blk_cell BK194.out 2).trans rfl; have hcz10_3 : w8.cell? ⟨gb194, 3, none⟩ = some (.int .u8 ((rd_T38 l0_0 x9_1).f0.f0.f3)) := (blk_cell BK194.out 3).trans rfl; have hcz10_4 : w8.cell? ⟨gb194, 4, none⟩ = some (.int .u8 ((rd_T38 l0_0 x9_1).f0.f0.f4)) := (blk_cell BK194.out 4).trans rfl; have hcz10_5 : w8.cell? ⟨gb194, 5, none⟩ = some (.int .u8 ((rd_T38 l0_0 x9_1).f0.f0.f5)) := (blk_cell BK194.out 5).trans rfl; have hcz10_6 : w8.cell? ⟨gb194, 6, none⟩ = some (.int .u8 ((rd_T38 l0_0 x9_1).f0.f0.f6)) := (blk_cell BK194.out 6).trans rfl; have hcz10_7 : w8.cell? ⟨gb194, 7, none⟩ = some (.int .u8 ((rd_T38 l0_0 x9_1).f0.f0.f7)) := (blk_cell BK194.out 7).trans rfl; have hcz10_8 : w8.cell? ⟨gb194, 8, none⟩ = some (.int .u8 ((rd_T38 l0_0 x9_1).f0.f0.f8)) := (blk_cell BK194.out 8).trans rfl; have hcz10_9 : w8.cell? ⟨gb194, 9, none⟩ = some (.int .u8 ((rd_T38 l0_0 x9_1).f0.f0.f9)) := (blk_cell BK194.out 9).trans rfl; have hcz10_10 : w8.cell? ⟨gb194, 10, none⟩ = some (.int .u8 ((rd_T38 l0_0 x9_1).f0.f0.f10)) := (blk_cell BK194.out 10).trans rfl; have hcz10_11 : w8.cell? ⟨gb194, 11, none⟩ = some (.int .u8 ((rd_T38 l0_0 x9_1).f0.f0.f11)) := (blk_cell BK194.out 11).trans rfl; have hcz10_12 : w8.cell? ⟨gb194, 12, none⟩ = some (.int .u8 ((rd_T38 l0_0 x9_1).f0.f0.f12)) := (blk_cell BK194.out 12).trans rfl; have hcz10_13 : w8.cell? ⟨gb194, 13, none⟩ = some (.int .u8 ((rd_T38 l0_0 x9_1).f0.f0.f13)) := (blk_cell BK194.out 13).trans rfl; have hcz10_14 : w8.cell? ⟨gb194, 14, none⟩ = some (.int .u8 ((rd_T38 l0_0 x9_1).f0.f0.f14)) := (blk_cell BK194.out 14).trans rfl; have hcz10_15 : w8.cell? ⟨gb194, 15, none⟩ = some (.int .u8 ((rd_T38 l0_0 x9_1).f0.f0.f15)) := (blk_cell BK194.out 15).trans rfl; have hcz10_16 : w8.cell? ⟨gb194, 16, none⟩ = some (.int .u8 ((rd_T38 l0_0 x9_1).f0.f0.f16)) := (blk_cell BK194.out 16).trans rfl; have hcz10_17 : w8.cell? ⟨gb194, 17, none⟩ = some (.int .u8 ((rd_T38 l0_0 x9_1).f0.f0.f17)) := (blk_cell BK194.out 17).trans rfl; have hcz10_18 : w8.cell? ⟨gb194, 18, none⟩ = some (.int .u8 ((rd_T38 l0_0 x9_1).f0.f0.f18)) := (blk_cell BK194.out 18).trans rfl; have hcz10_19 : w8.cell? ⟨gb194, 19, none⟩ = some (.int .u8 ((rd_T38 l0_0 x9_1).f0.f0.f19)) := (blk_cell BK194.out 19).trans rfl; have hcz10_20 : w8.cell? ⟨gb194, 20, none⟩ = some (.int .u8 ((rd_T38 l0_0 x9_1).f0.f0.f20)) := (blk_cell BK194.out 20).trans rfl; have hcz10_21 : w8.cell? ⟨gb194, 21, none⟩ = some (.int .u8 ((rd_T38 l0_0 x9_1).f0.f0.f21)) := (blk_cell BK194.out 21).trans rfl; have hcz10_22 : w8.cell? ⟨gb194, 22, none⟩ = some (.int .u8 ((rd_T38 l0_0 x9_1).f0.f0.f22)) := (blk_cell BK194.out 22).trans rfl; have hcz10_23 : w8.cell? ⟨gb194, 23, none⟩ = some (.int .u8 ((rd_T38 l0_0 x9_1).f0.f0.f23)) := (blk_cell BK194.out 23).trans rfl; have hcz10_24 : w8.cell? ⟨gb194, 24, none⟩ = some (.int .u8 ((rd_T38 l0_0 x9_1).f0.f0.f24)) := (blk_cell BK194.out 24).trans rfl; have hcz10_25 : w8.cell? ⟨gb194, 25, none⟩ = some (.int .u8 ((rd_T38 l0_0 x9_1).f0.f0.f25)) := (blk_cell BK194.out 25).trans rfl; have hcz10_26 : w8.cell? ⟨gb194, 26, none⟩ = some (.int .u8 ((rd_T38 l0_0 x9_1).f0.f0.f26)) := (blk_cell BK194.out 26).trans rfl; have hcz10_27 : w8.cell? ⟨gb194, 27, none⟩ = some (.int .u8 ((rd_T38 l0_0 x9_1).f0.f0.f27)) := (blk_cell BK194.out 27).trans rfl; have hcz10_28 : w8.cell? ⟨gb194, 28, none⟩ = some (.int .u8 ((rd_T38 l0_0 x9_1).f0.f0.f28)) := (blk_cell BK194.out 28).trans rfl; have hcz10_29 : w8.cell? ⟨gb194, 29, none⟩ = some (.int .u8 ((rd_T38 l0_0 x9_1).f0.f0.f29)) := (blk_cell BK194.out 29).trans rfl; have hcz10_30 : w8.cell? ⟨gb194, 30, none⟩ = some (.int .u8 ((rd_T38 l0_0 x9_1).f0.f0.f30)) := (blk_cell BK194.out 30).trans rfl; have hcz10_31 : w8.cell? ⟨gb194, 31, none⟩ = some (.int .u8 ((rd_T38 l0_0 x9_1).f0.f0.f31)) := (blk_cell BK194.out 31).trans rfl; have hcz10_32 : w8.cell? ⟨gb194, 32, none⟩ = some (.int .i64 ((rd_T38 l0_0 x9_1).f0.f1)) := (blk_cell BK194.out 32).trans rfl; have hcz10_33 : w8.cell? ⟨gb194, 33, none⟩ = some (.int .i64 ((rd_T38 l0_0 x9_1).f1)) := (blk_cell BK194.out 33).trans rfl; have hcz10_34 : w8.cell? ⟨gb194, 34, none⟩ = some (.int .i64 ((rd_T38 l0_0 x9_1).f2.f0)) := (blk_cell BK194.out 34).trans rfl; have hcz10_35 : w8.cell? ⟨gb194, 35, none⟩ = some (.int .i64 ((rd_T38 l0_0 x9_1).f2.f1)) := (blk_cell BK194.out 35).trans rfl; have hcz10_36 : w8.cell? ⟨gb194, 36, none⟩ = some (.string ((rd_T38 l0_0 x9_1).f2.f2)) := (blk_cell BK194.out 36).trans rfl; have hwz10_0_32 := Go.Proofs.Ytiodebjjbgcbhaa.Wide.mk32 (a := ⟨gb194, 0, none⟩) hcz10_0 hcz10_1 hcz10_2 hcz10_3 hcz10_4 hcz10_5 hcz10_6 hcz10_7 hcz10_8 hcz10_9 hcz10_10 hcz10_11 hcz10_12 hcz10_13 hcz10_14 hcz10_15 hcz10_16 hcz10_17 hcz10_18 hcz10_19 hcz10_20 hcz10_21 hcz10_22 hcz10_23 hcz10_24 hcz10_25 hcz10_26 hcz10_27 hcz10_28 hcz10_29 hcz10_30 hcz10_31; have hwz10_0_33 := Go.Proofs.Ytiodebjjbgcbhaa.Wide.mk33 (a := ⟨gb194, 0, none⟩) hcz10_0 hcz10_1 hcz10_2 hcz10_3 hcz10_4 hcz10_5 hcz10_6 hcz10_7 hcz10_8 hcz10_9 hcz10_10 hcz10_11 hcz10_12 hcz10_13 hcz10_14 hcz10_15 hcz10_16 hcz10_17 hcz10_18 hcz10_19 hcz10_20 hcz10_21 hcz10_22 hcz10_23 hcz10_24 hcz10_25 hcz10_26 hcz10_27 hcz10_28 hcz10_29 hcz10_30 hcz10_31 hcz10_32; have hwz10_0_37 := Go.Proofs.Ytiodebjjbgcbhaa.Wide.mk37 (a := ⟨gb194, 0, none⟩) hcz10_0 hcz10_1 hcz10_2 hcz10_3 hcz10_4 hcz10_5 hcz10_6 hcz10_7 hcz10_8 hcz10_9 hcz10_10 hcz10_11 hcz10_12 hcz10_13 hcz10_14 hcz10_15 hcz10_16 hcz10_17 hcz10_18 hcz10_19 hcz10_20 hcz10_21 hcz10_22 hcz10_23 hcz10_24 hcz10_25 hcz10_26 hcz10_27 hcz10_28 hcz10_29 hcz10_30 hcz10_31 hcz10_32 hcz10_33 hcz10_34 hcz10_35 hcz10_36; have hfz10_0 := blk_frozen BK194.out 0; have hfz10_1 := blk_frozen BK194.out 1; have hfz10_2 := blk_frozen BK194.out 2; have hfz10_3 := blk_frozen BK194.out 3; have hfz10_4 := blk_frozen BK194.out 4; have hfz10_5 := blk_frozen BK194.out 5; have hfz10_6 := blk_frozen BK194.out 6; have hfz10_7 := blk_frozen BK194.out 7; have hfz10_8 := blk_frozen BK194.out 8; have hfz10_9 := blk_frozen BK194.out 9; have hfz10_10 := blk_frozen BK194.out 10; have hfz10_11 := blk_frozen BK194.out 11; have hfz10_12 := blk_frozen BK194.out 12; have hfz10_13 := blk_frozen BK194.out 13; have hfz10_14 := blk_frozen BK194.out 14; have hfz10_15 := blk_frozen BK194.out 15; have hfz10_16 := blk_frozen BK194.out 16; have hfz10_17 := blk_frozen BK194.out 17; have hfz10_18 := blk_frozen BK194.out 18; have hfz10_19 := blk_frozen BK194.out 19; have hfz10_20 := blk_frozen BK194.out 20; have hfz10_21 := blk_frozen BK194.out 21; have hfz10_22 := blk_frozen BK194.out 22; have hfz10_23 := blk_frozen BK194.out 23; have hfz10_24 := blk_frozen BK194.out 24; have hfz10_25 := blk_frozen BK194.out 25; have hfz10_26 := blk_frozen BK194.out 26; have hfz10_27 := blk_frozen BK194.out 27; have hfz10_28 := blk_frozen BK194.out 28; have hfz10_29 := blk_frozen BK194.out 29; have hfz10_30 := blk_frozen BK194.out 30; have hfz10_31 := blk_frozen BK194.out 31; have hfz10_32 := blk_frozen BK194.out 32; have hfz10_33 := blk_frozen BK194.out 33; have hfz10_34 := blk_frozen BK194.out 34; have hfz10_35 := blk_frozen BK194.out 35; have hfz10_36 := blk_frozen BK194.out 36) | ((with_reducible refine gate_builtin (b := .append) (xs := #[.tmp 13, .tmp 16]) rfl ?_); at_builtin; refine Kd.R_append k34 (w0 := w) w.heap.size rfl (.tmp 13) (.tmp 16) 86 34 (.agg #[(.int .u8 0), (.int .u8 0), (.int .u8 0), (.int .u8 0), (.int .u8 0), (.int .u8 0), (.int .u8 0), (.int .u8 0), (.int .u8 0), (.int .u8 0), (.int .u8 0), (.int .u8 0), (.int .u8 0), (.int .u8 0), (.int .u8 0), (.int .u8 0), (.int .u8 0), (.int .u8 0), (.int .u8 0), (.int .u8 0), (.int .u8 0), (.int .u8 0), (.int .u8 0), (.int .u8 0), (.int .u8 0), (.int .u8 0), (.int .u8 0), (.int .u8 0), (.int .u8 0), (.int .u8 0), (.int .u8 0), (.int .u8 0), (.int .i64 0)]) 40 rfl Try.underlying86 info34 rfl (by decide) (by omega) u2 x2_1 (⟨(⟨(rd_T38 l0_0 x9_1).f0.f0.f0, (rd_T38 l0_0 x9_1).f0.f0.f1, (rd_T38 l0_0 x9_1).f0.f0.f2, (rd_T38 l0_0 x9_1).f0.f0.f3, (rd_T38 l0_0 x9_1).f0.f0.f4, (rd_T38 l0_0 x9_1).f0.f0.f5, (rd_T38 l0_0 x9_1).f0.f0.f6, (rd_T38 l0_0 x9_1).f0.f0.f7, (rd_T38 l0_0 x9_1).f0.f0.f8, (rd_T38 l0_0 x9_1).f0.f0.f9, (rd_T38 l0_0 x9_1).f0.f0.f10, (rd_T38 l0_0 x9_1).f0.f0.f11, (rd_T38 l0_0 x9_1).f0.f0.f12, (rd_T38 l0_0 x9_1).f0.f0.f13, (rd_T38 l0_0 x9_1).f0.f0.f14, (rd_T38 l0_0 x9_1).f0.f0.f15, (rd_T38 l0_0 x9_1).f0.f0.f16, (rd_T38 l0_0 x9_1).f0.f0.f17, (rd_T38 l0_0 x9_1).f0.f0.f18, (rd_T38 l0_0 x9_1).f0.f0.f19, (rd_T38 l0_0 x9_1).f0.f0.f20, (rd_T38 l0_0 x9_1).f0.f0.f21, (rd_T38 l0_0 x9_1).f0.f0.f22, (rd_T38 l0_0 x9_1).f0.f0.f23, (rd_T38 l0_0 x9_1).f0.f0.f24, (rd_T38 l0_0 x9_1).f0.f0.f25, (rd_T38 l0_0 x9_1).f0.f0.f26, (rd_T38 l0_0 x9_1).f0.f0.f27, (rd_T38 l0_0 x9_1).f0.f0.f28, (rd_T38 l0_0 x9_1).f0.f0.f29, (rd_T38 l0_0 x9_1).f0.f0.f30, (rd_T38 l0_0 x9_1).f0.f0.f31⟩ : S32), (rd_T38 l0_0 x9_1).f0.f1⟩ : S34) (.int .u8 ((rd_T38 l0_0 x9_1).f0.f0.f0) :: .int .u8 ((rd_T38 l0_0 x9_1).f0.f0.f1) :: .int .u8 ((rd_T38 l0_0 x9_1).f0.f0.f2) :: .int .u8 ((rd_T38 l0_0 x9_1).f0.f0.f3) :: .int .u8 ((rd_T38 l0_0 x9_1).f0.f0.f4) :: .int .u8 ((rd_T38 l0_0 x9_1).f0.f0.f5) :: .int .u8 ((rd_T38 l0_0 x9_1).f0.f0.f6) :: .int .u8 ((rd_T38 l0_0 x9_1).f0.f0.f7) :: .int .u8 ((rd_T38 l0_0 x9_1).f0.f0.f8) :: .int .u8 ((rd_T38 l0_0 x9_1).f0.f0.f9) :: .int .u8 ((rd_T38 l0_0 x9_1).f0.f0.f10) :: .int .u8 ((rd_T38 l0_0 x9_1).f0.f0.f11) :: .int .u8 ((rd_T38 l0_0 x9_1).f0.f0.f12) :: .int .u8 ((rd_T38 l0_0 x9_1).f0.f0.f13) :: .int .u8 ((rd_T38 l0_0 x9_1).f0.f0.f14) :: .int .u8 ((rd_T38 l0_0 x9_1).f0.f0.f15) :: .int .u8 ((rd_T38 l0_0 x9_1).f0.f0.f16) :: .int .u8 ((rd_T38 l0_0 x9_1).f0.f0.f17) :: .int .u8 ((rd_T38 l0_0 x9_1).f0.f0.f18) :: .int .u8 ((rd_T38 l0_0 x9_1).f0.f0.f19) :: .int .u8 ((rd_T38 l0_0 x9_1).f0.f0.f20) :: .int .u8 ((rd_T38 l0_0 x9_1).f0.f0.f21) :: .int .u8 ((rd_T38 l0_0 x9_1).f0.f0.f22) :: .int .u8 ((rd_T38 l0_0 x9_1).f0.f0.f23) :: .int .u8 ((rd_T38 l0_0 x9_1).f0.f0.f24) :: .int .u8 ((rd_T38 l0_0 x9_1).f0.f0.f25) :: .int .u8 ((rd_T38 l0_0 x9_1).f0.f0.f26) :: .int .u8 ((rd_T38 l0_0 x9_1).f0.f0.f27) :: .int .u8 ((rd_T38 l0_0 x9_1).f0.f0.f28) :: .int .u8 ((rd_T38 l0_0 x9_1).f0.f0.f29) :: .int .u8 ((rd_T38 l0_0 x9_1).f0.f0.f30) :: .int .u8 ((rd_T38 l0_0 x9_1).f0.f0.f31) :: .int .i64 ((rd_T38 l0_0 x9_1).f0.f1) :: []) (fun _ => True) (fun _ => False) rfl rfl ?aP (fun _ hk => hk.elim) ?aF ?aO ?aB ?aS ?aL ?_; (case aP => exact k34_mkM _ _ _ (⟨(⟨(rd_T38 l0_0 x9_1).f0.f0.f0, (rd_T38 l0_0 x9_1).f0.f0.f1, (rd_T38 l0_0 x9_1).f0.f0.f2, (rd_T38 l0_0 x9_1).f0.f0.f3, (rd_T38 l0_0 x9_1).f0.f0.f4, (rd_T38 l0_0 x9_1).f0.f0.f5, (rd_T38 l0_0 x9_1).f0.f0.f6, (rd_T38 l0_0 x9_1).f0.f0.f7, (rd_T38 l0_0 x9_1).f0.f0.f8, (rd_T38 l0_0 x9_1).f0.f0.f9, (rd_T38 l0_0 x9_1).f0.f0.f10, (rd_T38 l0_0 x9_1).f0.f0.f11, (rd_T38 l0_0 x9_1).f0.f0.f12, (rd_T38 l0_0 x9_1).f0.f0.f13, (rd_T38 l0_0 x9_1).f0.f0.f14, (rd_T38 l0_0 x9_1).f0.f0.f15, (rd_T38 l0_0 x9_1).f0.f0.f16, (rd_T38 l0_0 x9_1).f0.f0.f17, (rd_T38 l0_0 x9_1).f0.f0.f18, (rd_T38 l0_0 x9_1).f0.f0.f19, (rd_T38 l0_0 x9_1).f0.f0.f20, (rd_T38 l0_0 x9_1).f0.f0.f21, (rd_T38 l0_0 x9_1).f0.f0.f22, (rd_T38 l0_0 x9_1).f0.f0.f23, (rd_T38 l0_0 x9_1).f0.f0.f24, (rd_T38 l0_0 x9_1).f0.f0.f25, (rd_T38 l0_0 x9_1).f0.f0.f26, (rd_T38 l0_0 x9_1).f0.f0.f27, (rd_T38 l0_0 x9_1).f0.f0.f28, (rd_T38 l0_0 x9_1).f0.f0.f29, (rd_T38 l0_0 x9_1).f0.f0.f30, (rd_T38 l0_0 x9_1).f0.f0.f31⟩ : S32), (rd_T38 l0_0 x9_1).f0.f1⟩ : S34)); (case aB => exact (by repeat (first | (with_reducible first | exact HB.out | apply below_alloc | apply pw_below_drewN | apply below_drew1 | refine below_set ?_ GE192.out | refine below_set ?_ GE194.out) | exact HB.out))); (case aF => exact (fun _ _ => trivial)); (case aO => exact (by (with_reducible repeat (first | apply Kd.R_alloc | apply Kd.R_drewN | apply Kd.R_drew)); exact HO_2.out)); (case aS => exact (below_size (by repeat (first | (with_reducible first | exact HB.out | apply below_alloc | apply pw_below_drewN | apply below_drew1 | refine below_set ?_ GE192.out | refine below_set ?_ GE194.out) | exact HB.out)))); (case aL => have := LMc7.out; omega); intro v196 w11 ho hb hg hat; rw [← Ny195.out] at ho; have n0_ := Aside0.mk (blk_grown (g := gb192) (o := .cells #[.slice (some ad193) l0_0.length c0_0, .slice A0_1 l0_1.length c0_1, .int .i64 a0_2, .int .i64 a0_3, .int .i64 a0_4] 39 (0, 0)) (by (with_reducible repeat (first | refine blk_drewN ?_ _ | refine blk_drew ?_ | refine blk_alloc ?_ _)); exact BK192.out) hg (Kd.R_ne HO_2.out BK192.out (by decide))); have n1_ := Aside0.mk (blk_grown (g := gb194) (o := .cells #[.int .u8 ((rd_T38 l0_0 x9_1).f0.f0.f0), .int .u8 ((rd_T38 l0_0 x9_1).f0.f0.f1), .int .u8 ((rd_T38 l0_0 x9_1).f0.f0.f2), .int .u8 ((rd_T38 l0_0 x9_1).f0.f0.f3), .int .u8 ((rd_T38 l0_0 x9_1).f0.f0.f4), .int .u8 ((rd_T38 l0_0 x9_1).f0.f0.f5), .int .u8 ((rd_T38 l0_0 x9_1).f0.f0.f6), .int .u8 ((rd_T38 l0_0 x9_1).f0.f0.f7), .int .u8 ((rd_T38 l0_0 x9_1).f0.f0.f8), .int .u8 ((rd_T38 l0_0 x9_1).f0.f0.f9), .int .u8 ((rd_T38 l0_0 x9_1).f0.f0.f10), .int .u8 ((rd_T38 l0_0 x9_1).f0.f0.f11), .int .u8 ((rd_T38 l0_0 x9_1).f0.f0.f12), .int .u8 ((rd_T38 l0_0 x9_1).f0.f0.f13), .int .u8 ((rd_T38 l0_0 x9_1).f0.f0.f14), .int .u8 ((rd_T38 l0_0 x9_1).f0.f0.f15), .int .u8 ((rd_T38 l0_0 x9_1).f0.f0.f16), .int .u8 ((rd_T38 l0_0 x9_1).f0.f0.f17), .int .u8 ((rd_T38 l0_0 x9_1).f0.f0.f18), .int .u8 ((rd_T38 l0_0 x9_1).f0.f0.f19), .int .u8 ((rd_T38 l0_0 x9_1).f0.f0.f20), .int .u8 ((rd_T38 l0_0 x9_1).f0.f0.f21), .int .u8 ((rd_T38 l0_0 x9_1).f0.f0.f22), .int .u8 ((rd_T38 l0_0 x9_1).f0.f0.f23), .int .u8 ((rd_T38 l0_0 x9_1).f0.f0.f24), .int .u8 ((rd_T38 l0_0 x9_1).f0.f0.f25), .int .u8 ((rd_T38 l0_0 x9_1).f0.f0.f26), .int .u8 ((rd_T38 l0_0 x9_1).f0.f0.f27), .int .u8 ((rd_T38 l0_0 x9_1).f0.f0.f28), .int .u8 ((rd_T38 l0_0 x9_1).f0.f0.f29), .int .u8 ((rd_T38 l0_0 x9_1).f0.f0.f30), .int .u8 ((rd_T38 l0_0 x9_1).f0.f0.f31), .int .i64 ((rd_T38 l0_0 x9_1).f0.f1), .int .i64 ((rd_T38 l0_0 x9_1).f1), .int .i64 ((rd_T38 l0_0 x9_1).f2.f0), .int .i64 ((rd_T38 l0_0 x9_1).f2.f1), .string ((rd_T38 l0_0 x9_1).f2.f2)] 38 (0, 0)) (by (with_reducible repeat (first | refine blk_drewN ?_ _ | refine blk_drew ?_ | refine blk_alloc ?_ _)); exact BK194.out) hg (Kd.R_ne HO_2.out BK194.out (by decide))); have n2_ := Aside0.mk (hb); have n3_ := Aside0.mk (ho); clear BK192; clear BK194; clear HB; clear HO_2; have BK192 := n0_; have BK194 := n1_; have HB := n2_; have HO197 := n3_; clear n0_ n1_ n2_ n3_; clear ho hb hg hat))
       go_roundg k1
       case measure => have := HK1.out; omega
       case rel => exact ⟨(y195), (wrap64 (x9_1 + 1)), (by first | rfl | (simp; done) | (simp [*]; done)), H', ⟨by have := HK1.out; omega⟩, ⟨by (with_reducible repeat (first | apply Kd.R_alloc | apply Kd.R_drewN | apply Kd.R_drew)); exact HO197.out⟩, ⟨by (with_reducible repeat (first | refine blk_drewN ?_ _ | refine blk_drew ?_ | refine blk_alloc ?_ _)); exact BK192.out⟩, ⟨by repeat (first | (with_reducible first | exact HB.out | apply below_alloc | apply pw_below_drewN | apply below_drew1 | refine below_set ?_ GE192.out | refine below_set ?_ GE194.out) | exact HB.out)⟩⟩
      ·
       rw [if_neg c7] at H
       exact absurd H (by simp)
     ·
      rw [if_neg c6] at H
      exact absurd H (by simp)
    ·
     rw [if_neg c5] at H
     exact absurd H (by simp)
   ·
    rw [if_neg c4] at H
    have c4b0 : decide (x9_1 < (l0_0.length : Int)) = false := decide_eq_false c4
    clear c4
    obtain rfl := Option.some.inj H
    go_wp2
    go_ret
    exact ⟨_, by first | rfl | (simp [errW_none, errW_some] <;> rfl) | (simp [*, errW_none, errW_some] <;> rfl), by (with_reducible repeat (first | apply Kd.R_alloc | apply Kd.R_drewN | apply Kd.R_drew)); exact HO_2.out, by repeat (first | (with_reducible first | exact HB.out | apply below_alloc | apply pw_below_drewN | apply below_drew1 | refine below_set ?_ GE192.out) | exact HB.out)⟩

end Go.Proofs.Ytiodebjjbgcbhaa.QRep
