import Derived.Test.YtiodebjjbgcbhaaGreatRfM
namespace Go.Proofs.YtiodebjjbgcbhaaGreat.RfB
open Go.RowKit Go.Sort Go.Lib Go.Shelf Go.Proofs YtiodebjjbgcbhaaGreatW.PrintWords YtiodebjjbgcbhaaGreatW.PrintLast YtiodebjjbgcbhaaGreatW.PrintMore YtiodebjjbgcbhaaGreat Hand Inp RowK Fill OrdO QLef LefL
attribute [local go_sem ↓ high] Wide.hv44 Wide.hv33 Wide.hv37 Wide.hv32 Wide.hv38 Wide.hv39
set_option linter.unusedVariables false
set_option linter.unusedSimpArgs false
set_option maxHeartbeats 16000000 in
set_option maxRecDepth 100000 in
theorem asks_calls (l : List S42) (n : Nat) (hn : l.length = n) (A : Option Addr) (c : Nat) (next rate key : Int) (w : World) (hA : ReadsRow (fun x c => c = J68.enc x) 44 w A n l) (hc : n ≤ c) (bf : Bool) (kf : Nat) (hfew : coraclelaw17_few.f kf l = some bf) (km : Nat) (hrest : bf = true → n ≤ 40 ∧ coraclelaw17_mades.f km l = some (l.map to90)) (hby : ∀ x ∈ l, Byt (J68.bs x)) :
 Calls Tryz.prog 3 #[.slice A n c, .int .i64 next, .int .i64 rate, .int .i64 key] w fun e w' => e = .returned (.bool true) ∧ Below w.heap.size w w' := by
 have mixed : Tryz.prog.follows .mixedOrders = true := by kernel_rfl
 have HB := Ak (Below.refl w.heap.size w)
 have HA := Ak hA
 have FEW := Ak (fun (W : World) (hb : Below w.heap.size w W) => (by
  have h := coraclelaw17_few.calls kf A c l bf W (row68 (by rw [hn]; exact ReadsRow.imp_ hA hb (fun _ _ h => h))) (by rw [hn]; exact hc) hfew
  rw [hn] at h
  exact h.mono (fun _ _ h => ⟨h.1, below_drawn0 h.2⟩) : Calls Tryz.prog 5 #[.slice A n c] W fun e w' => e = .returned (.bool bf) ∧ Below W.heap.size W w'))
 have AW := Ak awake_calls
 cases bf with
 | false =>
  clear hrest hfew
  go_enter Tryz.func3, Tryz.ntmps3
  go_wp2_with (first | (go_at_call 5; (with_reducible refine (FEW.1 _ HB.1).mono ?_); rintro e w1 ⟨rfl, hb⟩; replace HB := Ak (below_step HB.1 hb); clear hb) | (go_at_call 6; (with_reducible refine (AW.1 _).mono ?_); rintro e w1 ⟨rfl, hb⟩; replace HB := Ak (below_step HB.1 hb); clear hb))
  go_ret
  exact ⟨rfl, HB.1⟩
 | true =>
  obtain ⟨hn40, hm⟩ := hrest rfl
  have MD := Ak (fun (W : World) (hb : Below w.heap.size w W) => (by
   have h := coraclelaw17_mades.calls km A c l _ W (row68 (by rw [hn]; exact ReadsRow.imp_ hA hb (fun _ _ h => h))) (by rw [hn]; exact hc) hm
   rw [hn] at h
   exact h : Calls Tryz.prog 7 #[.slice A n c] W fun e w' => ∃ v0_ : Value, e = .returned v0_ ∧ Kd.R k38 38 w' W.heap.size (fun _ => True) v0_ (l.map to90) ∧ Below W.heap.size W w'))
  have HN := Ak hn
  have HL := Ak hn40
  have HY := Ak hby
  have HCC := Ak hc
  have HM := Ak (show (l.map to90).length = n by rw [List.length_map, hn])
  clear hrest hfew hm hn hn40 hby hc hA
  go_enter Tryz.func3, Tryz.ntmps3
  go_upto_region 4 with (first | (go_at_call 5; (with_reducible refine (FEW.1 _ HB.1).mono ?_); rintro e w1 ⟨rfl, hb⟩; replace HB := Ak (below_step HB.1 hb); clear hb) | ((with_reducible refine gate_callee (f := 7) rfl ?_); refine goesL_ (some 20) rfl rfl Tryz.func7 (by kernel_rfl) rfl #[.slice A n c] rfl (by (try simp only [lm_, lc_, ln_]); first | done | rfl) ?_; refine (MD.1 _ HB.1).mono ?_; rintro e w2 ⟨v20, rfl, h20, hb⟩; refine ⟨_, rfl, ?_⟩; have H20 := Ak h20; replace HB := Ak (below_step HB.1 hb); clear hb h20; obtain ⟨A20, c20, e20⟩ := Kd.R_slice H20.1; subst e20; rw [HM.1]))
  have RM := Ak (show Kd.C k38 w2 A20 n (l.map to90) by have h := (Kd.R_reads' H20.1).2.2; rwa [HM.1] at h)
  have RL := Ak (show ReadsRow (fun x c => c = J68.enc x) 44 w2 A n l from ReadsRow.imp_ HA.1 HB.1 (fun _ _ h => h))
  have HC20 := Ak (show n ≤ c20 by have h := (Kd.R_reads' H20.1).2.1; rwa [HM.1] at h)
  have HW := Ak HB.1
  clear H20 HA FEW MD HB
  have HB := Ak (Below.refl w2.heap.size w2)
  have hlim := HL.1
  go_wp2
  go_loopg [10] n (fun kq v10 wr => ∃ i : Nat, v10 = .int .i64 i ∧ i ≤ n ∧ n - i ≤ kq ∧ Aside0 (Below w2.heap.size w2 wr))
  case atStart => exact ⟨0, rfl, by omega, by omega, HB⟩
  case round =>
   clear HB
   obtain ⟨i, rfl, hin, hkq, HB⟩ := hrel
   by_cases hlt : i < n
   ·have hltz : (i : Int) < (n : Int) := by omega
    have hil : i < l.length := by rw [HN.1]; exact hlt
    have YR := Ak (show l[i]? = some l[i] from List.getElem?_eq_getElem hil)
    generalize l[i] = x at YR
    clear hil
    have RM2 := Ak (row_to (reads90 RM.1))
    obtain ⟨ad, rfl, _⟩ := RM2.1.2.2 (by omega)
    obtain ⟨bd, rfl, _⟩ := RL.1.2.2 (by omega)
    have C1 := Ak (fun W => (show Calls Tryz.prog 8 #[.agg (J68.enc x).toArray] W fun e w' => e = .returned (.int .i64 (chkC J68 x)) ∧ Below W.heap.size W w' from checkedC I90 (to90 x) W))
    have C2 := Ak (fun W => refcheck_calls J68 x W)
    have C3 := Ak (fun W => (show Calls Tryz.prog 10 #[.agg (J68.enc x).toArray, .int .i64 next] W fun e w' => e = .returned (.int .i64 (rtC J68 next x)) ∧ Below W.heap.size W w' from ratedC I90 next (to90 x) W))
    have C4 := Ak (fun W => refrate_calls J68 next x W)
    go_upto_region 7 with (fail)
    have q2 := fun dd os => part_load (enc := J68.enc) (sub := J68.enc) (o := 0) (k := 44) (m := 44) (fun _ => rfl) (fun _ => rfl) (fun _ => rfl) RM2.1 (HB.1.trans ((below_regrown wr dd os).mono HB.1.size)) rfl YR.1 (by omega)
    have q3 := fun dd os => part_load (enc := J68.enc) (sub := J68.enc) (o := 0) (k := 44) (m := 44) (fun _ => rfl) (fun _ => rfl) (fun _ => rfl) RL.1 (HB.1.trans ((below_regrown wr dd os).mono HB.1.size)) rfl YR.1 (by omega)
    simp only [Nat.add_zero] at q2 q3
    have en1 := enters_of Tryz.func8 (by kernel_rfl) rfl
    have en2 := enters_of Tryz.func9 (by kernel_rfl) rfl
    have en3 := enters_of Tryz.func10 (by kernel_rfl) rfl
    have en4 := enters_of Tryz.func11 (by kernel_rfl) rfl
    generalize chkC J68 x = ck at C1 C2
    generalize rtC J68 next x = rt at C3 C4
    generalize (J68.enc x).toArray = cx at q2 q3 C1 C2 C3 C4
    refine wp_region_quiet_below mixed (by kernel_rfl) ?_
    repeat (quiet_step (first | with_reducible exact Calls.regrown_of (C1.1 _) | with_reducible exact Calls.regrown_of (C2.1 _) | with_reducible exact Calls.regrown_of (C3.1 _) | with_reducible exact Calls.regrown_of (C4.1 _)))
    refine wpQuiet_nil ?_
    intro _ hw'
    obtain ⟨⟨nq, osq⟩, hw''⟩ := hw'
    subst hw''
    replace HB := Ak (below_step HB.1 (below_regrown wr nq osq))
    clear q2 q3 en1 en2 en3 en4
    generalize grow (redrawn wr nq) osq = wp at HB ⊢
    have hz2 : IntKind.i64.wrap ((i : Int) + 1) = ((i + 1 : Nat) : Int) := by rw [IntKind.wrap_i64]; omega
    go_wp2
    go_roundg (n - (i + 1))
    case measure => omega
    case rel => exact ⟨i + 1, by first | rfl | go_num, by omega, by omega, HB⟩
   ·obtain rfl : n = i := by omega
    have hnl : ¬ (n : Int) < (n : Int) := by omega
    have MK1 := Ak (fun (W : World) (hb : Below w2.heap.size w2 W) => (by
     have h := make90 (c := c20) (l := l.map to90) (w := W) (A := A20) (by rw [HM.1]; exact Kd.C_below RM.1 hb) (by rw [HM.1]; omega) rate key
     rw [make_to, HM.1] at h
     exact h : Calls Tryz.prog 12 #[.slice A20 n c20, .int .i64 rate, .int .i64 key] W fun e w' => Made W e w' (makeC J68 l rate key)))
    have MK2 := Ak (fun (W : World) (hb : Below w2.heap.size w2 W) => refmake_calls l n HN.1 (by omega) A c HCC.1 rate key W (row68 (ReadsRow.imp_ RL.1 hb (fun _ _ h => h))))
    have OR1 := Ak (fun (W : World) (hb : Below w2.heap.size w2 W) => (by
     have h := order90 (c := c20) (l := l.map to90) (w := W) (A := A20) (by rw [HM.1]; exact Kd.C_below RM.1 hb) (by rw [HM.1]; omega) next
     rw [order_to, HM.1] at h
     exact h : Calls Tryz.prog 15 #[.slice A20 n c20, .int .i64 next] W fun e w' => ∃ v, e = .returned v ∧ Kd.R k38 38 w' W.heap.size (fun _ => True) v ((orderC J68 l next).map to90) ∧ Below W.heap.size W w'))
    have OR2 := Ak (fun (W : World) (hb : Below w2.heap.size w2 W) => reforder_calls next l HY.1 n HN.1 (by omega) A c HCC.1 W (row68 (ReadsRow.imp_ RL.1 hb (fun _ _ h => h))))
    have OL := Ak (show (orderC J68 l next).length ≤ n by rw [← HN.1]; exact order_len J68 (chkC J68) (rtC J68 next) next l)
    generalize orderC J68 l next = L at OR1 OR2 OL
    have MB := Ak (show ∃ b ok, (makeC J68 l rate key).getD .zero = b ∧ (makeC J68 l rate key).isSome = ok from ⟨_, _, rfl, rfl⟩)
    obtain ⟨b, ok, hb1, hb2⟩ := MB.1
    unfold Made at MK1
    have MK3 := Ak (fun (W : World) (hb : Below w2.heap.size w2 W) => (show Calls Tryz.prog 13 #[.slice A n c, .int .i64 rate, .int .i64 key] W _ from MK2.1 W hb))
    unfold Made at MK3
    simp only [hb1, hb2] at MK1 MK3
    clear MB MK2 hb1 hb2 RM RL HM HC20 HCC HY HN
    have HB2 := HB
    go_upto_region 11 with (first | ((with_reducible refine gate_callee (f := 12) rfl ?_); refine goesL_ (some 57) rfl rfl Tryz.func12 (by kernel_rfl) rfl #[.slice A20 n c20, .int .i64 rate, .int .i64 key] rfl (by (try simp only [lm_, lc_, ln_]); first | done | rfl) ?_; refine (MK1.1 _ HB.1).mono ?_; rintro e w3 ⟨p0, p1, rfl, hp0, hp1, hb⟩; refine ⟨_, rfl, ?_⟩; have KM := Ak (K5.made hp0 hp1); obtain ⟨P0, e0, rfl⟩ := Kd.R_slice hp0; obtain ⟨P1, e1, rfl⟩ := Kd.R_slice hp1; replace HB := Ak (below_step HB.1 hb); clear hp0 hp1 hb) | ((with_reducible refine gate_dst (N := 11) rfl ?_); refine Fill.fill_event (N := 11) (x := 58) (cs := #[.slice P0 b.ins.length e0, .slice P1 b.outs.length e1, .int .i64 b.lock, .int .i64 b.fee, .int .i64 b.rate]) (t := 50) rfl rfl rfl rfl rfl rfl Tryz.zeroValue50 Tryz.sizeOf50 rfl rfl (fun _ => rfl) (fun _ => rfl) ?_; intro g11 hg w4 hbox hb; have G11 := Ak hbox; replace KM := Ak (KM.1.below hb); replace HB := Ak (below_step HB.1 hb); clear hbox hb hg) | ((with_reducible refine gate_callee (f := 13) rfl ?_); refine goesL_ (some 64) rfl rfl Tryz.func13 (by kernel_rfl) rfl #[.slice A n c, .int .i64 rate, .int .i64 key] rfl (by (try simp only [lm_, lc_, ln_]); first | done | rfl) ?_; refine (MK3.1 _ HB.1).mono ?_; rintro e w5 ⟨p2, p3, rfl, hp0, hp1, hb⟩; refine ⟨_, rfl, ?_⟩; have KN := Ak (K5.made hp0 hp1); obtain ⟨Q0, f0, rfl⟩ := Kd.R_slice hp0; obtain ⟨Q1, f1, rfl⟩ := Kd.R_slice hp1; replace HB := Ak (below_step HB.1 hb); replace KM := Ak (KM.1.below hb); replace G11 := Ak (blk_below G11.1 hb); clear hp0 hp1 hb) | ((with_reducible refine gate_dst (N := 13) rfl ?_); refine Fill.fill_event (N := 13) (x := 65) (cs := #[.slice Q0 b.ins.length f0, .slice Q1 b.outs.length f1, .int .i64 b.lock, .int .i64 b.fee, .int .i64 b.rate]) (t := 53) rfl rfl rfl rfl rfl rfl Tryz.zeroValue53 Tryz.sizeOf53 rfl rfl (fun _ => rfl) (fun _ => rfl) ?_; intro g13 hg w6 hbox hb; have G13 := Ak hbox; replace KM := Ak (KM.1.below hb); replace KN := Ak (KN.1.below hb); replace G11 := Ak (blk_below G11.1 hb); replace HB := Ak (below_step HB.1 hb); clear hbox hb hg))
    clear MK1 MK3
    clear HB2
    have FS := Ak (fun (V : World) (h1 : V.heap[g11]? = some (.cells #[.slice P0 b.ins.length e0, .slice P1 b.outs.length e1, .int .i64 b.lock, .int .i64 b.fee, .int .i64 b.rate] 50 (0, 0))) (h2 : V.heap[g13]? = some (.cells #[.slice Q0 b.ins.length f0, .slice Q1 b.outs.length f1, .int .i64 b.lock, .int .i64 b.fee, .int .i64 b.rate] 53 (0, 0))) => (show (V.cell? ⟨g11, 0, none⟩ = some (.slice P0 b.ins.length e0) ∧ V.cell? ⟨g11, 1, none⟩ = some (.slice P1 b.outs.length e1) ∧ V.cell? ⟨g11, 2, none⟩ = some (.int .i64 b.lock) ∧ V.cell? ⟨g11, 3, none⟩ = some (.int .i64 b.fee) ∧ V.cell? ⟨g11, 4, none⟩ = some (.int .i64 b.rate) ∧ V.cell? ⟨g13, 0, none⟩ = some (.slice Q0 b.ins.length f0) ∧ V.cell? ⟨g13, 1, none⟩ = some (.slice Q1 b.outs.length f1) ∧ V.cell? ⟨g13, 2, none⟩ = some (.int .i64 b.lock) ∧ V.cell? ⟨g13, 3, none⟩ = some (.int .i64 b.fee) ∧ V.cell? ⟨g13, 4, none⟩ = some (.int .i64 b.rate)) from ⟨(blk_cell h1 0).trans rfl, (blk_cell h1 1).trans rfl, (blk_cell h1 2).trans rfl, (blk_cell h1 3).trans rfl, (blk_cell h1 4).trans rfl, (blk_cell h2 0).trans rfl, (blk_cell h2 1).trans rfl, (blk_cell h2 2).trans rfl, (blk_cell h2 3).trans rfl, (blk_cell h2 4).trans rfl⟩))
    refine Mix.region (fun V => V.cell? ⟨g11, 0, none⟩ = some (.slice P0 b.ins.length e0) ∧ V.cell? ⟨g11, 1, none⟩ = some (.slice P1 b.outs.length e1) ∧ V.cell? ⟨g11, 2, none⟩ = some (.int .i64 b.lock) ∧ V.cell? ⟨g11, 3, none⟩ = some (.int .i64 b.fee) ∧ V.cell? ⟨g11, 4, none⟩ = some (.int .i64 b.rate) ∧ V.cell? ⟨g13, 0, none⟩ = some (.slice Q0 b.ins.length f0) ∧ V.cell? ⟨g13, 1, none⟩ = some (.slice Q1 b.outs.length f1) ∧ V.cell? ⟨g13, 2, none⟩ = some (.int .i64 b.lock) ∧ V.cell? ⟨g13, 3, none⟩ = some (.int .i64 b.fee) ∧ V.cell? ⟨g13, 4, none⟩ = some (.int .i64 b.rate)) [] (.p 0 (.p 1 (.p 3 (.p 4 (.e 2 (.e 5 (.e 6 (.p 7 (.p 8 (.p 9 (.p 10 (.p 11 (.p 12 (.t 13 (.t 16 (.w 14 17 (.w 15 17 (.e 17 (.e 18 (.p 19 (.p 20 (.e 21 (.p 22 (.p 23 .done))))))) (.e 15 (.e 18 (.p 19 (.p 20 (.e 21 (.p 22 (.p 23 .done)))))))) (.e 14 (.e 15 (.e 18 (.p 19 (.p 20 (.e 21 (.p 22 (.p 23 .done)))))))))))))))))))))))) mixed (by kernel_rfl) (fun _ _ N _ _ h => by cases N <;> exact h) ?_
    simp only [Mix.Plan.of, Mix.get]
    replace HB := Ak (below_drew1 HB.1)
    replace KM := Ak (KM.1.below (below_drew1 (Below.refl _ _)))
    replace KN := Ak (KN.1.below (below_drew1 (Below.refl _ _)))
    replace G11 := Ak (blk_drew G11.1)
    replace G13 := Ak (blk_drew G13.1)
    generalize w6.drew = wd at HB KM KN G11 G13 ⊢
    have SF := Ak (fun (V : World) (hb : Below wd.heap.size wd V) => FS.1 V (blk_below G11.1 hb) (blk_below G13.1 hb))
    clear FS
    have hSS := SF.1 wd (Below.refl _ _)
    repeat (first | (refine Mix.sp (v := ?_) (a' := ?_) rfl (Or.inl ⟨by rfl, ?_⟩) ?_ ?_; rotate_left 2; (intro w'; go_simp; with_reducible rfl); (simp only [Act.put, ls_, l0_, l1_]; rfl)) | (refine Mix.st (v := ?_) (a' := ?_) hSS rfl (Or.inl ⟨by rfl, ?_⟩) ?_ ?_; rotate_left 2; (rintro w' ⟨s0, s1, s2, s3, s4, s5, s6, s7, s8, s9⟩; go_simp; with_reducible rfl); (simp only [Act.put, ls_, l0_, l1_]; rfl)))
    refine Mix.ev rfl (fun K hK => ?_)
    refine goes_ Tryz.func15 (by kernel_rfl) rfl #[.slice A20 n c20, .int .i64 next] (by rfl) rfl rfl (by (try simp only [lm_, lc_, ln_]); first | done | rfl) ?_
    refine (OR1.1 _ HB.1).mono ?_
    rintro e w7 ⟨v69, rfl, h69, hb7⟩
    obtain ⟨A69, c69, rfl⟩ := Kd.R_slice h69
    have R69 := Ak (row_to (reads90 (show Kd.C k38 w7 A69 L.length (L.map to90) by have h := (Kd.R_reads' h69).2.2; rwa [List.length_map] at h)))
    rw [List.length_map]
    refine ⟨_, rfl, hK.out _ _ ⟨SF.1 _ hb7, ?_⟩⟩
    clear hK K h69
    simp only [Act.put, ls_, l0_, l1_]
    refine Mix.ev rfl (fun K hK => ?_)
    refine goes_ Tryz.func16 (by kernel_rfl) rfl #[.slice A n c, .int .i64 next] (by rfl) rfl rfl (by (try simp only [lm_, lc_, ln_]); first | done | rfl) ?_
    refine (OR2.1 _ (HB.1.trans (hb7.mono HB.1.size))).mono ?_
    rintro e w8 ⟨v72, rfl, h72, hb8⟩
    obtain ⟨A72, c72, rfl⟩ := Kd.R_slice h72
    have R72 := Ak (rd42 (Kd.R_reads' h72).2.2)
    have D8 := Ak (hb7.trans (hb8.mono hb7.size))
    refine ⟨_, rfl, hK.out _ _ ⟨SF.1 _ D8.1, ?_⟩⟩
    clear hK K h72
    simp only [Act.put, ls_, l0_, l1_]
    refine Mix.ev rfl (fun K hK => ?_)
    refine goes_ Tryz.func14 (by kernel_rfl) rfl #[.slice A69 L.length c69, .slice A72 L.length c72] (by rfl) rfl rfl (by (try simp only [lm_, lc_, ln_]); first | done | rfl) ?_
    refine (lawsame_calls L L.length rfl (by have := OL.1; omega) A69 c69 A72 c72 w8 (ReadsRow.imp_ R69.1 hb8 (fun _ _ h => h)) R72.1).mono ?_
    rintro e w9 ⟨rfl, hb9⟩
    have D9 := Ak (D8.1.trans (hb9.mono D8.1.size))
    refine ⟨_, rfl, hK.out _ _ ⟨SF.1 _ D9.1, ?_⟩⟩
    clear hK K R69 R72 D8 hSS hb7 hb8 hb9
    simp only [Act.put, ls_, l0_, l1_]
    have hSS := SF.1 w9 D9.1
    repeat (first | (refine Mix.sp (v := ?_) (a' := ?_) rfl (Or.inl ⟨by rfl, ?_⟩) ?_ ?_; rotate_left 2; (intro w'; go_simp; with_reducible rfl); (simp only [Act.put, ls_, l0_, l1_]; rfl)) | (refine Mix.st (v := ?_) (a' := ?_) hSS rfl (Or.inl ⟨by rfl, ?_⟩) ?_ ?_; rotate_left 2; (rintro w' ⟨s0, s1, s2, s3, s4, s5, s6, s7, s8, s9⟩; go_simp; with_reducible rfl); (simp only [Act.put, ls_, l0_, l1_]; rfl)))
    refine Mix.three (NE := 81) (NA := 82) (NL := 84) (NX := 80) (NY := 83) (fun x y z V => Below wd.heap.size wd V ∧ (∀ v, x = some v → ∃ A c, v = .slice A 1 c ∧ C5 V A 1 [b]) ∧ (∀ v, y = some v → ∃ A c, v = .slice A 1 c ∧ C5 V A 1 [b]) ∧ (∀ v, z = some v → ∃ A c, v = .slice A 1 c ∧ C5 V A 1 [b])) ?hN ⟨D9.1, (fun v h => by cases h), (fun v h => by cases h), (fun v h => by cases h)⟩ (fun _ _ _ _ h => SF.1 _ h.1) ?w1 ?w2 ?w3 ?w4 ?w5 ?w6 ?w7 ?w8 ?lE ?lA ?lL ?_
    case hN => kernel_rfl
    case w1 | w6 => rfl
    case w2 | w3 | w7 => intro v; rfl
    case w4 | w5 | w8 => intro u v; rfl
    case lE =>
     intro a' z W C hw hI hx hh
     obtain ⟨hD, hI1, hI2, hI3⟩ := hI
     replace hx : a'.eval (.tmp 80) = .agg #[.slice P0 b.ins.length e0, .slice P1 b.outs.length e1, .int .i64 b.lock, .int .i64 b.fee, .int .i64 b.rate] := hx.trans (by kernel_rfl)
     rw [show a'.eval (.tmp 80) = a'.tmps[80]?.getD undef by simp [Act.eval]] at hx
     have hr := KM.1.below hD
     clear KM KN G11 G13 SF OR1 OR2 AW
     refine Mix.ev rfl (fun K hK => ?_)
     refine value_ (w1 := W.alloc (.cells [.slice P0 b.ins.length e0, .slice P1 b.outs.length e1, .int .i64 b.lock, .int .i64 b.fee, .int .i64 b.rate].toArray 50)) (v := .slice (some ⟨W.heap.size, 0, none⟩) 1 1) hw rfl (by first | (go_simp; done) | (go_simp; rfl)) ?_
     refine hK.out _ _ (hh _ _ ⟨below_alloc hD _, (fun v h => by cases h; exact ⟨_, _, rfl, C5.one (hr.below (below_alloc (Below.refl _ _) _)) (blk_new W _)⟩), (fun v h => by cases h), (fun v h => by obtain ⟨A, c, e, h5⟩ := hI3 v h; exact ⟨A, c, e, h5.below (below_alloc (Below.refl _ _) _)⟩)⟩)
    case lA =>
     intro a' x z W C hw hI hx hh
     obtain ⟨hD, hI1, hI2, hI3⟩ := hI
     obtain ⟨Ax, cx, rfl, h5⟩ := hI1 x rfl
     clear KM KN G11 G13 SF OR1 OR2 AW hSS
     refine Mix.ev rfl (fun K hK => ?_)
     refine goes_ Tryz.func18 (by kernel_rfl) rfl #[.slice Ax 1 cx] hw rfl rfl (by simp [hx]) ?_
     refine (flats_calls [b] 1 rfl (by decide) Ax cx W h5).mono ?_
     rintro e W' ⟨A2, c2, rfl, h6, hb⟩
     refine ⟨_, rfl, hK.out _ _ (hh _ _ ⟨hD.trans (hb.mono hD.size), (fun v h => by cases h; exact ⟨_, _, rfl, h5.below hb⟩), (fun v h => by cases h; exact ⟨_, _, rfl, h6⟩), (fun v h => by obtain ⟨A, c, e, h7⟩ := hI3 v h; exact ⟨A, c, e, h7.below hb⟩)⟩)⟩
    case lL =>
     intro a' x y W C hw hI hx hh
     obtain ⟨hD, hI1, hI2, hI3⟩ := hI
     replace hx : a'.eval (.tmp 83) = .agg #[.slice Q0 b.ins.length f0, .slice Q1 b.outs.length f1, .int .i64 b.lock, .int .i64 b.fee, .int .i64 b.rate] := hx.trans (by kernel_rfl)
     rw [show a'.eval (.tmp 83) = a'.tmps[83]?.getD undef by simp [Act.eval]] at hx
     have hr := KN.1.below hD
     clear KM KN G11 G13 SF OR1 OR2 AW
     refine Mix.ev rfl (fun K hK => ?_)
     refine value_ (w1 := W.alloc (.cells [.slice Q0 b.ins.length f0, .slice Q1 b.outs.length f1, .int .i64 b.lock, .int .i64 b.fee, .int .i64 b.rate].toArray 53)) (v := .slice (some ⟨W.heap.size, 0, none⟩) 1 1) hw rfl (by first | (go_simp; done) | (go_simp; rfl)) ?_
     refine hK.out _ _ (hh _ _ ⟨below_alloc hD _, (fun v h => by obtain ⟨A, c, e, h5⟩ := hI1 v h; exact ⟨A, c, e, h5.below (below_alloc (Below.refl _ _) _)⟩), (fun v h => by obtain ⟨A, c, e, h5⟩ := hI2 v h; exact ⟨A, c, e, h5.below (below_alloc (Below.refl _ _) _)⟩), (fun v h => by cases h; exact ⟨_, _, rfl, C5.one (hr.below (below_alloc (Below.refl _ _) _)) (blk_new W _)⟩)⟩)
    intro vE vA vL W hI
    obtain ⟨hD, _, hI2, hI3⟩ := hI
    obtain ⟨A82, c82, rfl, h82⟩ := hI2 _ rfl
    obtain ⟨A84, c84, rfl, h84⟩ := hI3 _ rfl
    simp only [Act.put, ls_, l0_, l1_]
    refine Mix.ev rfl (fun K hK => ?_)
    refine goes_ Tryz.func17 (by kernel_rfl) rfl #[.slice A82 1 c82, .slice A84 1 c84] (by rfl) rfl rfl (by (try simp only [lm_, lc_, ln_]); first | done | rfl) ?_
    refine (samebatches_calls [b] 1 rfl (by decide) A82 c82 A84 c84 W h82 h84).mono ?_
    rintro e w10 ⟨rfl, hb10⟩
    have D10 := Ak (hD.trans (hb10.mono hD.size))
    refine ⟨_, rfl, hK.out _ _ ⟨SF.1 _ D10.1, ?_⟩⟩
    clear hK K hI2 hI3 h82 h84 hb10 hD D9
    simp only [Act.put, ls_, l0_, l1_]
    repeat (first | (refine Mix.sp (v := ?_) (a' := ?_) rfl (Or.inl ⟨by rfl, ?_⟩) ?_ ?_; rotate_left 2; (intro w'; go_simp; with_reducible rfl); (simp only [Act.put, ls_, l0_, l1_]; rfl)) | (refine Mix.st (v := ?_) (a' := ?_) hSS rfl (Or.inl ⟨by rfl, ?_⟩) ?_ ?_; rotate_left 2; (rintro w' ⟨s0, s1, s2, s3, s4, s5, s6, s7, s8, s9⟩; go_simp; with_reducible rfl); (simp only [Act.put, ls_, l0_, l1_]; rfl)))
    refine Mix.ev rfl (fun K hK => ?_)
    refine goes_ Tryz.func6 (by kernel_rfl) rfl #[] (by rfl) rfl rfl (by (try simp only [lm_, lc_, ln_]); first | done | rfl) ?_
    refine (AW.1 _).mono ?_
    rintro e w11 ⟨rfl, hb11⟩
    have D11 := Ak (D10.1.trans (hb11.mono D10.1.size))
    refine ⟨_, rfl, hK.out _ _ ⟨SF.1 _ D11.1, ?_⟩⟩
    clear hK K hb11 D10
    simp only [Act.put, ls_, l0_, l1_]
    repeat (first | (refine Mix.sp (v := ?_) (a' := ?_) rfl (Or.inl ⟨by rfl, ?_⟩) ?_ ?_; rotate_left 2; (intro w'; go_simp; with_reducible rfl); (simp only [Act.put, ls_, l0_, l1_]; rfl)) | (refine Mix.st (v := ?_) (a' := ?_) hSS rfl (Or.inl ⟨by rfl, ?_⟩) ?_ ?_; rotate_left 2; (rintro w' ⟨s0, s1, s2, s3, s4, s5, s6, s7, s8, s9⟩; go_simp; with_reducible rfl); (simp only [Act.put, ls_, l0_, l1_]; rfl)))
    refine Mix.dn ?_
    go_wp2
    go_ret
    exact ⟨rfl, (HW.1.trans ((HB.1.trans (D11.1.mono HB.1.size)).mono HW.1.size))⟩
end Go.Proofs.YtiodebjjbgcbhaaGreat.RfB
