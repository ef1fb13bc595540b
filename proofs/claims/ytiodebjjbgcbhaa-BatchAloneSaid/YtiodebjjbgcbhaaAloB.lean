/- coraclelaw17.BatchAlone answers true: the walk. Written by tools/bat/mkAloB.py. -/
import Derived.Test.YtiodebjjbgcbhaaSndB
import Derived.Test.YtiodebjjbgcbhaaAloA
namespace Go.Proofs.Ytiodebjjbgcbhaa.Alo
open Go.RowKit Go.Sort Go.Lib Go.Shelf Go.Proofs.Ytiodebjjbgcbhaa Go.Proofs.Ytiodebjjbgcbhaa.Snd Go.Proofs.Ytiodebjjbgcbhaa.Pure Go.Proofs.Ytiodebjjbgcbhaa.Inp Go.Proofs.Ytiodebjjbgcbhaa.Hand Go.Proofs.YtiodebjjbgcbhaaW.PrintWords Go.Proofs.YtiodebjjbgcbhaaW.PrintLast Go.Proofs.YtiodebjjbgcbhaaW.PrintMore Go.Proofs.Ytiodebjjbgcbhaa.RowK Go.Proofs.Ytiodebjjbgcbhaa.Fill Go.Proofs.Ytiodebjjbgcbhaa.OrdO Go.Proofs.Ytiodebjjbgcbhaa.QLef Go.Proofs.Ytiodebjjbgcbhaa.LefL
attribute [local go_sem ↓ high] Wide.hv44 Wide.hv33 Wide.hv37 Wide.hv38
attribute [local go_sem high] eqPt
set_option linter.unusedVariables false
set_option linter.unusedSectionVars false
set_option linter.unusedSimpArgs false
theorem info68 : (Try.prog.info? 68).map (fun i => (i.zero, i.size, i.bytes)) = some (some (.agg #[(.int .u8 0), (.int .u8 0), (.int .u8 0), (.int .u8 0), (.int .u8 0), (.int .u8 0), (.int .u8 0), (.int .u8 0), (.int .u8 0), (.int .u8 0), (.int .u8 0), (.int .u8 0), (.int .u8 0), (.int .u8 0), (.int .u8 0), (.int .u8 0), (.int .u8 0), (.int .u8 0), (.int .u8 0), (.int .u8 0), (.int .u8 0), (.int .u8 0), (.int .u8 0), (.int .u8 0), (.int .u8 0), (.int .u8 0), (.int .u8 0), (.int .u8 0), (.int .u8 0), (.int .u8 0), (.int .u8 0), (.int .u8 0), (.int .i64 0), (.int .i64 0), (.int .i64 0), (.int .i64 0), (.string ⟨#[]⟩), (.int .i64 0), (.int .i64 0), (.int .i64 0), (.int .i64 0), (.int .i64 0), (.int .i64 0), (.int .i64 0)]), 44, 136) := by kernel_rfl
set_option maxHeartbeats 16000000 in
set_option maxRecDepth 100000 in
theorem alone_calls (l : List S68) (n : Nat) (hn : l.length = n) (A : Option Addr) (c : Nat) (v b next : Int) (w : World) (hA : ReadsRow (fun x c => c = J68.enc x) 44 w A n l) (hc : n ≤ c) (bf : Bool) (kf : Nat) (hfew : coraclelaw17_few.f kf l = some bf) (hn40 : bf = true → n ≤ 40) (hK : ((l ++ [x68 v b]).map to90).all keyB = true)
 (hrest : bf = true → n ≤ 30 → (100000 ≤ v ∧ v ≤ 1099511627776) → (10000 ≤ b ∧ b ≤ 50000) → (0 ≤ next ∧ next ≤ 1000000) → (∀ (j : Nat) (h : j < l.length), oeq l[j].f0 aP = false) → ∃ B er, AAll l v b next B er) :
 Calls Try.prog 6 #[.slice A n c, .int .i64 v, .int .i64 b, .int .i64 next] w fun e w' => e = .returned (.bool true) ∧ Below w.heap.size w w' := by
 have mixed : Try.prog.follows .mixedOrders = true := by kernel_rfl
 have HB := Aside0.mk (Below.refl w.heap.size w)
 have HA := Aside0.mk hA
 have FEW := Aside0.mk (fun (W : World) (hb : Below w.heap.size w W) => (by
  have h := coraclelaw17_few.calls kf A c l bf W (row68 (by rw [hn]; exact ReadsRow.imp_ hA hb (fun _ _ h => h))) (by rw [hn]; exact hc) hfew
  rw [hn] at h
  exact h.mono (fun _ _ h => ⟨h.1, below_drawn0 h.2⟩) : Calls Try.prog 17 #[.slice A n c] W fun e w' => e = .returned (.bool bf) ∧ Below W.heap.size W w'))
 have AW := Aside0.mk awake_calls
 have ON := Aside0.mk (one_calls' 77 v b)
 have HRS := Aside0.mk hrest
 have HN4 := Aside0.mk hn40
 clear hrest hfew hn40
 by_cases hlast : bf = true ∧ decide (30 < (n : Int)) = false ∧ decide (v < 100000) = false ∧ decide (1099511627776 < v) = false ∧ decide (b < 10000) = false ∧ decide (50000 < b) = false ∧ decide (next < 0) = false ∧ decide (1000000 < next) = false
 rotate_left
 ·have ways2 : bf = false ∨ bf = true ∧ (decide (30 < (n : Int)) = true ∨ decide (30 < (n : Int)) = false ∧ (decide (v < 100000) = true ∨ decide (v < 100000) = false ∧ (decide (1099511627776 < v) = true ∨ decide (1099511627776 < v) = false ∧ (decide (b < 10000) = true ∨ decide (b < 10000) = false ∧ (decide (50000 < b) = true ∨ decide (50000 < b) = false ∧ (decide (next < 0) = true ∨ decide (next < 0) = false ∧ (decide (1000000 < next) = true))))))) := by 
   cases hb0 : bf with
   | false => exact .inl rfl
   | true =>
    refine .inr ⟨rfl, ?_⟩
    cases e0 : decide (30 < (n : Int)) with
    | true => exact .inl rfl
    | false =>
     refine .inr ⟨rfl, ?_⟩
     cases e1 : decide (v < 100000) with
     | true => exact .inl rfl
     | false =>
      refine .inr ⟨rfl, ?_⟩
      cases e2 : decide (1099511627776 < v) with
      | true => exact .inl rfl
      | false =>
       refine .inr ⟨rfl, ?_⟩
       cases e3 : decide (b < 10000) with
       | true => exact .inl rfl
       | false =>
        refine .inr ⟨rfl, ?_⟩
        cases e4 : decide (50000 < b) with
        | true => exact .inl rfl
        | false =>
         refine .inr ⟨rfl, ?_⟩
         cases e5 : decide (next < 0) with
         | true => exact .inl rfl
         | false =>
          refine .inr ⟨rfl, ?_⟩
          cases e6 : decide (1000000 < next) with
          | true => exact rfl
          | false =>
           exact absurd ⟨hb0, e0, e1, e2, e3, e4, e5, e6⟩ hlast
  rcases ways2 with rfl | ⟨rfl, d0 | ⟨d0, d1 | ⟨d1, d2 | ⟨d2, d3 | ⟨d3, d4 | ⟨d4, d5 | ⟨d5, d6⟩⟩⟩⟩⟩⟩⟩ <;> (go_enter Try.func6, Try.ntmps6; go_wp2_with (first | (go_at_call 17; (with_reducible refine (FEW.out _ HB.out).mono ?_); rintro e w1 ⟨rfl, hb⟩; replace HB := Aside0.mk (below_step HB.out hb); clear hb) | (go_at_call 18; (with_reducible refine (AW.out _).mono ?_); rintro e w1 ⟨rfl, hb⟩; replace HB := Aside0.mk (below_step HB.out hb); clear hb)); go_ret; exact ⟨rfl, HB.out⟩)
 ·obtain ⟨rfl, d0, d1, d2, d3, d4, d5, d6⟩ := hlast
  have hn40 := HN4.out rfl
  have REST := Aside0.mk (fun h => HRS.out rfl (by have := of_decide_eq_false d0; omega) ⟨by have := of_decide_eq_false d1; omega, by have := of_decide_eq_false d2; omega⟩ ⟨by have := of_decide_eq_false d3; omega, by have := of_decide_eq_false d4; omega⟩ ⟨by have := of_decide_eq_false d5; omega, by have := of_decide_eq_false d6; omega⟩ h)
  have NX := Aside0.mk (show 0 ≤ next by have := of_decide_eq_false d5; omega)
  clear HRS HN4
  go_enter Try.func6, Try.ntmps6
  go_upto_region 3 with (first | (go_at_call 17; (with_reducible refine (FEW.out _ HB.out).mono ?_); rintro e w1 ⟨rfl, hb⟩; replace HB := Aside0.mk (below_step HB.out hb); clear hb))
  clear FEW d0 d1 d2 d3 d4 d5 d6
  have ECO := Aside0.mk (show (J68.enc (one68 77 v b)).set 5 (.int .u8 99) = J68.enc (x68 v b) from rfl)
  have ECX := Aside0.mk (show (J68.enc (x68 v b)).length = 44 ∧ (J68.enc (x68 v b)).take 33 = encPt aP from ⟨rfl, rfl⟩)
  have CO := Aside0.mk (show (J68.enc (one68 77 v b)).length = 44 ∧ (J68.enc (one68 77 v b)).toArray.toList.all (·.oneCell') = true ∧ (J68.enc (one68 77 v b))[5]? = some (.int .u8 0) from ⟨rfl, by rw [List.all_eq_true]; exact J68.h1 _, rfl⟩)
  generalize J68.enc (one68 77 v b) = co at ON ECO CO
  go_upto_region 4 with (first | ((with_reducible refine gate_callee (f := 25) rfl ?_); refine goesL_ (some 50) rfl rfl Try.func25 (by kernel_rfl) rfl #[.int .i64 77, .int .i64 v, .int .i64 b] rfl (by (try simp only [List.map_toArray, List.map_cons, List.map_nil]); first | done | rfl) ?_; refine (ON.out _).mono ?_; rintro e w2 ⟨rfl, hb⟩; refine ⟨_, rfl, ?_⟩; replace HB := Aside0.mk (below_step HB.out hb); clear hb) | ((with_reducible refine gate_dst (N := 9) rfl ?_); refine Fill.fill_event (N := 9) (x := 50) (cs := co.toArray) (t := 68) rfl rfl rfl rfl rfl rfl Try.zeroValue68 ?fs ?fz ?f1 (fun _ => rfl) (fun _ => rfl) ?_; (case fs => intro W; rw [List.size_toArray, CO.out.1]; exact Try.sizeOf68 W); (case fz => refine Eq.trans (b := 44) rfl ?_; rw [List.size_toArray, CO.out.1]); (case f1 => exact CO.out.2.1); intro gx hgx w3 hbox hb; have HX := Aside0.mk hbox; have GX := Aside0.mk (show w.heap.size ≤ gx by rw [hgx]; exact HB.out.size); replace HB := Aside0.mk (below_step HB.out hb); clear hbox hgx hb))
  have KX : w3.cell? ⟨gx, 5, none⟩ = some (.int .u8 0) := (blk_cell HX.out 5).trans (by simpa using CO.out.2.2)
  have FX : w3.frozen? ⟨gx, 5, none⟩ = false := blk_frozen HX.out 5
  have hu68 := Try.underlying68
  have hu34 := Try.underlying34
  have hu32 := Try.underlying32
  go_upto_region 5 with (fail)
  clear KX FX
  generalize hcx : J68.enc (x68 v b) = cx at ECO ECX
  replace HX := Aside0.mk (blk_put HX.out 5 (.int .u8 99) (cs' := cx.toArray) (by rw [List.setIfInBounds_toArray, ECO.out]))
  replace HB := Aside0.mk (below_set (j := 5) (v := .int .u8 99) HB.out GX.out)
  have EX := Aside0.mk hcx
  clear hcx ECO CO ON
  generalize w3.setCell ⟨gx, 5, none⟩ (.int .u8 99) = w4 at HX HB ⊢
  go_wp2
  go_loopg [10] n (fun kq v10 wr => ∃ i : Nat, v10 = .int .i64 i ∧ i ≤ n ∧ n - i ≤ kq ∧ Aside0 (∀ j, j < i → ∀ h : j < l.length, oeq l[j].f0 aP = false) ∧ Aside0 (wr.heap[gx]? = some (.cells cx.toArray 68 (0, 0))) ∧ Aside0 (Below w.heap.size w wr))
  case atStart => exact ⟨0, rfl, Nat.zero_le _, Nat.le_refl _, ⟨fun j hj => absurd hj (Nat.not_lt_zero _)⟩, HX, HB⟩
  case round =>
   clear HX HB
   obtain ⟨i, rfl, hi, hkq, NO, HX, HB⟩ := hrel
   by_cases hil : i < n
   ·have hiz : (i : Int) < (n : Int) := by omega
    have hil2 : i < l.length := by omega
    obtain ⟨adL, eL, hLc⟩ := HA.out.2.2 (by omega)
    subst eL
    clear hLc
    have L1 : ∀ dd os, Sem.run Try.prog (Wide.heavy0 (adL.add (i * 44)) 33) (grow (redrawn wr dd) os) = .ok (encPt l[i].f0).toArray (grow (redrawn wr dd) os) := fun dd os => reads_pre (m := 33) J68.hk (by decide) HA.out (HB.out.trans ((below_regrown wr dd os).mono HB.out.size)) rfl (List.getElem?_eq_getElem hil2) (by omega)
    have L2 : ∀ dd os, Sem.run Try.prog (Wide.heavy0 ⟨gx, 0, none⟩ 33) (grow (redrawn wr dd) os) = .ok (encPt aP).toArray (grow (redrawn wr dd) os) := fun dd os => row_load (blk_below HX.out (below_regrown wr dd os)) 0 33 _ rfl (by rw [List.drop_zero]; exact ECX.out.2)
    obtain ⟨oq, hoq⟩ : ∃ q, oeq l[i].f0 aP = q := ⟨_, rfl⟩
    have OQ := Aside0.mk (show ∀ h : i < l.length, oeq l[i].f0 aP = oq from fun _ => hoq)
    generalize l[i].f0 = pj at L1 hoq
    generalize aP = px at L2 hoq
    cases oq with
    | true =>
     go_wp2_with fail
     refine wp_region_quiet_below mixed (by kernel_rfl) ?_
     repeat (quiet_step (fail))
     refine wpQuiet_nil ?_
     intro _ hw'
     obtain ⟨⟨nq, osq⟩, hw''⟩ := hw'
     subst hw''
     replace HB := Aside0.mk (below_step HB.out (below_regrown wr nq osq))
     clear L1 L2
     generalize grow (redrawn wr nq) osq = wp at HB ⊢
     go_wp2_with (first | (go_at_call 18; (with_reducible refine (AW.out _).mono ?_); rintro e w1 ⟨rfl, hb⟩; replace HB := Aside0.mk (below_step HB.out hb); clear hb))
     go_ret
     exact ⟨rfl, HB.out⟩
    | false =>
     go_wp2_with fail
     refine wp_region_quiet_below mixed (by kernel_rfl) ?_
     repeat (quiet_step (fail))
     refine wpQuiet_nil ?_
     intro _ hw'
     obtain ⟨⟨nq, osq⟩, hw''⟩ := hw'
     subst hw''
     replace HX := Aside0.mk (blk_below HX.out (below_regrown wr nq osq))
     replace HB := Aside0.mk (below_step HB.out (below_regrown wr nq osq))
     clear L1 L2
     generalize grow (redrawn wr nq) osq = wp at HX HB ⊢
     go_wp2
     go_roundg (n - (i + 1))
     case measure => omega
     case rel =>
      refine ⟨i + 1, by first | rfl | go_num, by omega, by omega, ⟨fun j hj h => ?_⟩, HX, HB⟩
      by_cases hji : j = i
      ·subst hji; exact OQ.out h
      ·exact NO.out j (by omega) h
   ·obtain rfl : i = n := by omega
    obtain ⟨B, er, AL⟩ := REST.out (fun j h => NO.out j (by omega) h)
    have MDF := Aside0.mk (show coraclelaw17_mades.f (l.length + 3) (([] ++ l) ++ [x68 v b]) = some ((l ++ [x68 v b]).map to90) from mades_f (l ++ [x68 v b]) (by rw [List.length_append, List.length_singleton]; omega) _ (by rw [List.length_append, List.length_singleton]; omega))
    have ALC := Aside0.mk (fun (V : World) (A' : Option Addr) (c' : Nat) (hr : Kd.C k90 V A' ((l ++ [x68 v b]).map to90).length ((l ++ [x68 v b]).map to90)) => (by
     have h := all90 (c := c') hr (by rw [List.length_map, List.length_append, List.length_singleton]; omega) hK next 400000 1
     rw [AL.all] at h
     exact h : Calls Try.prog 19 #[.slice A' ((l ++ [x68 v b]).map to90).length c', .int .i64 next, .int .i64 400000, .int .i64 1] V fun e w' => AllR V e w' (B, er)))
    have AF := Aside0.mk AL
    clear AL REST hK
    go_upto_region 10 with (fail)
    replace HX := Aside0.mk (blk_drew HX.out)
    replace HB := Aside0.mk (below_drew1 HB.out)
    refine start_ (n := 14) (S := (fun w' => Sem.run Try.prog (Wide.heavy0 ⟨gx, 0, none⟩ 44) w' = .ok cx.toArray w')) (ds := []) #[false, false, false, false, false, false, false, false, false, false, false, false, false, false] (by kernel_rfl) rfl rfl (row_load HX.out 0 44 cx ECX.out.1 (by rw [List.drop_zero]; exact List.take_of_length_le (by rw [ECX.out.1]; exact Nat.le_refl _))) (fun hHeld => ?_)
    generalize wr.drew = w5 at HX HB hHeld ⊢
    refine pure_ (i := 1) (N := some 71) (v := ?_) (a' := ?_) #[false, true, false, false, false, false, false, false, false, false, false, false, false, false] rfl rfl (by kernel_rfl) (fun _ _ _ h => h) (Or.inl ⟨by rfl, ?_⟩) ?_ ?_
    rotate_left
    ·intro w'
     go_simp
     with_reducible rfl
    rotate_left
    ·simp only [Act.put, List.setIfInBounds_toArray, List.set_cons_zero, List.set_cons_succ, i64_w, i32_w]
     rfl
    refine pure_ (i := 7) (N := some 77) (v := ?_) (a' := ?_) #[false, true, false, false, false, false, false, true, false, false, false, false, false, false] rfl rfl (by kernel_rfl) (fun _ _ _ h => h) (Or.inl ⟨by rfl, ?_⟩) ?_ ?_
    rotate_left
    ·intro w'
     go_simp
     with_reducible rfl
    rotate_left
    ·simp only [Act.put, List.setIfInBounds_toArray, List.set_cons_zero, List.set_cons_succ, i64_w, i32_w]
     rfl
    refine take_ (i := 3) (N := some 73) (v := ?_) (a' := ?_) #[false, true, false, true, false, false, false, true, false, false, false, false, false, false] rfl rfl (by kernel_rfl) (fun _ _ _ h => h) (Or.inl ⟨by rfl, ?_⟩) hHeld ?_ ?_
    rotate_left
    ·rintro w' h
     go_simp
     with_reducible rfl
    rotate_left
    ·simp only [Act.put, List.setIfInBounds_toArray, List.set_cons_zero, List.set_cons_succ, i64_w, i32_w]
     rfl
    refine join_ (σ := Value × Value × Value) 8 #[true, true, true, true, true, false, false, true, false, false, false, false, false, false] (fun s_ => [(70, s_.1), (72, s_.2.1), (74, s_.2.2)]) (fun s_ w' => (Sem.run Try.prog (Wide.heavy0 ⟨gx, 0, none⟩ 44) w' = .ok cx.toArray w') ∧ (Kd.R k68 68 w' w.heap.size (fun k_ => some k_ ≠ (s_.2.2 : Value).ownBlock ∧ k_ ≠ gx) s_.2.1 ([] ++ l)) ∧ (Kd.R k68 68 w' w.heap.size (fun k_ => some k_ ≠ (s_.2.1 : Value).ownBlock ∧ k_ ≠ gx) s_.2.2 [x68 v b]) ∧ (w'.heap[gx]? = some (.cells cx.toArray 68 (0, 0))) ∧ (Below w.heap.size w w')) ?_ ?_
    rotate_left
    ·intro hCont
     refine two_ (i := 0) (j := 4) (Ni := some 70) (Nj := some 74) #[true, true, false, true, false, false, false, true, false, false, false, false, false, false] #[false, true, false, true, true, false, false, true, false, false, false, false, false, false] rfl rfl rfl rfl (by kernel_rfl) (by decide) (by decide) (fun K hK => ?_) (fun K hK => ?_)
     ·refine Kd.R_lit_step k68 _ 68 ?hg (N := 70) ?hd (xs := ([] : List S68)) (inner := []) (ok := fun _ => True) (okp := fun _ => True) ?hr ?hp (fun _ hk => hk) trivial (Below.refl _ _) (Nat.le_refl _) (by simp) ?_; (case hd => rfl); (case hg => rfl); (case hr => first | (go_simp; done) | (go_simp; rfl)); (case hp => exact (Reps.none _ _))
      intro v70 wa ho hb hg_ hnew_
      clear hg_ hnew_
      have R70 := Aside0.mk (Kd.R_lower (Kd.R_newB ho (g := gx) (o := .cells cx.toArray 68 (0, 0)) HX.out) HB.out.size)
      replace HX := Aside0.mk (blk_below (g := gx) (o := .cells cx.toArray 68 (0, 0)) HX.out hb)
      replace HB := Aside0.mk (below_step HB.out hb)
      clear hb ho
      refine hK.out _ _ (row_load HX.out 0 44 cx ECX.out.1 (by rw [List.drop_zero]; exact List.take_of_length_le (by rw [ECX.out.1]; exact Nat.le_refl _))) (fun hHeld => ?_)
      clear hK K
      refine norm_ (a' := ?_) ?_ ?_
      rotate_left
      ·show Act.put _ (some 70) _ = _
       simp only [Act.put, List.setIfInBounds_toArray, List.set_cons_zero, List.set_cons_succ, i64_w, i32_w]
       rfl
      refine two_ (i := 2) (j := 4) (Ni := some 72) (Nj := some 74) #[true, true, true, true, false, false, false, true, false, false, false, false, false, false] #[true, true, false, true, true, false, false, true, false, false, false, false, false, false] rfl rfl rfl rfl (by kernel_rfl) (by decide) (by decide) (fun K hK => ?_) (fun K hK => ?_)
      ·refine Kd.R_append_rows_step k68 (w0 := w) w.heap.size (by rfl) (.tmp 70) (.tmp 71) 52 68 (.agg #[(.int .u8 0), (.int .u8 0), (.int .u8 0), (.int .u8 0), (.int .u8 0), (.int .u8 0), (.int .u8 0), (.int .u8 0), (.int .u8 0), (.int .u8 0), (.int .u8 0), (.int .u8 0), (.int .u8 0), (.int .u8 0), (.int .u8 0), (.int .u8 0), (.int .u8 0), (.int .u8 0), (.int .u8 0), (.int .u8 0), (.int .u8 0), (.int .u8 0), (.int .u8 0), (.int .u8 0), (.int .u8 0), (.int .u8 0), (.int .u8 0), (.int .u8 0), (.int .u8 0), (.int .u8 0), (.int .u8 0), (.int .u8 0), (.int .i64 0), (.int .i64 0), (.int .i64 0), (.int .i64 0), (.string ⟨#[]⟩), (.int .i64 0), (.int .i64 0), (.int .i64 0), (.int .i64 0), (.int .i64 0), (.int .i64 0), (.int .i64 0)]) 136 rfl Try.underlying52 info68 rfl (by decide) (by omega) v70 [] l _ _ _ (fun k_ => k_ ≠ gx) (fun _ => False) rfl rfl ?aO ?aR (fun _ _ h => h) (fun _ h => h.elim) ?aF ?aB ?aS ?aL ?_
       (case aR => exact row68 (ReadsRow.imp_ HA.out HB.out (fun _ _ h => h)))
       (case aB => exact HB.out)
       (case aF => exact (fun k_ hk => Kd.freshB (g := gx) (o := .cells cx.toArray 68 (0, 0)) HX.out k_ hk))
       (case aO => exact Kd.R_mono R70.out (fun _ hk => hk.2))
       (case aS => exact HB.out.size)
       (case aL => simp only [List.length_nil]; omega)
       intro v72 wb ho hb hg hat
       replace HX := Aside0.mk (blk_grown (g := gx) (o := .cells cx.toArray 68 (0, 0)) HX.out hg (Kd.R_away R70.out (fun _ hk => hk.2)))
       replace HB := Aside0.mk hb
       have R72 := Aside0.mk ho
       clear R70
       clear ho hb hg hat
       refine hK.out _ _ (row_load HX.out 0 44 cx ECX.out.1 (by rw [List.drop_zero]; exact List.take_of_length_le (by rw [ECX.out.1]; exact Nat.le_refl _))) (fun hHeld => ?_)
       clear hK K
       refine norm_ (a' := ?_) ?_ ?_
       rotate_left
       ·show Act.put _ (some 72) _ = _
        simp only [Act.put, List.setIfInBounds_toArray, List.set_cons_zero, List.set_cons_succ, i64_w, i32_w]
        rfl
       refine one_ (i := 4) (N := some 74) #[true, true, true, true, true, false, false, true, false, false, false, false, false, false] rfl rfl (by kernel_rfl) (by decide) (fun K hK => ?_)
       refine Kd.R_lit_step k68 _ 68 ?hg (N := 74) ?hd (xs := ([x68 v b] : List S68)) (inner := cx) (ok := fun _ => True) (okp := fun _ => True) ?hr ?hp (fun _ hk => hk) trivial (Below.refl _ _) (Nat.le_refl _) (by simp) ?_
       (case hd => rfl)
       (case hg => rfl)
       (case hr => obtain ⟨q0, q1, q2, q3, q4, q5, q6, q7, q8, q9, q10, q11, q12, q13, q14, q15, q16, q17, q18, q19, q20, q21, q22, q23, q24, q25, q26, q27, q28, q29, q30, q31, q32, q33, q34, q35, q36, q37, q38, q39, q40, q41, q42, q43, rfl⟩ := list44 ECX.out.1; first | (go_simp; done) | (go_simp; rfl))
       (case hp => exact Reps.front (show Kd.M k68 _ _ _ (x68 v b) cx by rw [← EX.out]; exact k68_mkM _ _ _ _) ECX.out.1 (Reps.none _ _) (List.append_nil _))
       intro v74 wc ho hb hg_ hnew_
       clear hg_ hnew_
       have R74 := Aside0.mk (Kd.R_lower (Kd.R_newB (Kd.R_new' ho (Kd.R_lt R72.out)) (g := gx) (o := .cells cx.toArray 68 (0, 0)) HX.out) HB.out.size)
       replace R72 := Aside0.mk (Kd.R_elder' R72.out (Kd.R_base ho) hb)
       replace HX := Aside0.mk (blk_below (g := gx) (o := .cells cx.toArray 68 (0, 0)) HX.out hb)
       replace HB := Aside0.mk (below_step HB.out hb)
       clear hb ho
       refine hK.out _ _ (row_load HX.out 0 44 cx ECX.out.1 (by rw [List.drop_zero]; exact List.take_of_length_le (by rw [ECX.out.1]; exact Nat.le_refl _))) (fun hHeld => ?_)
       clear hK K
       refine norm_ (a' := ?_) ?_ ?_
       rotate_left
       ·show Act.put _ (some 74) _ = _
        simp only [Act.put, List.setIfInBounds_toArray, List.set_cons_zero, List.set_cons_succ, i64_w, i32_w]
        rfl
       exact norm_ (by simp only [putAll, Act.put, List.setIfInBounds_toArray, List.set_cons_zero, List.set_cons_succ]) (hCont (v70, v72, v74) _ ⟨hHeld, Kd.R_mono R72.out (fun _ hk => ⟨hk.2, hk.1⟩), Kd.R_mono R74.out (fun _ hk => ⟨hk.1.2, hk.2⟩), HX.out, HB.out⟩)
      ·refine Kd.R_lit_step k68 _ 68 ?hg (N := 74) ?hd (xs := ([x68 v b] : List S68)) (inner := cx) (ok := fun _ => True) (okp := fun _ => True) ?hr ?hp (fun _ hk => hk) trivial (Below.refl _ _) (Nat.le_refl _) (by simp) ?_
       (case hd => rfl)
       (case hg => rfl)
       (case hr => obtain ⟨q0, q1, q2, q3, q4, q5, q6, q7, q8, q9, q10, q11, q12, q13, q14, q15, q16, q17, q18, q19, q20, q21, q22, q23, q24, q25, q26, q27, q28, q29, q30, q31, q32, q33, q34, q35, q36, q37, q38, q39, q40, q41, q42, q43, rfl⟩ := list44 ECX.out.1; first | (go_simp; done) | (go_simp; rfl))
       (case hp => exact Reps.front (show Kd.M k68 _ _ _ (x68 v b) cx by rw [← EX.out]; exact k68_mkM _ _ _ _) ECX.out.1 (Reps.none _ _) (List.append_nil _))
       intro v74 wc ho hb hg_ hnew_
       clear hg_ hnew_
       have R74 := Aside0.mk (Kd.R_lower (Kd.R_newB (Kd.R_new' ho (Kd.R_lt R70.out)) (g := gx) (o := .cells cx.toArray 68 (0, 0)) HX.out) HB.out.size)
       replace R70 := Aside0.mk (Kd.R_elder' R70.out (Kd.R_base ho) hb)
       replace HX := Aside0.mk (blk_below (g := gx) (o := .cells cx.toArray 68 (0, 0)) HX.out hb)
       replace HB := Aside0.mk (below_step HB.out hb)
       clear hb ho
       refine hK.out _ _ (row_load HX.out 0 44 cx ECX.out.1 (by rw [List.drop_zero]; exact List.take_of_length_le (by rw [ECX.out.1]; exact Nat.le_refl _))) (fun hHeld => ?_)
       clear hK K
       refine norm_ (a' := ?_) ?_ ?_
       rotate_left
       ·show Act.put _ (some 74) _ = _
        simp only [Act.put, List.setIfInBounds_toArray, List.set_cons_zero, List.set_cons_succ, i64_w, i32_w]
        rfl
       refine one_ (i := 2) (N := some 72) #[true, true, true, true, true, false, false, true, false, false, false, false, false, false] rfl rfl (by kernel_rfl) (by decide) (fun K hK => ?_)
       refine Kd.R_append_rows_step k68 (w0 := w) w.heap.size (by rfl) (.tmp 70) (.tmp 71) 52 68 (.agg #[(.int .u8 0), (.int .u8 0), (.int .u8 0), (.int .u8 0), (.int .u8 0), (.int .u8 0), (.int .u8 0), (.int .u8 0), (.int .u8 0), (.int .u8 0), (.int .u8 0), (.int .u8 0), (.int .u8 0), (.int .u8 0), (.int .u8 0), (.int .u8 0), (.int .u8 0), (.int .u8 0), (.int .u8 0), (.int .u8 0), (.int .u8 0), (.int .u8 0), (.int .u8 0), (.int .u8 0), (.int .u8 0), (.int .u8 0), (.int .u8 0), (.int .u8 0), (.int .u8 0), (.int .u8 0), (.int .u8 0), (.int .u8 0), (.int .i64 0), (.int .i64 0), (.int .i64 0), (.int .i64 0), (.string ⟨#[]⟩), (.int .i64 0), (.int .i64 0), (.int .i64 0), (.int .i64 0), (.int .i64 0), (.int .i64 0), (.int .i64 0)]) 136 rfl Try.underlying52 info68 rfl (by decide) (by omega) v70 [] l _ _ _ (fun k_ => some k_ ≠ (v74 : Value).ownBlock ∧ k_ ≠ gx) (fun _ => False) rfl rfl ?aO ?aR (fun _ _ h => h) (fun _ h => h.elim) ?aF ?aB ?aS ?aL ?_
       (case aR => exact row68 (ReadsRow.imp_ HA.out HB.out (fun _ _ h => h)))
       (case aB => exact HB.out)
       (case aF => exact (fun k_ hk => ⟨Kd.fresh' (Kd.R_lt R74.out) k_ hk, Kd.freshB (g := gx) (o := .cells cx.toArray 68 (0, 0)) HX.out k_ hk⟩))
       (case aO => exact Kd.R_mono R70.out (fun _ hk => ⟨hk.2, hk.1.2⟩))
       (case aS => exact HB.out.size)
       (case aL => simp only [List.length_nil]; omega)
       intro v72 wb ho hb hg hat
       replace HX := Aside0.mk (blk_grown (g := gx) (o := .cells cx.toArray 68 (0, 0)) HX.out hg (Kd.R_away R70.out (fun _ hk => hk.1.2)))
       replace R74 := Aside0.mk (Kd.R_after (ok := (fun k_ => k_ ≠ gx)) (Kd.R_mono R74.out (fun _ hk => ⟨hk.2, hk.1.2⟩)) hg hat)
       replace HB := Aside0.mk hb
       have R72 := Aside0.mk ho
       clear R70
       clear ho hb hg hat
       refine hK.out _ _ (row_load HX.out 0 44 cx ECX.out.1 (by rw [List.drop_zero]; exact List.take_of_length_le (by rw [ECX.out.1]; exact Nat.le_refl _))) (fun hHeld => ?_)
       clear hK K
       refine norm_ (a' := ?_) ?_ ?_
       rotate_left
       ·show Act.put _ (some 72) _ = _
        simp only [Act.put, List.setIfInBounds_toArray, List.set_cons_zero, List.set_cons_succ, i64_w, i32_w]
        rfl
       exact norm_ (by simp only [putAll, Act.put, List.setIfInBounds_toArray, List.set_cons_zero, List.set_cons_succ]) (hCont (v70, v72, v74) _ ⟨hHeld, R72.out, Kd.R_mono R74.out (fun _ hk => ⟨hk.2, hk.1⟩), HX.out, HB.out⟩)
     ·refine Kd.R_lit_step k68 _ 68 ?hg (N := 74) ?hd (xs := ([x68 v b] : List S68)) (inner := cx) (ok := fun _ => True) (okp := fun _ => True) ?hr ?hp (fun _ hk => hk) trivial (Below.refl _ _) (Nat.le_refl _) (by simp) ?_
      (case hd => rfl)
      (case hg => rfl)
      (case hr => obtain ⟨q0, q1, q2, q3, q4, q5, q6, q7, q8, q9, q10, q11, q12, q13, q14, q15, q16, q17, q18, q19, q20, q21, q22, q23, q24, q25, q26, q27, q28, q29, q30, q31, q32, q33, q34, q35, q36, q37, q38, q39, q40, q41, q42, q43, rfl⟩ := list44 ECX.out.1; first | (go_simp; done) | (go_simp; rfl))
      (case hp => exact Reps.front (show Kd.M k68 _ _ _ (x68 v b) cx by rw [← EX.out]; exact k68_mkM _ _ _ _) ECX.out.1 (Reps.none _ _) (List.append_nil _))
      intro v74 wc ho hb hg_ hnew_
      clear hg_ hnew_
      have R74 := Aside0.mk (Kd.R_lower (Kd.R_newB ho (g := gx) (o := .cells cx.toArray 68 (0, 0)) HX.out) HB.out.size)
      replace HX := Aside0.mk (blk_below (g := gx) (o := .cells cx.toArray 68 (0, 0)) HX.out hb)
      replace HB := Aside0.mk (below_step HB.out hb)
      clear hb ho
      refine hK.out _ _ (row_load HX.out 0 44 cx ECX.out.1 (by rw [List.drop_zero]; exact List.take_of_length_le (by rw [ECX.out.1]; exact Nat.le_refl _))) (fun hHeld => ?_)
      clear hK K
      refine norm_ (a' := ?_) ?_ ?_
      rotate_left
      ·show Act.put _ (some 74) _ = _
       simp only [Act.put, List.setIfInBounds_toArray, List.set_cons_zero, List.set_cons_succ, i64_w, i32_w]
       rfl
      refine one_ (i := 0) (N := some 70) #[true, true, false, true, true, false, false, true, false, false, false, false, false, false] rfl rfl (by kernel_rfl) (by decide) (fun K hK => ?_)
      refine Kd.R_lit_step k68 _ 68 ?hg (N := 70) ?hd (xs := ([] : List S68)) (inner := []) (ok := fun _ => True) (okp := fun _ => True) ?hr ?hp (fun _ hk => hk) trivial (Below.refl _ _) (Nat.le_refl _) (by simp) ?_; (case hd => rfl); (case hg => rfl); (case hr => first | (go_simp; done) | (go_simp; rfl)); (case hp => exact (Reps.none _ _))
      intro v70 wa ho hb hg_ hnew_
      clear hg_ hnew_
      have R70 := Aside0.mk (Kd.R_lower (Kd.R_newB (Kd.R_new' ho (Kd.R_lt R74.out)) (g := gx) (o := .cells cx.toArray 68 (0, 0)) HX.out) HB.out.size)
      replace R74 := Aside0.mk (Kd.R_elder' R74.out (Kd.R_base ho) hb)
      replace HX := Aside0.mk (blk_below (g := gx) (o := .cells cx.toArray 68 (0, 0)) HX.out hb)
      replace HB := Aside0.mk (below_step HB.out hb)
      clear hb ho
      refine hK.out _ _ (row_load HX.out 0 44 cx ECX.out.1 (by rw [List.drop_zero]; exact List.take_of_length_le (by rw [ECX.out.1]; exact Nat.le_refl _))) (fun hHeld => ?_)
      clear hK K
      refine norm_ (a' := ?_) ?_ ?_
      rotate_left
      ·show Act.put _ (some 70) _ = _
       simp only [Act.put, List.setIfInBounds_toArray, List.set_cons_zero, List.set_cons_succ, i64_w, i32_w]
       rfl
      refine one_ (i := 2) (N := some 72) #[true, true, true, true, true, false, false, true, false, false, false, false, false, false] rfl rfl (by kernel_rfl) (by decide) (fun K hK => ?_)
      refine Kd.R_append_rows_step k68 (w0 := w) w.heap.size (by rfl) (.tmp 70) (.tmp 71) 52 68 (.agg #[(.int .u8 0), (.int .u8 0), (.int .u8 0), (.int .u8 0), (.int .u8 0), (.int .u8 0), (.int .u8 0), (.int .u8 0), (.int .u8 0), (.int .u8 0), (.int .u8 0), (.int .u8 0), (.int .u8 0), (.int .u8 0), (.int .u8 0), (.int .u8 0), (.int .u8 0), (.int .u8 0), (.int .u8 0), (.int .u8 0), (.int .u8 0), (.int .u8 0), (.int .u8 0), (.int .u8 0), (.int .u8 0), (.int .u8 0), (.int .u8 0), (.int .u8 0), (.int .u8 0), (.int .u8 0), (.int .u8 0), (.int .u8 0), (.int .i64 0), (.int .i64 0), (.int .i64 0), (.int .i64 0), (.string ⟨#[]⟩), (.int .i64 0), (.int .i64 0), (.int .i64 0), (.int .i64 0), (.int .i64 0), (.int .i64 0), (.int .i64 0)]) 136 rfl Try.underlying52 info68 rfl (by decide) (by omega) v70 [] l _ _ _ (fun k_ => some k_ ≠ (v74 : Value).ownBlock ∧ k_ ≠ gx) (fun _ => False) rfl rfl ?aO ?aR (fun _ _ h => h) (fun _ h => h.elim) ?aF ?aB ?aS ?aL ?_
      (case aR => exact row68 (ReadsRow.imp_ HA.out HB.out (fun _ _ h => h)))
      (case aB => exact HB.out)
      (case aF => exact (fun k_ hk => ⟨Kd.fresh' (Kd.R_lt R74.out) k_ hk, Kd.freshB (g := gx) (o := .cells cx.toArray 68 (0, 0)) HX.out k_ hk⟩))
      (case aO => exact Kd.R_mono R70.out (fun _ hk => ⟨hk.1.2, hk.2⟩))
      (case aS => exact HB.out.size)
      (case aL => simp only [List.length_nil]; omega)
      intro v72 wb ho hb hg hat
      replace HX := Aside0.mk (blk_grown (g := gx) (o := .cells cx.toArray 68 (0, 0)) HX.out hg (Kd.R_away R70.out (fun _ hk => hk.2)))
      replace R74 := Aside0.mk (Kd.R_after (ok := (fun k_ => k_ ≠ gx)) (Kd.R_mono R74.out (fun _ hk => ⟨hk.1.2, hk.2⟩)) hg hat)
      replace HB := Aside0.mk hb
      have R72 := Aside0.mk ho
      clear R70
      clear ho hb hg hat
      refine hK.out _ _ (row_load HX.out 0 44 cx ECX.out.1 (by rw [List.drop_zero]; exact List.take_of_length_le (by rw [ECX.out.1]; exact Nat.le_refl _))) (fun hHeld => ?_)
      clear hK K
      refine norm_ (a' := ?_) ?_ ?_
      rotate_left
      ·show Act.put _ (some 72) _ = _
       simp only [Act.put, List.setIfInBounds_toArray, List.set_cons_zero, List.set_cons_succ, i64_w, i32_w]
       rfl
      exact norm_ (by simp only [putAll, Act.put, List.setIfInBounds_toArray, List.set_cons_zero, List.set_cons_succ]) (hCont (v70, v72, v74) _ ⟨hHeld, R72.out, Kd.R_mono R74.out (fun _ hk => ⟨hk.2, hk.1⟩), HX.out, HB.out⟩)
    rintro ⟨v70, v72, v74⟩ w6 ⟨hHeld, h0_, h1_, h2_, h3_⟩
    have R72 := Aside0.mk h0_
    have R74 := Aside0.mk h1_
    replace HX := Aside0.mk h2_
    replace HB := Aside0.mk h3_
    clear h0_ h1_ h2_ h3_
    obtain ⟨A74, c74, e74⟩ := Kd.R_slice R74.out
    (first | subst e74 | (injection e74 with f1_ f2_ f3_; have f4_ := f1_.symm; have f5_ := f3_.symm; clear f1_ f2_ f3_; subst f4_; subst f5_))
    refine norm_ (a' := ?_) ?_ ?_
    rotate_left
    ·simp only [putAll, Act.put, List.setIfInBounds_toArray, List.set_cons_zero, List.set_cons_succ]
     rfl
    refine one_ (i := 5) (N := some 75) #[true, true, true, true, true, true, false, true, false, false, false, false, false, false] rfl rfl (by kernel_rfl) (by decide) (fun K hK => ?_)
    refine Kd.R_append_rows_step k68 (w0 := w) w.heap.size (by rfl) (.tmp 72) (.tmp 74) 52 68 (.agg #[(.int .u8 0), (.int .u8 0), (.int .u8 0), (.int .u8 0), (.int .u8 0), (.int .u8 0), (.int .u8 0), (.int .u8 0), (.int .u8 0), (.int .u8 0), (.int .u8 0), (.int .u8 0), (.int .u8 0), (.int .u8 0), (.int .u8 0), (.int .u8 0), (.int .u8 0), (.int .u8 0), (.int .u8 0), (.int .u8 0), (.int .u8 0), (.int .u8 0), (.int .u8 0), (.int .u8 0), (.int .u8 0), (.int .u8 0), (.int .u8 0), (.int .u8 0), (.int .u8 0), (.int .u8 0), (.int .u8 0), (.int .u8 0), (.int .i64 0), (.int .i64 0), (.int .i64 0), (.int .i64 0), (.string ⟨#[]⟩), (.int .i64 0), (.int .i64 0), (.int .i64 0), (.int .i64 0), (.int .i64 0), (.int .i64 0), (.int .i64 0)]) 136 rfl Try.underlying52 info68 rfl (by decide) (by omega) v72 ([] ++ l) [x68 v b] _ _ _ (fun k_ => some k_ ≠ (.slice A74 [x68 v b].length c74 : Value).ownBlock ∧ k_ ≠ gx) (fun _ => False) rfl rfl ?aO ?aR (fun _ _ h => h) (fun _ h => h.elim) ?aF ?aB ?aS ?aL ?_
    (case aR => exact (Kd.R_reads' R74.out).2.2)
    (case aB => exact HB.out)
    (case aF => exact (fun k_ hk => ⟨Kd.fresh' (Kd.R_lt R74.out) k_ hk, Kd.freshB (g := gx) (o := .cells cx.toArray 68 (0, 0)) HX.out k_ hk⟩))
    (case aO => exact R72.out)
    (case aS => exact HB.out.size)
    (case aL => simp only [List.length_append, List.length_nil, List.length_singleton]; omega)
    intro v75 w7 ho hb hg hat
    replace HX := Aside0.mk (blk_grown (g := gx) (o := .cells cx.toArray 68 (0, 0)) HX.out hg (Kd.R_away R72.out (fun _ hk => hk.2)))
    replace HB := Aside0.mk hb
    have R75 := Aside0.mk ho
    clear ho hb hg hat R72 R74
    obtain ⟨A75, c75, e75⟩ := Kd.R_slice R75.out
    subst e75
    refine hK.out _ _ (row_load HX.out 0 44 cx ECX.out.1 (by rw [List.drop_zero]; exact List.take_of_length_le (by rw [ECX.out.1]; exact Nat.le_refl _))) (fun hHeld => ?_)
    clear hK K
    refine norm_ (a' := ?_) ?_ ?_
    rotate_left
    ·show Act.put _ (some 75) _ = _
     simp only [Act.put, List.setIfInBounds_toArray, List.set_cons_zero, List.set_cons_succ, i64_w, i32_w]
     rfl
    refine one_ (i := 6) (N := some 76) #[true, true, true, true, true, true, true, true, false, false, false, false, false, false] rfl rfl (by kernel_rfl) (by decide) (fun K hK => ?_)
    refine goes_ Try.func20 (by kernel_rfl) rfl #[.slice A75 (([] ++ l) ++ [x68 v b]).length c75] (by rfl) rfl rfl (by (try simp only [List.map_toArray, List.map_cons, List.map_nil]); first | done | rfl | (simp only [List.length_drop, List.length_take]; rfl)) ?_
    with_reducible refine (coraclelaw17_mades.calls _ A75 c75 _ _ _ (Kd.R_reads' R75.out).2.2 (Kd.R_reads' R75.out).2.1 MDF.out).mono ?_
    rintro e w8 ⟨v76, rfl, ho, hb⟩
    refine ⟨_, rfl, ?_⟩
    have R76 := Aside0.mk (Kd.R_lower ho HB.out.size)
    replace HX := Aside0.mk (blk_below (g := gx) (o := .cells cx.toArray 68 (0, 0)) HX.out hb)
    replace HB := Aside0.mk (below_step HB.out hb)
    clear ho hb R75
    obtain ⟨A76, c76, e76⟩ := Kd.R_slice R76.out
    subst e76
    refine hK.out _ _ (row_load HX.out 0 44 cx ECX.out.1 (by rw [List.drop_zero]; exact List.take_of_length_le (by rw [ECX.out.1]; exact Nat.le_refl _))) (fun hHeld => ?_)
    clear hK K
    refine norm_ (a' := ?_) ?_ ?_
    rotate_left
    ·show Act.put _ (some 76) _ = _
     simp only [Act.put, List.setIfInBounds_toArray, List.set_cons_zero, List.set_cons_succ, i64_w, i32_w]
     rfl
    refine one_ (i := 8) (N := some 78) #[true, true, true, true, true, true, true, true, true, false, false, false, false, false] rfl rfl (by kernel_rfl) (by decide) (fun K hK => ?_)
    refine goes_ Try.func19 (by kernel_rfl) rfl #[.slice A76 (((l ++ [x68 v b]).map to90)).length c76, .int .i64 next, .int .i64 400000, .int .i64 1] (by rfl) rfl rfl (by (try simp only [List.map_toArray, List.map_cons, List.map_nil]); first | done | rfl | (simp only [List.length_drop, List.length_take]; rfl)) ?_
    with_reducible refine (ALC.out _ A76 c76 (Kd.R_reads' R76.out).2.2).mono ?_
    rintro e w9 ⟨v78, rfl, ho, hb⟩
    refine ⟨_, rfl, ?_⟩
    have H9 := Aside0.mk (Kd.R_lower ho HB.out.size)
    replace HX := Aside0.mk (blk_below (g := gx) (o := .cells cx.toArray 68 (0, 0)) HX.out hb)
    replace HB := Aside0.mk (below_step HB.out hb)
    clear ho hb R76
    obtain ⟨A9, c9, e9⟩ := Kd.R_slice H9.out
    subst e9
    refine hK.out _ _ (row_load HX.out 0 44 cx ECX.out.1 (by rw [List.drop_zero]; exact List.take_of_length_le (by rw [ECX.out.1]; exact Nat.le_refl _))) (fun hHeld => ?_)
    clear hK K
    refine norm_ (a' := ?_) ?_ ?_
    rotate_left
    ·show Act.put _ (some 78) _ = _
     simp only [Act.put, List.setIfInBounds_toArray, List.set_cons_zero, List.set_cons_succ, i64_w, i32_w]
     rfl
    refine pure_ (i := 9) (N := some 69) (v := ?_) (a' := ?_) #[true, true, true, true, true, true, true, true, true, true, false, false, false, false] rfl rfl (by kernel_rfl) (fun _ _ _ h => h) (Or.inl ⟨by rfl, ?_⟩) ?_ ?_
    rotate_left
    ·intro w'
     go_simp
     with_reducible rfl
    rotate_left
    ·simp only [Act.put, List.setIfInBounds_toArray, List.set_cons_zero, List.set_cons_succ, i64_w, i32_w]
     rfl
    refine pure_ (i := 10) (N := some 79) (v := ?_) (a' := ?_) #[true, true, true, true, true, true, true, true, true, true, true, false, false, false] rfl rfl (by kernel_rfl) (fun _ _ _ h => h) (Or.inl ⟨by rfl, ?_⟩) ?_ ?_
    rotate_left
    ·intro w'
     go_simp
     with_reducible rfl
    rotate_left
    ·simp only [Act.put, List.setIfInBounds_toArray, List.set_cons_zero, List.set_cons_succ, i64_w, i32_w]
     rfl
    refine pure_ (i := 11) (N := some 80) (v := ?_) (a' := ?_) #[true, true, true, true, true, true, true, true, true, true, true, true, false, false] rfl rfl (by kernel_rfl) (fun _ _ _ h => h) (Or.inl ⟨by rfl, ?_⟩) ?_ ?_
    rotate_left
    ·intro w'
     go_simp
     with_reducible rfl
    rotate_left
    ·simp only [Act.put, List.setIfInBounds_toArray, List.set_cons_zero, List.set_cons_succ, i64_w, i32_w]
     rfl
    refine pure_ (i := 12) (N := some 11) (v := ?_) (a' := ?_) #[true, true, true, true, true, true, true, true, true, true, true, true, true, false] rfl rfl (by kernel_rfl) (fun _ _ _ h => h) (Or.inl ⟨by rfl, ?_⟩) ?_ ?_
    rotate_left
    ·intro w'
     go_simp
     with_reducible rfl
    rotate_left
    ·simp only [Act.put, List.setIfInBounds_toArray, List.set_cons_zero, List.set_cons_succ, i64_w, i32_w]
     rfl
    refine pure_ (i := 13) (N := some 12) (v := ?_) (a' := ?_) #[true, true, true, true, true, true, true, true, true, true, true, true, true, true] rfl rfl (by kernel_rfl) (fun _ _ _ h => h) (Or.inl ⟨by rfl, ?_⟩) ?_ ?_
    rotate_left
    ·intro w'
     go_simp
     with_reducible rfl
    rotate_left
    ·simp only [Act.put, List.setIfInBounds_toArray, List.set_cons_zero, List.set_cons_succ, i64_w, i32_w]
     rfl
    refine done_ (by kernel_rfl) ?_
    simp only [] at H9
    clear ALC MDF
    generalize (([] ++ l) ++ [x68 v b]).length = m75
    generalize ((l ++ [x68 v b]).map to90).length = m76
    generalize [x68 v b].length = m74
    obtain ⟨nb, hnb⟩ : ∃ nb, B.length = nb := ⟨_, rfl⟩
    have HBn := Aside0.mk hnb
    rw [hnb] at H9 ⊢
    clear hnb hHeld
    by_cases he : er = 0
    rotate_left
    ·obtain rfl := AF.out.six he
     clear he AF
     go_wp2_with (first | (go_at_call 18; (with_reducible refine (AW.out _).mono ?_); rintro e w1 ⟨rfl, hb⟩; replace HB := Aside0.mk (below_step HB.out hb); clear hb))
     go_ret
     exact ⟨rfl, HB.out⟩
    ·subst he
     have NB := Aside0.mk (show nb ≤ 100 by rw [← HBn.out]; exact AF.out.len rfl)
     have CNT := Aside0.mk (AF.out.cnt rfl)
     have C9 := Aside0.mk (show Kd.C k39 w9 A9 nb B by have h := (Kd.R_reads' H9.out).2.2; rwa [HBn.out] at h)
     have HBW := HB
     replace HB := Aside0.mk (Below.refl w9.heap.size w9)
     have HX9 := HX
     clear H9 HX AF
     go_wp2
     go_loopg [13, 14] nb (fun kq v13 v14 wr => ∃ (k : Nat) (s13 : Int), v14 = .int .i64 k ∧ v13 = .int .i64 s13 ∧ k ≤ nb ∧ nb - k ≤ kq ∧ Aside0 (s13 = ((B.take k).countP (fun t => t.f0.f0.any fun i => oeq i.f0 aP) : Nat)) ∧ Aside0 (Below w9.heap.size w9 wr))
     case atStart => exact ⟨0, 0, rfl, rfl, Nat.zero_le _, Nat.le_refl _, ⟨rfl⟩, HB⟩
     case round =>
      clear HB
      obtain ⟨k, s13, rfl, rfl, hk, hkq2, SM, HB⟩ := hrel
      by_cases hkl : k < nb
      ·have hkz : (k : Int) < (nb : Int) := by omega
       have hBk : k < B.length := by rw [HBn.out]; exact hkl
       obtain ⟨ad9, A0, c0, A1, c1, eA9, q0, q1, q2, q3, q4, l0, r0, l1, r1⟩ := at_T39 C9.out (k : Int) (by omega) (by omega)
       have hrd : rd_T39 B (k : Int) = B[k] := by
        unfold rd_T39
        rw [Int.toNat_natCast, List.getD_eq_getElem?_getD, List.getElem?_eq_getElem hBk]
        rfl
       rw [hrd, Int.toNat_natCast] at q0 q1 q2
       rw [hrd] at l0 r0 l1 r1
       have TK := Aside0.mk (show ((B.take (k + 1)).countP (fun t => t.f0.f0.any fun i => oeq i.f0 aP)) = (B.take k).countP (fun t => t.f0.f0.any fun i => oeq i.f0 aP) + (if (B[k].f0.f0.any fun i => oeq i.f0 aP) = true then 1 else 0) by
        rw [List.take_succ_eq_append_getElem hBk, List.countP_append, List.countP_cons, List.countP_nil, Nat.zero_add])
       have CB := Aside0.mk (show (B.take k).countP (fun t => t.f0.f0.any fun i => oeq i.f0 aP) ≤ 100 by
        have h1 := List.countP_le_length (p := fun t : S39 => t.f0.f0.any fun i => oeq i.f0 aP) (l := B.take k)
        rw [List.length_take] at h1
        have := NB.out
        omega)
       clear hrd q3 q4
       generalize B[k] = t at q0 q1 q2 l0 r0 l1 r1 TK
       subst eA9
       obtain ⟨n0, hn0⟩ : ∃ m, t.f0.f0.length = m := ⟨_, rfl⟩
       obtain ⟨n1, hn1⟩ : ∃ m, t.f0.f1.length = m := ⟨_, rfl⟩
       have SPC := Aside0.mk (fun (V : World) (hb : Below w9.heap.size w9 V) => (by
        have h := tx_Spends.calls A0 c0 t.f0.f0 A1 c1 t.f0.f1 t.f0.f2 aP.f0.f0 aP.f0.f1 aP.f0.f2 aP.f0.f3 aP.f0.f4 aP.f0.f5 aP.f0.f6 aP.f0.f7 aP.f0.f8 aP.f0.f9 aP.f0.f10 aP.f0.f11 aP.f0.f12 aP.f0.f13 aP.f0.f14 aP.f0.f15 aP.f0.f16 aP.f0.f17 aP.f0.f18 aP.f0.f19 aP.f0.f20 aP.f0.f21 aP.f0.f22 aP.f0.f23 aP.f0.f24 aP.f0.f25 aP.f0.f26 aP.f0.f27 aP.f0.f28 aP.f0.f29 aP.f0.f30 aP.f0.f31 aP.f1 _ V (rowIn (ReadsRow.imp_ (readsIn r0) hb (fun _ _ h => h))) l0 (rowOut (ReadsRow.imp_ (readsOut r1) hb (fun _ _ h => h))) l1 rfl
        rw [hn0, hn1] at h
        exact h : Calls Try.prog 26 #[.agg #[.slice A0 n0 c0, .slice A1 n1 c1, .int .i64 t.f0.f2], .agg (encPt aP).toArray] V fun e w' => e = .returned (.int .i64 (FindQ.firstOf (fun x => oeq x.f0 aP) t.f0.f0)) ∧ Below V.heap.size V w'))
       have FN := Aside0.mk (FindQ.firstOf_nonneg (fun x : S38 => oeq x.f0 aP) t.f0.f0)
       rw [hn0] at q0
       rw [hn1] at q1
       generalize FindQ.firstOf (fun x : S38 => oeq x.f0 aP) t.f0.f0 = fq at SPC FN
       have QQ := Aside0.mk (fun (V : World) (hb : Below w9.heap.size w9 V) => And.intro ((hb.cell (World.block_lt_of_cell? w9 _ q0)).trans q0) (And.intro ((hb.cell (World.block_lt_of_cell? w9 _ q1)).trans q1) ((hb.cell (World.block_lt_of_cell? w9 _ q2)).trans q2)))
       clear q0 q1 q2 l0 r0 l1 r1 hn0 hn1
       go_upto_region 17 with (fail)
       have g0 := fun dd os => QQ.out (grow (redrawn wr dd) os) (HB.out.trans ((below_regrown wr dd os).mono HB.out.size))
       have e0 := fun dd os => (g0 dd os).1
       have e1 := fun dd os => (g0 dd os).2.1
       have e2 := fun dd os => (g0 dd os).2.2
       have L2 : ∀ dd os, Sem.run Try.prog (Wide.heavy0 ⟨gx, 0, none⟩ 33) (grow (redrawn wr dd) os) = .ok (encPt aP).toArray (grow (redrawn wr dd) os) := fun dd os => row_load (blk_below (blk_below HX9.out HB.out) (below_regrown wr dd os)) 0 33 _ rfl (by rw [List.drop_zero]; exact ECX.out.2)
       have SP := fun dd os => SPC.out (grow (redrawn wr dd) os) (HB.out.trans ((below_regrown wr dd os).mono HB.out.size))
       clear g0
       generalize encPt aP = pc at L2 SP
       have en := enters_of Try.func26 (by kernel_rfl) rfl
       refine wp_region_quiet_below mixed (by kernel_rfl) ?_
       repeat (quiet_step (first | exact Calls.regrown_of (SP _ _)))
       refine wpQuiet_nil ?_
       intro _ hw'
       obtain ⟨⟨nq, osq⟩, hw''⟩ := hw'
       subst hw''
       replace HB := Aside0.mk (below_step HB.out (below_regrown wr nq osq))
       clear e0 e1 e2 L2 SP en
       generalize grow (redrawn wr nq) osq = wp at HB ⊢
       have hs := SM.out
       have hcb := CB.out
       by_cases hf : 0 ≤ fq
       ·have hf0 : decide (0 ≤ fq) = true := decide_eq_true hf
        have hf1 := eq_true hf
        have hw1 : IntKind.i64.wrap (s13 + 1) = s13 + 1 := by rw [IntKind.wrap_i64]; omega
        have nb1 := NB.out
        clear hs hcb
        go_wp2
        go_roundg (nb - (k + 1))
        case measure => omega
        case rel =>
         refine ⟨k + 1, s13 + 1, by first | rfl | go_num, rfl, by omega, by omega, ⟨?_⟩, HB⟩
         rw [TK.out, FN.out, if_pos hf0, SM.out]
         omega
       ·have hf0 : decide (0 ≤ fq) = false := decide_eq_false hf
        have hf1 := eq_false hf
        have nb1 := NB.out
        clear hs hcb
        go_wp2
        go_roundg (nb - (k + 1))
        case measure => omega
        case rel =>
         refine ⟨k + 1, s13, by first | rfl | go_num, rfl, by omega, by omega, ⟨?_⟩, HB⟩
         rw [TK.out, FN.out, if_neg (by rw [hf0]; decide), SM.out]
         omega
      ·obtain rfl : k = nb := by omega
       have hs : s13 = min (max next 0) 1 := by
        have h1 := SM.out
        have h2 := CNT.out
        rw [List.take_of_length_le (by rw [HBn.out]; exact Nat.le_refl _), h2] at h1
        have := NX.out
        split at h1 <;> omega
       have hs0 : (s13 == min (max next 0) 1) = true := by rw [hs]; exact beq_self_eq_true _
       have hs1 := eq_true hs
       clear hs
       go_wp2_with (first | (go_at_call 18; (with_reducible refine (AW.out _).mono ?_); rintro e w1 ⟨rfl, hb⟩; replace HB := Aside0.mk (below_step HB.out hb); clear hb))
       go_ret
       exact ⟨rfl, HBW.out.trans (HB.out.mono HBW.out.size)⟩
end Go.Proofs.Ytiodebjjbgcbhaa.Alo
