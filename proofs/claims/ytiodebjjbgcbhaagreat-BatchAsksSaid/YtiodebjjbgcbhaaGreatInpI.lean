import Derived.Test.YtiodebjjbgcbhaaGreatInpE
import Derived.Test.YtiodebjjbgcbhaaGreatQLefx2
namespace Go.Proofs.YtiodebjjbgcbhaaGreat.Inp
open Go.RowKit Go.Sort Go.Lib Go.Shelf Go.Proofs YtiodebjjbgcbhaaGreatW.PrintWords YtiodebjjbgcbhaaGreatW.PrintLast YtiodebjjbgcbhaaGreatW.PrintMore YtiodebjjbgcbhaaGreat Hand RowK Fill OrdO QLef
attribute [local go_sem] run_equalIn_c run_store_float run_store_complex
attribute [local go_sem ↓ high] Wide.hv44 Wide.hv33 Wide.hv37
set_option linter.unusedVariables false
set_option linter.unusedSectionVars false
set_option linter.unusedSimpArgs false
variable {α : Type}
set_option maxHeartbeats 8000000 in
set_option maxRecDepth 100000 in
theorem rate_calls0 (cx : List Value) (hx : cx.length = 44) (next : Int) (r1 r2 : C128) (r3 ck v : Int) (w : World)
 (hc : ∀ W, Calls Tryz.prog 8 #[.agg cx.toArray] W fun e w' => e = .returned (.int .i64 ck) ∧ Below W.heap.size W w')
 (hr : ∀ W, Calls Tryz.prog 25 #[.agg cx.toArray] W fun e w' => e = .returned (.tuple #[.agg #[.complex .f64 r1.re r1.im, .complex .f64 r2.re r2.im], .int .i64 r3]) ∧ Below W.heap.size W w')
 (hv : curve_Curve_At.f r1 r2 next = some v) :
 Calls Tryz.prog 10 #[.agg cx.toArray, .int .i64 next] w fun e w' => e = .returned (.int .i64 (if ck = 0 then v else 0)) ∧ Below w.heap.size w w' := by
 have HC := Ak hc
 have HR := Ak hr
 have HA := Ak hv
 have CX := Ak hx
 have HB := Ak (Below.refl w.heap.size w)
 clear hc hr hv hx
 have hu90 := Tryz.underlying38
 have hu125 := Tryz.underlying74
 by_cases h0 : ck = 0
 ·rw [if_pos h0]
  subst h0
  go_enter Tryz.func10, Tryz.ntmps10
  go_wp2_with (first | ((with_reducible refine gate_dst (N := 2) rfl ?_); refine box_event ?hg (N := 2) ?hd (cs := cx.toArray) (t := 38) ?hr ?_; (case hd => rfl); (case hg => rfl); (case hr => first | (go_simp; done) | (go_simp; rfl)); intro gb hg w1 hbox hb; have m_HB := Ak (below_step HB.1 hb); have BK := Ak hbox; clear HB hbox hb hg; have HB := m_HB; clear m_HB; have hl0 : Sem.run Tryz.prog (Wide.heavy0 ⟨gb, 0, none⟩ 44) w1 = .ok cx.toArray w1 := row_load BK.1 0 44 _ CX.1 (by rw [List.drop_zero, List.take_of_length_le (by rw [CX.1]; exact Nat.le_refl _)])) | ((with_reducible refine gate_callee (f := 8) rfl ?_); refine goesL_ (some 8) rfl rfl Tryz.func8 (by kernel_rfl) rfl #[.agg cx.toArray] rfl (by (try simp only [lm_, lc_, ln_]); first | done | rfl) ?_; with_reducible refine (HC.1 _).mono ?_; rintro e w3 ⟨rfl, hb⟩; refine ⟨_, rfl, ?_⟩; replace BK := Ak (blk_below BK.1 hb); replace HB := Ak (below_step HB.1 hb); clear hl0 hb; have hl0 : Sem.run Tryz.prog (Wide.heavy0 ⟨gb, 0, none⟩ 44) w3 = .ok cx.toArray w3 := row_load BK.1 0 44 _ CX.1 (by rw [List.drop_zero, List.take_of_length_le (by rw [CX.1]; exact Nat.le_refl _)])) | ((with_reducible refine gate_callee (f := 25) rfl ?_); refine goesL_ (some 12) rfl rfl Tryz.func25 (by kernel_rfl) rfl #[.agg cx.toArray] rfl (by (try simp only [lm_, lc_, ln_]); first | done | rfl) ?_; with_reducible refine (HR.1 _).mono ?_; rintro e w3 ⟨rfl, hb⟩; refine ⟨_, rfl, ?_⟩; replace HB := Ak (below_step HB.1 hb); clear BK hl0 hb) | ((with_reducible refine gate_dst (N := 5) rfl ?_); refine Fill.fill_event (N := 5) (x := 13) (cs := #[.complex .f64 r1.re r1.im, .complex .f64 r2.re r2.im]) (t := 74) rfl rfl rfl rfl rfl rfl Tryz.zeroValue74 Tryz.sizeOf74 rfl rfl (fun _ => rfl) (fun _ => rfl) ?_; intro gd hgd w5 hbox hb; have m_HB := Ak (below_step HB.1 hb); have k0 := (blk_cell hbox 0).trans rfl; have k1 := (blk_cell hbox 1).trans rfl; clear HB hbox hb hgd; have HB := m_HB; clear m_HB) | (go_at_call 30; refine (curve_Curve_At.calls r1 r2 next v _ HA.1).mono ?_; rintro e w6 ⟨rfl, hb⟩; replace HB := Ak (below_step HB.1 hb); clear hb))
  go_ret
  exact ⟨rfl, HB.1⟩
 ·rw [if_neg h0]
  have c0 : (ck == 0) = false := by simpa using h0
  clear h0
  go_enter Tryz.func10, Tryz.ntmps10
  go_wp2_with (first | ((with_reducible refine gate_dst (N := 2) rfl ?_); refine box_event ?hg (N := 2) ?hd (cs := cx.toArray) (t := 38) ?hr ?_; (case hd => rfl); (case hg => rfl); (case hr => first | (go_simp; done) | (go_simp; rfl)); intro gb hg w1 hbox hb; have m_HB := Ak (below_step HB.1 hb); have BK := Ak hbox; clear HB hbox hb hg; have HB := m_HB; clear m_HB; have hl0 : Sem.run Tryz.prog (Wide.heavy0 ⟨gb, 0, none⟩ 44) w1 = .ok cx.toArray w1 := row_load BK.1 0 44 _ CX.1 (by rw [List.drop_zero, List.take_of_length_le (by rw [CX.1]; exact Nat.le_refl _)])) | ((with_reducible refine gate_callee (f := 8) rfl ?_); refine goesL_ (some 8) rfl rfl Tryz.func8 (by kernel_rfl) rfl #[.agg cx.toArray] rfl (by (try simp only [lm_, lc_, ln_]); first | done | rfl) ?_; with_reducible refine (HC.1 _).mono ?_; rintro e w3 ⟨rfl, hb⟩; refine ⟨_, rfl, ?_⟩; replace BK := Ak (blk_below BK.1 hb); replace HB := Ak (below_step HB.1 hb); clear hl0 hb; have hl0 : Sem.run Tryz.prog (Wide.heavy0 ⟨gb, 0, none⟩ 44) w3 = .ok cx.toArray w3 := row_load BK.1 0 44 _ CX.1 (by rw [List.drop_zero, List.take_of_length_le (by rw [CX.1]; exact Nat.le_refl _)])))
  go_ret
  exact ⟨rfl, HB.1⟩
end Go.Proofs.YtiodebjjbgcbhaaGreat.Inp
namespace Go.Proofs.YtiodebjjbgcbhaaGreat.Inp
open Go.RowKit Go.Sort Go.Lib Go.Shelf Go.Proofs YtiodebjjbgcbhaaGreatW.PrintWords YtiodebjjbgcbhaaGreatW.PrintLast YtiodebjjbgcbhaaGreatW.PrintMore YtiodebjjbgcbhaaGreat Hand RowK Fill OrdO QLef
attribute [local go_sem ↓ high] Wide.hv44 Wide.hv33 Wide.hv37
set_option linter.unusedVariables false
set_option linter.unusedSectionVars false
set_option linter.unusedSimpArgs false
variable {α : Type}
def orV : List Int → Int
 | [] => 0
 | x :: xs => if x = 0 then orV xs else x
theorem orV_drop (l : List Int) (i : Nat) (h : i < l.length) : orV (l.drop i) = if l[i] = 0 then orV (l.drop (i + 1)) else l[i] := by
 rw [List.drop_eq_getElem_cons h]
 rfl
set_option maxHeartbeats 2000000 in
set_option maxRecDepth 100000 in
theorem or_calls (l : List Int) (g c : Nat) (w : World) (hc : ∀ i (h : i < l.length), w.cell? ⟨g, i, none⟩ = some (.int .i64 l[i])) (hl : l.length < 1000000) :
 Calls Tryz.prog 77 #[.slice (some ⟨g, 0, none⟩) l.length c] w fun e w' => e = .returned (.int .i64 (orV l)) ∧ Below w.heap.size w w' := by
 have HC := Ak hc
 clear hc
 generalize hn : l.length = n at hl ⊢
 have HN := Ak hn
 clear hn
 go_enter Tryz.func77, Tryz.ntmps77
 go_wp2
 go_loopg [5, 8] n (fun kq _ v wr => ∃ i : Nat, v = .int .i64 i ∧ i ≤ n ∧ n - i ≤ kq ∧ wr = w ∧ Aside0 (orV l = orV (l.drop i)))
 case atStart => exact ⟨0, rfl, by omega, by omega, rfl, ⟨by rw [List.drop_zero]⟩⟩
 case round =>
  obtain ⟨i, rfl, hin, hkq, rfl, HO⟩ := hrel
  by_cases hlt : i < n
  ·have hz : (i : Int) < (n : Int) := by omega
   have hil : i < l.length := by rw [HN.1]; exact hlt
   have hcell := HC.1 i hil
   have HD := Ak (orV_drop l i hil)
   generalize l[i] = y at hcell HD
   by_cases h0 : y = 0
   ·subst h0
    go_wp2_with fail
    go_roundg (n - (i + 1))
    case measure => omega
    case rel => exact ⟨i + 1, by go_num, by omega, Nat.le_refl _, rfl, ⟨by rw [HO.out, HD.1]; simp⟩⟩
   ·have hy : (y == 0) = false := by simpa using h0
    have E := Ak (show orV l = y by rw [HO.out, HD.1, if_neg h0])
    clear h0
    go_wp2_with fail
    go_ret
    exact ⟨by rw [E.1]; rfl, Below.refl _ _⟩
  ·obtain rfl : i = n := by omega
   have E := Ak (show orV l = 0 by rw [HO.out, ← HN.1, List.drop_length]; rfl)
   go_wp2_with fail
   go_ret
   exact ⟨by rw [E.1]; rfl, Below.refl _ _⟩
theorem putSel_skip {b : Nat → Bool} {t : Tmp} : ∀ {L : List (Nat × Tmp × Value)} {a : Act}, (L.all fun e => !(e.2.1 == t) || !(b e.1)) = true → (putSel a b L).tmps[t]? = a.tmps[t]?
 | [], _, _ => rfl
 | e :: r, a, h => by
  rw [List.all_cons, Bool.and_eq_true] at h
  unfold putSel
  by_cases hb : b e.1 = true
  ·have he : e.2.1 ≠ t := by simpa [hb] using h.1
   rw [if_pos hb, putSel_skip h.2]
   simp [Act.put, Array.getElem?_setIfInBounds_ne he]
  ·rw [if_neg hb]
   exact putSel_skip h.2
theorem up_other {b : Nat → Bool} {i j : Nat} (h : j ≠ i) : up b i j = b j := by simp [up, h]
def byRate.T1 : Bool × List (List Nat × List Nat) := (true, [([], []), ([], []), ([0, 1], [0, 1]), ([], []), ([], []), ([3, 4, 2], [3, 4]), ([2, 5, 5], [2, 5]), ([], []), ([7], [7]), ([], []), ([9], [9]), ([8, 10, 6], [8, 10]), ([], []), ([], []), ([12, 13, 11], [12, 13]), ([6, 11, 14], [6, 11, 14]), ([15, 14], [15]), ([16, 16, 0, 1, 2, 3, 4, 5, 6, 7, 8, 9, 10, 11, 12, 13, 14, 15, 16], [16])])
def byRate.B1 : List Nat := [0, 0, 3, 0, 0, 31, 63, 0, 128, 0, 512, 2047, 0, 0, 16383, 32767, 65535, 131071]
theorem byRate.tab1 : rtab .any (opsOf Tryz.f76 1) = byRate.T1 := by kernel_rfl
theorem byRate.bits1 : waitsOk byRate.T1.2 byRate.B1 = true := by kernel_rfl
set_option maxHeartbeats 8000000 in
set_option maxRecDepth 100000 in
theorem byRate.reg1 {cx cy : List Value} {gx gy q : Nat} {next rx ry c1 c2 c3 dx dy r : Int} {a : Act} {wc : World} {Q : Exit → Act → World → Prop} (hsz : Nat.ble 23 a.tmps.size = true)
 (h2 : a.tmps[2]? = some (.pointer (some ⟨q, 0, none⟩))) (h3 : a.tmps[3]? = some (.pointer (some ⟨gx, 0, none⟩))) (h4 : a.tmps[4]? = some (.pointer (some ⟨gy, 0, none⟩)))
 (hld : ∀ W, Below wc.heap.size wc W → Sem.run Tryz.prog (Wide.heavy0 ⟨gx, 0, none⟩ 44) W = .ok cx.toArray W ∧ Sem.run Tryz.prog (Wide.heavy0 ⟨gy, 0, none⟩ 44) W = .ok cy.toArray W ∧ W.cell? ⟨gx, 42, none⟩ = some (.int .i64 dx) ∧ W.cell? ⟨gy, 42, none⟩ = some (.int .i64 dy) ∧ W.cell? ⟨q, 0, none⟩ = some (.int .i64 next))
 (hrx : ∀ W, Calls Tryz.prog 10 #[.agg cx.toArray, .int .i64 next] W fun e w' => e = .returned (.int .i64 rx) ∧ Below W.heap.size W w')
 (hry : ∀ W, Calls Tryz.prog 10 #[.agg cy.toArray, .int .i64 next] W fun e w' => e = .returned (.int .i64 ry) ∧ Below W.heap.size W w')
 (hc1 : ∀ W, Calls Tryz.prog 78 #[.int .i64 ry, .int .i64 rx] W fun e w' => e = .returned (.int .i64 c1) ∧ Below W.heap.size W w')
 (hc2 : ∀ W, Calls Tryz.prog 78 #[.int .i64 dx, .int .i64 dy] W fun e w' => e = .returned (.int .i64 c2) ∧ Below W.heap.size W w')
 (hc3 : ∀ W, Calls Tryz.prog 79 #[.agg cx.toArray, .agg cy.toArray] W fun e w' => e = .returned (.int .i64 c3) ∧ Below W.heap.size W w')
 (hor : orV [c1, c2, c3] = r)
 (hend : ∀ (g : Nat) (W : World), Below wc.heap.size wc W → Q .normal ((((((((((((((((((a.put (some 6) (.agg cy.toArray)).put (some 7) (.int .i64 next)).put (some 8) (.int .i64 ry)).put (some 9) (.agg cx.toArray)).put (some 10) (.int .i64 next)).put (some 11) (.int .i64 rx)).put (some 12) (.int .i64 c1)).put (some 13) (.pointer (some ⟨gx, 42, none⟩))).put (some 14) (.int .i64 dx)).put (some 15) (.pointer (some ⟨gy, 42, none⟩))).put (some 16) (.int .i64 dy)).put (some 17) (.int .i64 c2)).put (some 18) (.agg cx.toArray)).put (some 19) (.agg cy.toArray)).put (some 20) (.int .i64 c3)).put (some 21) (.slice (some ⟨g, 0, none⟩) 3 3)).put (some 22) (.int .i64 r)).put (some 5) (.int .i64 r)) W) :
 Code.wp Tryz.prog (Code.region 1 (opsOf Tryz.f76 1) true) Q a wc := by
 have LD := Ak hld
 have HRX := Ak hrx
 have HRY := Ak hry
 have HC1 := Ak hc1
 have HC2 := Ak hc2
 have HC3 := Ak hc3
 have HOR := Ak hor
 have HE := Ak hend
 have HS : ∀ n, n < 23 → Nat.ble (n + 1) a.tmps.size = true := fun n hn => Nat.ble_eq_true_of_le (Nat.le_trans hn (Nat.le_of_ble_eq_true hsz))
 have H2 := Ak h2
 have H3 := Ak h3
 have H4 := Ak h4
 clear hld hrx hry hc1 hc2 hc3 hor hend h2 h3 h4
 conv => arg 2; arg 2; whnf
 refine start_ (n := 18) (S := fun w' => True) (ds := []) #[false, false, false, false, false, false, false, false, false, false, false, false, false, false, false, false, false, false] (by kernel_rfl) (by kernel_rfl) rfl trivial (fun hHeld => ?_)
 refine with_tabW byRate.tab1 byRate.bits1 (fun HT_ HW_ => ?_)
 refine inv_at [0, 1, 2, 3, 4, 5, 6, 7, 8, 9, 10, 11, 12, 13, 14, 15, 16, 17] (fun a0_ b a w' => ∃ g : Nat, a = putSel a0_ b [(0, 6, .agg cy.toArray), (1, 7, .int .i64 next), (2, 8, .int .i64 ry), (3, 9, .agg cx.toArray), (4, 10, .int .i64 next), (5, 11, .int .i64 rx), (6, 12, .int .i64 c1), (7, 13, .pointer (some ⟨gx, 42, none⟩)), (8, 14, .int .i64 dx), (9, 15, .pointer (some ⟨gy, 42, none⟩)), (10, 16, .int .i64 dy), (11, 17, .int .i64 c2), (12, 18, .agg cx.toArray), (13, 19, .agg cy.toArray), (14, 20, .int .i64 c3), (15, 21, .slice (some ⟨g, 0, none⟩) 3 3), (16, 22, .int .i64 r), (17, 5, .int .i64 r)] ∧ Below wc.heap.size wc w' ∧ (b 15 = true → w'.heap[g]? = some (.cells #[.int .i64 c1, .int .i64 c2, .int .i64 c3] 3 (0, 0)))) HT_.out HW_.out (by kernel_rfl) (by kernel_rfl) ?_ ?_ ?_
 ·exact ⟨0, by simp only [putSel, Bool.false_eq_true, if_false], below_drew1 (Below.refl _ _), fun e => absurd e (by decide)⟩
 refine steps_cons ?_ ?_
 ·rintro b a w' ⟨g, ha, hB, h15⟩ hb_ hon hoff
  refine ⟨_, rfl, fun K hK => ?_⟩
  have e4 : a.tmps[4]? = some (.pointer (some ⟨gy, 0, none⟩)) := by rw [ha]; exact (putSel_skip (by simp only [List.all_cons, List.all_nil]; rfl)).trans H4.1
  have off15 := hoff 15 (by kernel_rfl)
  obtain ⟨l1, l2, l3, l4, l5⟩ := LD.1 _ hB
  have HB := Ak hB
  have H15 := Ak h15
  have HA := Ak ha
  clear ha hB h15
  refine value_ (w1 := w') (v := .agg cy.toArray) (by rfl) rfl ?_ ?_
  ·go_simp; try rfl
  ·refine hK.out _ _ ⟨g, ?_, HB.1, (fun e => absurd (by rw [up_other (by decide)] at e; exact e) (by rw [off15]; decide))⟩
   rw [HA.1]
   exact putSel_upk 0 hb_ rfl rfl rfl
 refine steps_cons ?_ ?_
 ·rintro b a w' ⟨g, ha, hB, h15⟩ hb_ hon hoff
  refine ⟨_, rfl, fun K hK => ?_⟩
  have e2 : a.tmps[2]? = some (.pointer (some ⟨q, 0, none⟩)) := by rw [ha]; exact (putSel_skip (by simp only [List.all_cons, List.all_nil]; rfl)).trans H2.1
  have off15 := hoff 15 (by kernel_rfl)
  obtain ⟨l1, l2, l3, l4, l5⟩ := LD.1 _ hB
  have HB := Ak hB
  have H15 := Ak h15
  have HA := Ak ha
  clear ha hB h15
  refine value_ (w1 := w') (v := .int .i64 next) (by rfl) rfl ?_ ?_
  ·go_simp; try rfl
  ·refine hK.out _ _ ⟨g, ?_, HB.1, (fun e => absurd (by rw [up_other (by decide)] at e; exact e) (by rw [off15]; decide))⟩
   rw [HA.1]
   exact putSel_upk 1 hb_ rfl rfl rfl
 refine steps_cons ?_ ?_
 ·rintro b a w' ⟨g, ha, hB, h15⟩ hb_ hon hoff
  refine ⟨_, rfl, fun K hK => ?_⟩
  have e6 : a.tmps[6]? = some (.agg cy.toArray) := by rw [ha]; exact putSel_on (e := (0, 6, .agg cy.toArray)) 0 rfl rfl (hon 0 (by kernel_rfl)) (HS 6 (by decide))
  have e7 : a.tmps[7]? = some (.int .i64 next) := by rw [ha]; exact putSel_on (e := (1, 7, .int .i64 next)) 1 rfl rfl (hon 1 (by kernel_rfl)) (HS 7 (by decide))
  have off15 := hoff 15 (by kernel_rfl)
  have HB := Ak hB
  have H15 := Ak h15
  have HA := Ak ha
  clear ha hB h15
  refine goes_ Tryz.func10 (by kernel_rfl) rfl #[.agg cy.toArray, .int .i64 next] (by rfl) rfl rfl (by first | (simp [Act.eval, e6, e7]; done) | (go_simp; done) | (go_simp; rfl)) ?_
  refine (HRY.1 _).mono ?_
  rintro e w9 ⟨rfl, hb⟩
  refine ⟨_, rfl, ?_⟩
  refine hK.out _ _ ⟨g, ?_, (below_step HB.1 hb), (fun e => absurd (by rw [up_other (by decide)] at e; exact e) (by rw [off15]; decide))⟩
  rw [HA.1]
  exact putSel_upk 2 hb_ rfl rfl rfl
 refine steps_cons ?_ ?_
 ·rintro b a w' ⟨g, ha, hB, h15⟩ hb_ hon hoff
  refine ⟨_, rfl, fun K hK => ?_⟩
  have e3 : a.tmps[3]? = some (.pointer (some ⟨gx, 0, none⟩)) := by rw [ha]; exact (putSel_skip (by simp only [List.all_cons, List.all_nil]; rfl)).trans H3.1
  have off15 := hoff 15 (by kernel_rfl)
  obtain ⟨l1, l2, l3, l4, l5⟩ := LD.1 _ hB
  have HB := Ak hB
  have H15 := Ak h15
  have HA := Ak ha
  clear ha hB h15
  refine value_ (w1 := w') (v := .agg cx.toArray) (by rfl) rfl ?_ ?_
  ·go_simp; try rfl
  ·refine hK.out _ _ ⟨g, ?_, HB.1, (fun e => absurd (by rw [up_other (by decide)] at e; exact e) (by rw [off15]; decide))⟩
   rw [HA.1]
   exact putSel_upk 3 hb_ rfl rfl rfl
 refine steps_cons ?_ ?_
 ·rintro b a w' ⟨g, ha, hB, h15⟩ hb_ hon hoff
  refine ⟨_, rfl, fun K hK => ?_⟩
  have e2 : a.tmps[2]? = some (.pointer (some ⟨q, 0, none⟩)) := by rw [ha]; exact (putSel_skip (by simp only [List.all_cons, List.all_nil]; rfl)).trans H2.1
  have off15 := hoff 15 (by kernel_rfl)
  obtain ⟨l1, l2, l3, l4, l5⟩ := LD.1 _ hB
  have HB := Ak hB
  have H15 := Ak h15
  have HA := Ak ha
  clear ha hB h15
  refine value_ (w1 := w') (v := .int .i64 next) (by rfl) rfl ?_ ?_
  ·go_simp; try rfl
  ·refine hK.out _ _ ⟨g, ?_, HB.1, (fun e => absurd (by rw [up_other (by decide)] at e; exact e) (by rw [off15]; decide))⟩
   rw [HA.1]
   exact putSel_upk 4 hb_ rfl rfl rfl
 refine steps_cons ?_ ?_
 ·rintro b a w' ⟨g, ha, hB, h15⟩ hb_ hon hoff
  refine ⟨_, rfl, fun K hK => ?_⟩
  have e9 : a.tmps[9]? = some (.agg cx.toArray) := by rw [ha]; exact putSel_on (e := (3, 9, .agg cx.toArray)) 3 rfl rfl (hon 3 (by kernel_rfl)) (HS 9 (by decide))
  have e10 : a.tmps[10]? = some (.int .i64 next) := by rw [ha]; exact putSel_on (e := (4, 10, .int .i64 next)) 4 rfl rfl (hon 4 (by kernel_rfl)) (HS 10 (by decide))
  have off15 := hoff 15 (by kernel_rfl)
  have HB := Ak hB
  have H15 := Ak h15
  have HA := Ak ha
  clear ha hB h15
  refine goes_ Tryz.func10 (by kernel_rfl) rfl #[.agg cx.toArray, .int .i64 next] (by rfl) rfl rfl (by first | (simp [Act.eval, e9, e10]; done) | (go_simp; done) | (go_simp; rfl)) ?_
  refine (HRX.1 _).mono ?_
  rintro e w9 ⟨rfl, hb⟩
  refine ⟨_, rfl, ?_⟩
  refine hK.out _ _ ⟨g, ?_, (below_step HB.1 hb), (fun e => absurd (by rw [up_other (by decide)] at e; exact e) (by rw [off15]; decide))⟩
  rw [HA.1]
  exact putSel_upk 5 hb_ rfl rfl rfl
 refine steps_cons ?_ ?_
 ·rintro b a w' ⟨g, ha, hB, h15⟩ hb_ hon hoff
  refine ⟨_, rfl, fun K hK => ?_⟩
  have e8 : a.tmps[8]? = some (.int .i64 ry) := by rw [ha]; exact putSel_on (e := (2, 8, .int .i64 ry)) 2 rfl rfl (hon 2 (by kernel_rfl)) (HS 8 (by decide))
  have e11 : a.tmps[11]? = some (.int .i64 rx) := by rw [ha]; exact putSel_on (e := (5, 11, .int .i64 rx)) 5 rfl rfl (hon 5 (by kernel_rfl)) (HS 11 (by decide))
  have off15 := hoff 15 (by kernel_rfl)
  have HB := Ak hB
  have H15 := Ak h15
  have HA := Ak ha
  clear ha hB h15
  refine goes_ Tryz.func78 (by kernel_rfl) rfl #[.int .i64 ry, .int .i64 rx] (by rfl) rfl rfl (by first | (simp [Act.eval, e8, e11]; done) | (go_simp; done) | (go_simp; rfl)) ?_
  refine (HC1.1 _).mono ?_
  rintro e w9 ⟨rfl, hb⟩
  refine ⟨_, rfl, ?_⟩
  refine hK.out _ _ ⟨g, ?_, (below_step HB.1 hb), (fun e => absurd (by rw [up_other (by decide)] at e; exact e) (by rw [off15]; decide))⟩
  rw [HA.1]
  exact putSel_upk 6 hb_ rfl rfl rfl
 refine steps_cons ?_ ?_
 ·rintro b a w' ⟨g, ha, hB, h15⟩ hb_ hon hoff
  refine ⟨_, rfl, fun K hK => ?_⟩
  have e3 : a.tmps[3]? = some (.pointer (some ⟨gx, 0, none⟩)) := by rw [ha]; exact (putSel_skip (by simp only [List.all_cons, List.all_nil]; rfl)).trans H3.1
  have off15 := hoff 15 (by kernel_rfl)
  have HB := Ak hB
  have H15 := Ak h15
  have HA := Ak ha
  clear ha hB h15
  refine value_ (w1 := w') (v := .pointer (some ⟨gx, 42, none⟩)) (by rfl) rfl ?_ ?_
  ·go_simp; try rfl
  ·refine hK.out _ _ ⟨g, ?_, HB.1, (fun e => absurd (by rw [up_other (by decide)] at e; exact e) (by rw [off15]; decide))⟩
   rw [HA.1]
   exact putSel_upk 7 hb_ rfl rfl rfl
 refine steps_cons ?_ ?_
 ·rintro b a w' ⟨g, ha, hB, h15⟩ hb_ hon hoff
  refine ⟨_, rfl, fun K hK => ?_⟩
  have e13 : a.tmps[13]? = some (.pointer (some ⟨gx, 42, none⟩)) := by rw [ha]; exact putSel_on (e := (7, 13, .pointer (some ⟨gx, 42, none⟩))) 7 rfl rfl (hon 7 (by kernel_rfl)) (HS 13 (by decide))
  have off15 := hoff 15 (by kernel_rfl)
  obtain ⟨l1, l2, l3, l4, l5⟩ := LD.1 _ hB
  have HB := Ak hB
  have H15 := Ak h15
  have HA := Ak ha
  clear ha hB h15
  refine value_ (w1 := w') (v := .int .i64 dx) (by rfl) rfl ?_ ?_
  ·go_simp; try rfl
  ·refine hK.out _ _ ⟨g, ?_, HB.1, (fun e => absurd (by rw [up_other (by decide)] at e; exact e) (by rw [off15]; decide))⟩
   rw [HA.1]
   exact putSel_upk 8 hb_ rfl rfl rfl
 refine steps_cons ?_ ?_
 ·rintro b a w' ⟨g, ha, hB, h15⟩ hb_ hon hoff
  refine ⟨_, rfl, fun K hK => ?_⟩
  have e4 : a.tmps[4]? = some (.pointer (some ⟨gy, 0, none⟩)) := by rw [ha]; exact (putSel_skip (by simp only [List.all_cons, List.all_nil]; rfl)).trans H4.1
  have off15 := hoff 15 (by kernel_rfl)
  have HB := Ak hB
  have H15 := Ak h15
  have HA := Ak ha
  clear ha hB h15
  refine value_ (w1 := w') (v := .pointer (some ⟨gy, 42, none⟩)) (by rfl) rfl ?_ ?_
  ·go_simp; try rfl
  ·refine hK.out _ _ ⟨g, ?_, HB.1, (fun e => absurd (by rw [up_other (by decide)] at e; exact e) (by rw [off15]; decide))⟩
   rw [HA.1]
   exact putSel_upk 9 hb_ rfl rfl rfl
 refine steps_cons ?_ ?_
 ·rintro b a w' ⟨g, ha, hB, h15⟩ hb_ hon hoff
  refine ⟨_, rfl, fun K hK => ?_⟩
  have e15 : a.tmps[15]? = some (.pointer (some ⟨gy, 42, none⟩)) := by rw [ha]; exact putSel_on (e := (9, 15, .pointer (some ⟨gy, 42, none⟩))) 9 rfl rfl (hon 9 (by kernel_rfl)) (HS 15 (by decide))
  have off15 := hoff 15 (by kernel_rfl)
  obtain ⟨l1, l2, l3, l4, l5⟩ := LD.1 _ hB
  have HB := Ak hB
  have H15 := Ak h15
  have HA := Ak ha
  clear ha hB h15
  refine value_ (w1 := w') (v := .int .i64 dy) (by rfl) rfl ?_ ?_
  ·go_simp; try rfl
  ·refine hK.out _ _ ⟨g, ?_, HB.1, (fun e => absurd (by rw [up_other (by decide)] at e; exact e) (by rw [off15]; decide))⟩
   rw [HA.1]
   exact putSel_upk 10 hb_ rfl rfl rfl
 refine steps_cons ?_ ?_
 ·rintro b a w' ⟨g, ha, hB, h15⟩ hb_ hon hoff
  refine ⟨_, rfl, fun K hK => ?_⟩
  have e14 : a.tmps[14]? = some (.int .i64 dx) := by rw [ha]; exact putSel_on (e := (8, 14, .int .i64 dx)) 8 rfl rfl (hon 8 (by kernel_rfl)) (HS 14 (by decide))
  have e16 : a.tmps[16]? = some (.int .i64 dy) := by rw [ha]; exact putSel_on (e := (10, 16, .int .i64 dy)) 10 rfl rfl (hon 10 (by kernel_rfl)) (HS 16 (by decide))
  have off15 := hoff 15 (by kernel_rfl)
  have HB := Ak hB
  have H15 := Ak h15
  have HA := Ak ha
  clear ha hB h15
  refine goes_ Tryz.func78 (by kernel_rfl) rfl #[.int .i64 dx, .int .i64 dy] (by rfl) rfl rfl (by first | (simp [Act.eval, e14, e16]; done) | (go_simp; done) | (go_simp; rfl)) ?_
  refine (HC2.1 _).mono ?_
  rintro e w9 ⟨rfl, hb⟩
  refine ⟨_, rfl, ?_⟩
  refine hK.out _ _ ⟨g, ?_, (below_step HB.1 hb), (fun e => absurd (by rw [up_other (by decide)] at e; exact e) (by rw [off15]; decide))⟩
  rw [HA.1]
  exact putSel_upk 11 hb_ rfl rfl rfl
 refine steps_cons ?_ ?_
 ·rintro b a w' ⟨g, ha, hB, h15⟩ hb_ hon hoff
  refine ⟨_, rfl, fun K hK => ?_⟩
  have e3 : a.tmps[3]? = some (.pointer (some ⟨gx, 0, none⟩)) := by rw [ha]; exact (putSel_skip (by simp only [List.all_cons, List.all_nil]; rfl)).trans H3.1
  have off15 := hoff 15 (by kernel_rfl)
  obtain ⟨l1, l2, l3, l4, l5⟩ := LD.1 _ hB
  have HB := Ak hB
  have H15 := Ak h15
  have HA := Ak ha
  clear ha hB h15
  refine value_ (w1 := w') (v := .agg cx.toArray) (by rfl) rfl ?_ ?_
  ·go_simp; try rfl
  ·refine hK.out _ _ ⟨g, ?_, HB.1, (fun e => absurd (by rw [up_other (by decide)] at e; exact e) (by rw [off15]; decide))⟩
   rw [HA.1]
   exact putSel_upk 12 hb_ rfl rfl rfl
 refine steps_cons ?_ ?_
 ·rintro b a w' ⟨g, ha, hB, h15⟩ hb_ hon hoff
  refine ⟨_, rfl, fun K hK => ?_⟩
  have e4 : a.tmps[4]? = some (.pointer (some ⟨gy, 0, none⟩)) := by rw [ha]; exact (putSel_skip (by simp only [List.all_cons, List.all_nil]; rfl)).trans H4.1
  have off15 := hoff 15 (by kernel_rfl)
  obtain ⟨l1, l2, l3, l4, l5⟩ := LD.1 _ hB
  have HB := Ak hB
  have H15 := Ak h15
  have HA := Ak ha
  clear ha hB h15
  refine value_ (w1 := w') (v := .agg cy.toArray) (by rfl) rfl ?_ ?_
  ·go_simp; try rfl
  ·refine hK.out _ _ ⟨g, ?_, HB.1, (fun e => absurd (by rw [up_other (by decide)] at e; exact e) (by rw [off15]; decide))⟩
   rw [HA.1]
   exact putSel_upk 13 hb_ rfl rfl rfl
 refine steps_cons ?_ ?_
 ·rintro b a w' ⟨g, ha, hB, h15⟩ hb_ hon hoff
  refine ⟨_, rfl, fun K hK => ?_⟩
  have e18 : a.tmps[18]? = some (.agg cx.toArray) := by rw [ha]; exact putSel_on (e := (12, 18, .agg cx.toArray)) 12 rfl rfl (hon 12 (by kernel_rfl)) (HS 18 (by decide))
  have e19 : a.tmps[19]? = some (.agg cy.toArray) := by rw [ha]; exact putSel_on (e := (13, 19, .agg cy.toArray)) 13 rfl rfl (hon 13 (by kernel_rfl)) (HS 19 (by decide))
  have off15 := hoff 15 (by kernel_rfl)
  have HB := Ak hB
  have H15 := Ak h15
  have HA := Ak ha
  clear ha hB h15
  refine goes_ Tryz.func79 (by kernel_rfl) rfl #[.agg cx.toArray, .agg cy.toArray] (by rfl) rfl rfl (by first | (simp [Act.eval, e18, e19]; done) | (go_simp; done) | (go_simp; rfl)) ?_
  refine (HC3.1 _).mono ?_
  rintro e w9 ⟨rfl, hb⟩
  refine ⟨_, rfl, ?_⟩
  refine hK.out _ _ ⟨g, ?_, (below_step HB.1 hb), (fun e => absurd (by rw [up_other (by decide)] at e; exact e) (by rw [off15]; decide))⟩
  rw [HA.1]
  exact putSel_upk 14 hb_ rfl rfl rfl
 refine steps_cons ?_ ?_
 ·rintro b a w' ⟨g, ha, hB, h15⟩ hb_ hon hoff
  refine ⟨_, rfl, fun K hK => ?_⟩
  have e12 : a.tmps[12]? = some (.int .i64 c1) := by rw [ha]; exact putSel_on (e := (6, 12, .int .i64 c1)) 6 rfl rfl (hon 6 (by kernel_rfl)) (HS 12 (by decide))
  have e17 : a.tmps[17]? = some (.int .i64 c2) := by rw [ha]; exact putSel_on (e := (11, 17, .int .i64 c2)) 11 rfl rfl (hon 11 (by kernel_rfl)) (HS 17 (by decide))
  have e20 : a.tmps[20]? = some (.int .i64 c3) := by rw [ha]; exact putSel_on (e := (14, 20, .int .i64 c3)) 14 rfl rfl (hon 14 (by kernel_rfl)) (HS 20 (by decide))
  have HB := Ak hB
  have H15 := Ak h15
  have HA := Ak ha
  clear ha hB h15
  refine value_ (w1 := w'.alloc (.cells #[.int .i64 c1, .int .i64 c2, .int .i64 c3] 3)) (v := .slice (some ⟨w'.heap.size, 0, none⟩) 3 3) (by rfl) rfl ?_ ?_
  ·go_simp; try rfl
  ·refine hK.out _ _ ⟨w'.heap.size, ?_, below_alloc HB.1 _, fun _ => blk_new _ _⟩
   rw [HA.1]
   exact putSel_upk 15 hb_ rfl rfl rfl
 refine steps_cons ?_ ?_
 ·rintro b a w' ⟨g, ha, hB, h15⟩ hb_ hon hoff
  refine ⟨_, rfl, fun K hK => ?_⟩
  have e21 : a.tmps[21]? = some (.slice (some ⟨g, 0, none⟩) 3 3) := by rw [ha]; exact putSel_on (e := (15, 21, .slice (some ⟨g, 0, none⟩) 3 3)) 15 rfl rfl (hon 15 (by kernel_rfl)) (HS 21 (by decide))
  have on15 := hon 15 (by kernel_rfl)
  have HB := Ak hB
  have H15 := Ak h15
  have HA := Ak ha
  clear ha hB h15
  refine goes_ Tryz.func77 (by kernel_rfl) rfl #[.slice (some ⟨g, 0, none⟩) 3 3] (by rfl) rfl rfl (by first | (simp [Act.eval, e21]; done) | (go_simp; done) | (go_simp; rfl)) ?_
  refine (or_calls [c1, c2, c3] g 3 w' (fun i hi => (blk_cell (H15.1 on15) i).trans (by match i, hi with | 0, _ => rfl | 1, _ => rfl | 2, _ => rfl)) (by simp)).mono ?_
  rw [HOR.1]
  rintro e w9 ⟨rfl, hb⟩
  refine ⟨_, rfl, ?_⟩
  refine hK.out _ _ ⟨g, ?_, (below_step HB.1 hb), (fun _ => blk_below (H15.1 on15) hb)⟩
  rw [HA.1]
  exact putSel_upk 16 hb_ rfl rfl rfl
 refine steps_cons ?_ ?_
 ·rintro b a w' ⟨g, ha, hB, h15⟩ hb_ hon hoff
  refine ⟨_, rfl, fun K hK => ?_⟩
  have e22 : a.tmps[22]? = some (.int .i64 r) := by rw [ha]; exact putSel_on (e := (16, 22, .int .i64 r)) 16 rfl rfl (hon 16 (by kernel_rfl)) (HS 22 (by decide))
  have on15 := hon 15 (by kernel_rfl)
  have HB := Ak hB
  have H15 := Ak h15
  have HA := Ak ha
  clear ha hB h15
  refine value_ (w1 := w') (v := .int .i64 r) (by rfl) rfl ?_ ?_
  ·go_simp; try rfl
  ·refine hK.out _ _ ⟨g, ?_, HB.1, (fun _ => H15.1 on15)⟩
   rw [HA.1]
   exact putSel_upk 17 hb_ rfl rfl rfl
 exact steps_nil
 ·rintro b a w' hall ⟨g, ha, hB, h15⟩
  have hb0_ := hall 0 (by kernel_rfl)
  have hb1_ := hall 1 (by kernel_rfl)
  have hb2_ := hall 2 (by kernel_rfl)
  have hb3_ := hall 3 (by kernel_rfl)
  have hb4_ := hall 4 (by kernel_rfl)
  have hb5_ := hall 5 (by kernel_rfl)
  have hb6_ := hall 6 (by kernel_rfl)
  have hb7_ := hall 7 (by kernel_rfl)
  have hb8_ := hall 8 (by kernel_rfl)
  have hb9_ := hall 9 (by kernel_rfl)
  have hb10_ := hall 10 (by kernel_rfl)
  have hb11_ := hall 11 (by kernel_rfl)
  have hb12_ := hall 12 (by kernel_rfl)
  have hb13_ := hall 13 (by kernel_rfl)
  have hb14_ := hall 14 (by kernel_rfl)
  have hb15_ := hall 15 (by kernel_rfl)
  have hb16_ := hall 16 (by kernel_rfl)
  have hb17_ := hall 17 (by kernel_rfl)
  have h := HE.1 g w' hB
  subst ha
  simp only [putSel, hb0_, hb1_, hb2_, hb3_, hb4_, hb5_, hb6_, hb7_, hb8_, hb9_, hb10_, hb11_, hb12_, hb13_, hb14_, hb15_, hb16_, hb17_, if_true]
  exact h
def cmpR (I : Spec α) (rt : α → Int) (x y : α) : Int := orV [cmpI (rt y) (rt x), cmpI (I.dl x) (I.dl y), placeI I x y]
def Rated (I : Spec α) (next : Int) (rt : α → Int) : Prop := ∀ x W, Calls Tryz.prog 10 #[.agg (I.enc x).toArray, .int .i64 next] W fun e w' => e = .returned (.int .i64 (rt x)) ∧ Below W.heap.size W w'
set_option maxHeartbeats 8000000 in
set_option maxRecDepth 100000 in
theorem byRate_calls (I : Spec α) (next : Int) (rt : α → Int) (hR : Rated I next rt) (x y : α) (q : Nat) (w : World) (hq : w.heap[q]? = some (.cells #[.int .i64 next] 3 (0, 0))) :
 Calls Tryz.prog 76 (#[.agg (I.enc x).toArray, .agg (I.enc y).toArray] ++ #[.pointer (some ⟨q, 0, none⟩)]) w fun e w' => e = .returned (.int .i64 (cmpR I rt x y)) ∧ Below w.heap.size w w' := by
 have HX := Ak (hR x)
 have HY := Ak (hR y)
 have C1 := Ak (compare_calls (rt y) (rt x))
 have C2 := Ak (compare_calls (I.dl x) (I.dl y))
 have C3 := Ak (place_calls I x y)
 have KX := Ak (And.intro (I.hk x) (I.at_dl x))
 have KY := Ak (And.intro (I.hk y) (I.at_dl y))
 clear hR
 unfold cmpR
 generalize cmpI (rt y) (rt x) = c1 at C1 ⊢
 generalize cmpI (I.dl x) (I.dl y) = c2 at C2 ⊢
 generalize placeI I x y = c3 at C3 ⊢
 obtain ⟨r, hr⟩ : ∃ r, orV [c1, c2, c3] = r := ⟨_, rfl⟩
 rw [hr]
 have HO := Ak hr
 generalize rt x = rx at HX C1
 generalize rt y = ry at HY C1
 generalize I.dl x = dx at C2 KX
 generalize I.dl y = dy at C2 KY
 generalize I.enc x = cx at HX C3 KX ⊢
 generalize I.enc y = cy at HY C3 KY ⊢
 have BQ := Ak hq
 have HB := Ak (Below.refl w.heap.size w)
 clear hq hr
 show Calls Tryz.prog 76 #[.agg cx.toArray, .agg cy.toArray, .pointer (some ⟨q, 0, none⟩)] w _
 go_enter Tryz.func76, Tryz.ntmps76
 try go_wp2_with (first | ((with_reducible refine gate_dst (N := 3) rfl ?_); refine box_event ?hg (N := 3) ?hd (cs := cx.toArray) (t := 38) ?hr ?_; (case hd => rfl); (case hg => rfl); (case hr => first | (go_simp; done) | (go_simp; rfl)); intro gx hg w1 hbox hb; have m_HB := Ak (below_step HB.1 hb); have m_BQ := Ak (blk_below BQ.1 hb); have BX := Ak hbox; clear HB BQ hbox hb hg; have HB := m_HB; have BQ := m_BQ; clear m_HB m_BQ) | ((with_reducible refine gate_dst (N := 4) rfl ?_); refine box_event ?hg (N := 4) ?hd (cs := cy.toArray) (t := 38) ?hr ?_; (case hd => rfl); (case hg => rfl); (case hr => first | (go_simp; done) | (go_simp; rfl)); intro gy hg w2 hbox hb; have m_HB := Ak (below_step HB.1 hb); have m_BQ := Ak (blk_below BQ.1 hb); have m_BX := Ak (blk_below BX.1 hb); have BY := Ak hbox; clear HB BQ BX hbox hb hg; have HB := m_HB; have BQ := m_BQ; have BX := m_BX; clear m_HB m_BQ m_BX))
 refine byRate.reg1 (cx := cx) (cy := cy) (gx := gx) (gy := gy) (q := q) (next := next) (rx := rx) (ry := ry) (c1 := c1) (c2 := c2) (c3 := c3) (dx := dx) (dy := dy) (r := r) ?hsz ?h2 ?h3 ?h4 ?hld ?a1 ?a2 ?a3 ?a4 ?a5 ?a6 ?_
 case a1 => exact HX.1
 case a2 => exact HY.1
 case a3 => exact C1.1
 case a4 => exact C2.1
 case a5 => exact C3.1
 case a6 => exact HO.1
 case hsz => rfl
 case h2 => rfl
 case h3 => rfl
 case h4 => rfl
 case hld => exact fun W hb => ⟨row_load (blk_below BX.1 hb) 0 44 _ KX.1.1 (by rw [List.drop_zero, List.take_of_length_le (by rw [KX.1.1]; exact Nat.le_refl _)]), row_load (blk_below BY.1 hb) 0 44 _ KY.1.1 (by rw [List.drop_zero, List.take_of_length_le (by rw [KY.1.1]; exact Nat.le_refl _)]), (blk_cell (blk_below BX.1 hb) 42).trans (by simpa using KX.1.2), (blk_cell (blk_below BY.1 hb) 42).trans (by simpa using KY.1.2), (blk_cell (blk_below BQ.1 hb) 0).trans rfl⟩
 intro g W hb
 simp only [Act.put, ls_, l0_, l1_]
 have HE := Ak (HB.1.trans (hb.mono HB.1.size))
 clear hb
 go_wp2
 go_ret
 exact ⟨rfl, HE.1⟩
end Go.Proofs.YtiodebjjbgcbhaaGreat.Inp
