import Derived.Test.YtiodebjjbgcbhaaGreatInpO
import Derived.Test.YtiodebjjbgcbhaaGreatMapO
namespace Go.Proofs.YtiodebjjbgcbhaaGreat.Inp
open Go.RowKit Go.Sort Go.Lib Go.Shelf Go.Proofs YtiodebjjbgcbhaaGreatW.PrintWords YtiodebjjbgcbhaaGreatW.PrintLast YtiodebjjbgcbhaaGreatW.PrintMore YtiodebjjbgcbhaaGreat Hand RowK Fill OrdO QLef
attribute [local go_sem ↓ high] Wide.hv44 Wide.hv33 Wide.hv37
set_option linter.unusedVariables false
set_option linter.unusedSectionVars false
set_option linter.unusedSimpArgs false
variable {α : Type}
def metV (I : Spec α) (l : List α) : List (List Int × Int) := l.foldl (fun D x => if (I.bs x, I.nn x) ∈ D then D else D ++ [(I.bs x, I.nn x)]) []
def twiceV (I : Spec α) (l : List α) : Bool := decide ((metV I l).length < l.length)
def keyV (p : List Int × Int) : Value := .agg (p.1.map (Value.int .u8) ++ ([.int .i64 p.2] : List Value)).toArray
theorem keyV_inj {p q : List Int × Int} (h : keyV p = keyV q) : p = q := by
 unfold keyV at h
 have h0 := Value.agg.inj h
 have h1 : p.1.map (Value.int .u8) ++ ([.int .i64 p.2] : List Value) = q.1.map (Value.int .u8) ++ ([.int .i64 q.2] : List Value) := by have := congrArg Array.toList h0; rwa [List.toList_toArray, List.toList_toArray] at this
 have h2 := List.append_inj' h1 rfl
 have h3 : p.1 = q.1 := by
  refine List.map_inj_right (f := Value.int .u8) (fun a b e => ?_) |>.1 h2.1
  injection e
 have h4 : p.2 = q.2 := by have := h2.2; simpa using this
 exact Prod.ext h3 h4
theorem metV_snoc (I : Spec α) (l : List α) (x : α) : metV I (l ++ [x]) = if (I.bs x, I.nn x) ∈ metV I l then metV I l else metV I l ++ [(I.bs x, I.nn x)] := by
 unfold metV
 rw [List.foldl_append]
 rfl
theorem key_step (I : Spec α) (l : List α) (x : α) {K' : List Value} (h : (keyV (I.bs x, I.nn x) ∈ (metV I l).map keyV ∧ K' = (metV I l).map keyV) ∨ (keyV (I.bs x, I.nn x) ∉ (metV I l).map keyV ∧ K' = (metV I l).map keyV ++ [keyV (I.bs x, I.nn x)])) : K' = (metV I (l ++ [x])).map keyV := by
 rw [metV_snoc]
 rcases h with ⟨hm, rfl⟩ | ⟨hm, rfl⟩
 ·obtain ⟨p, hp, e⟩ := List.mem_map.1 hm
  rw [keyV_inj e] at hp
  rw [if_pos hp]
 ·rw [if_neg (fun hp => hm (List.mem_map_of_mem hp)), List.map_append]
  rfl
def Keyed (I : Spec α) (l : List α) : Prop := ∀ x ∈ l, ∃ kl, keyOf Tryz.prog 32 (keyV (I.bs x, I.nn x)) = some kl
set_option maxHeartbeats 16000000 in
set_option maxRecDepth 100000 in
theorem twice_calls (I : Spec α) (l : List α) (A : Option Addr) (c : Nat) (w : World) (hA : ReadsRow (fun x c => c = I.enc x) 44 w A l.length l) (hl : l.length < 100000) (hK : Keyed I l) :
 Calls Tryz.prog 52 #[.slice A l.length c] w fun e w' => e = .returned (.bool (twiceV I l)) ∧ Below w.heap.size w w' := by
 have HA := Ak hA
 have HL := Ak hl
 have HK := Ak hK
 have HB0 := Ak (below_alloc (Below.refl w.heap.size w) (.map #[] 0))
 have HM0 := Ak (show MapO.At [] (w.alloc (.map #[] 0)) w.heap.size #[] 0 from ⟨blk_new w _, rfl, fun e he => by simp at he, fun k hk => by simp at hk⟩)
 clear hA hl hK
 generalize hn : l.length = n at HL ⊢
 have HN := Ak hn
 clear hn
 obtain ⟨tw, htw⟩ : ∃ b, twiceV I l = b := ⟨_, rfl⟩
 rw [htw]
 have TW := Ak htw
 clear htw
 have hmk : (Instr.makeMap 132 none).run Tryz.prog w = .ok (.map (some w.heap.size)) (w.alloc (.map #[] 0)) := rfl
 go_enter Tryz.func52, Tryz.ntmps52
 go_wp2
 clear hmk
 go_loopg [9] n (fun kq v9 wr => ∃ (i : Nat) (es : Array MapEntry) (clock : Nat), v9 = .int .i64 i ∧ i ≤ n ∧ n - i ≤ kq ∧ Aside0 (MapO.At ((metV I (l.take i)).map keyV) wr w.heap.size es clock) ∧ Aside0 (Below w.heap.size w wr))
 case atStart => exact ⟨0, #[], 0, rfl, by omega, by omega, HM0, HB0⟩
 case round =>
  clear HM0 HB0
  obtain ⟨i, es, clock, rfl, hin, hkq, HM, HB⟩ := hrel
  by_cases hlt : i < n
  ·have hltz : (i : Int) < (n : Int) := by omega
   have hil : i < l.length := by rw [HN.1]; exact hlt
   obtain ⟨ad, hAd, _⟩ := HA.1.2.2 (by omega)
   subst hAd
   have hld := reads_load I HA.1 HB.1 rfl hil
   have HT1 := Ak (List.take_succ_eq_append_getElem hil)
   have HX := Ak (And.intro (I.hk l[i]) (And.intro (I.take_pt l[i]) (I.hpt l[i])))
   have H1 := Ak (List.all_eq_true.2 (I.h1 l[i]))
   have KX := Ak (HK.1 l[i] (List.getElem_mem hil))
   have PT := Ak (show keyV (I.bs l[i], I.nn l[i]) = .agg (I.pt l[i]).toArray from rfl)
   generalize l[i] = x at hld HT1 HX H1 KX PT
   clear hil
   have HS := Ak (fun K' h => key_step I (l.take i) x (K' := K') h)
   rw [← HT1.1] at HS
   rw [PT.1] at KX HS
   generalize I.enc x = cx at hld HX H1
   generalize I.pt x = px at HX KX HS
   clear PT HT1
   obtain ⟨kl, hkl⟩ := KX.1
   have KL := Ak hkl
   clear hkl KX
   go_wp2_with (first | ((with_reducible refine gate_dst (N := 5) rfl ?_); refine Fill.fill_event (N := 5) (x := 12) (cs := cx.toArray) (t := 38) rfl rfl rfl rfl rfl rfl Tryz.zeroValue38 ?fs ?fz ?f1 (fun _ => rfl) (fun _ => rfl) ?_; (case fs => exact fun W => (Tryz.sizeOf38 W).trans (by rw [List.size_toArray, HX.1.1])); (case fz => simp [HX.1.1]); (case f1 => simpa using H1.1); intro g5 hg5 w4 hbox hb; have B5 := Ak hbox; have N5 := Ak (show w.heap.size ≠ g5 by rw [hg5]; exact Nat.ne_of_lt (Array.getElem?_eq_some_iff.1 HM.1.blk).1); replace HM := Ak (HM.1.below hb); replace HB := Ak (below_step HB.1 hb); clear hbox hb hg5))
   clear hld
   replace B5 := Ak (blk_drew B5.1)
   replace HM := Ak (show MapO.At ((metV I (l.take i)).map keyV) w4.drew w.heap.size es clock from ⟨HM.1.blk, HM.1.keys, HM.1.ints, HM.1.good⟩)
   replace HB := Ak (below_drew1 HB.1)
   refine start_ (n := 8) (S := (fun w' => Sem.run Tryz.prog (Wide.heavy0 ⟨g5, 0, none⟩ 33) w' = .ok px.toArray w')) (ds := []) #[false, false, false, false, false, false, false, false] (by kernel_rfl) rfl rfl (row_load B5.1 0 33 _ HX.1.2.2 (by rw [List.drop_zero]; exact HX.1.2.1)) (fun hHeld => ?_)
   generalize w4.drew = w6 at B5 HM HB hHeld ⊢
   refine pure_ (i := 0) (N := some 13) (v := ?_) (a' := ?_) #[true, false, false, false, false, false, false, false] rfl rfl (by kernel_rfl) (fun _ _ _ h => h) (Or.inl ⟨by rfl, ?_⟩) ?_ ?_
   rotate_left
   ·intro w'
    go_simp
    with_reducible rfl
   rotate_left
   ·simp only [Act.put, ls_, l0_, l1_, i64_w, i32_w]
    rfl
   refine pure_ (i := 1) (N := some 14) (v := ?_) (a' := ?_) #[true, true, false, false, false, false, false, false] rfl rfl (by kernel_rfl) (fun _ _ _ h => h) (Or.inl ⟨by rfl, ?_⟩) ?_ ?_
   rotate_left
   ·intro w'
    go_simp
    with_reducible rfl
   rotate_left
   ·simp only [Act.put, ls_, l0_, l1_, i64_w, i32_w]
    rfl
   refine take_ (i := 2) (N := some 15) (v := ?_) (a' := ?_) #[true, true, true, false, false, false, false, false] rfl rfl (by kernel_rfl) (fun _ _ _ h => h) (Or.inl ⟨by rfl, ?_⟩) hHeld ?_ ?_
   rotate_left
   ·rintro w' hl0
    go_simp
    with_reducible rfl
   rotate_left
   ·simp only [Act.put, ls_, l0_, l1_, i64_w, i32_w]
    rfl
   refine two_ (i := 3) (j := 5) (Ni := some 16) (Nj := some 18) #[true, true, true, true, false, false, false, false] #[true, true, true, false, false, true, false, false] rfl rfl rfl rfl (by kernel_rfl) (by decide) (by decide) (fun K hK => ?_) (fun K hK => ?_)
   ·skip
    obtain ⟨n3, h3⟩ := HM.1.look KL.1
    refine value_ (w1 := w6) (v := .int .i64 n3) (by rfl) rfl ?_ ?_
    ·first | (go_simp; done) | (go_simp; rfl)
    refine hK.out _ _ (row_load B5.1 0 33 _ HX.1.2.2 (by rw [List.drop_zero]; exact HX.1.2.1)) (fun hHeld => ?_)
    clear hK K h3
    refine norm_ (a' := ?_) ?_ ?_
    rotate_left
    ·show Act.put _ (some 16) _ = _
     simp only [Act.put, ls_, l0_, l1_, i64_w, i32_w]
     rfl
    refine pure_ (i := 4) (N := some 17) (v := ?_) (a' := ?_) #[true, true, true, true, true, false, false, false] rfl rfl (by kernel_rfl) (fun _ _ _ h => h) (Or.inl ⟨by rfl, ?_⟩) ?_ ?_
    rotate_left
    ·intro w'
     go_simp
     with_reducible rfl
    rotate_left
    ·simp only [Act.put, ls_, l0_, l1_, i64_w, i32_w]
     rfl
    refine one_ (i := 5) (N := some 18) #[true, true, true, true, true, true, false, false] rfl rfl (by kernel_rfl) (by decide) (fun K hK => ?_)
    obtain ⟨v5, born, es2, clock2, K2, h5, hm5, hb5, hk5⟩ := HM.1.entry KL.1
    have HK5 := Ak (HS.1 K2 hk5)
    have hm6 := hm5
    rw [HK5.1] at hm6
    have BN := Ak hb5
    have M6 := Ak hm6
    clear hm5 hb5 hk5 hm6
    refine value_ (w1 := Go.ChangeMaps.setBlock w6 w.heap.size (.map es2 clock2)) (v := .tuple #[v5, .int .i64 born]) (by rfl) rfl ?_ ?_
    ·first | (go_simp; done) | (go_simp; rfl)
    clear h5 HK5
    have hgs := HM.1.grown es2 clock2
    have m_B5 := Ak (blk_grown B5.1 hgs (by simpa using Ne.symm N5.1))
    have m_HB := Ak (pw_below_grown HB.1 (some w.heap.size) HB.1.size hgs (fun k e => by cases e; exact Nat.le_refl _))
    clear B5 HB HM hgs
    have B5 := m_B5
    have HB := m_HB
    have HM := M6
    clear m_B5 m_HB M6
    generalize Go.ChangeMaps.setBlock w6 w.heap.size (.map es2 clock2) = w7 at B5 HB HM ⊢
    refine hK.out _ _ (row_load B5.1 0 33 _ HX.1.2.2 (by rw [List.drop_zero]; exact HX.1.2.1)) (fun hHeld => ?_)
    clear hK K
    refine norm_ (a' := ?_) ?_ ?_
    rotate_left
    ·show Act.put _ (some 18) _ = _
     simp only [Act.put, ls_, l0_, l1_, i64_w, i32_w]
     rfl
    refine pure_ (i := 6) (N := some 19) (v := ?_) (a' := ?_) #[true, true, true, true, true, true, true, false] rfl rfl (by kernel_rfl) (fun _ _ _ h => h) (Or.inl ⟨by rfl, ?_⟩) ?_ ?_
    rotate_left
    ·intro w'
     go_simp
     with_reducible rfl
    rotate_left
    ·simp only [Act.put, ls_, l0_, l1_, i64_w, i32_w]
     rfl
    refine one_ (i := 7) (N := none) #[true, true, true, true, true, true, true, true] rfl rfl (by kernel_rfl) (by decide) (fun K hK => ?_)
    obtain ⟨es3, clock3, h7, hm7⟩ := HM.1.store BN.1 (wrap64 (n3 + 1))
    refine skip_ (w1 := Go.ChangeMaps.setBlock w7 w.heap.size (.map es3 clock3)) (by rfl) rfl ?_ ?_
    ·first | (go_simp; done) | (go_simp; rfl)
    have hgs := HM.1.grown es3 clock3
    replace B5 := Ak (blk_grown B5.1 hgs (by simpa using Ne.symm N5.1))
    replace HB := Ak (pw_below_grown HB.1 (some w.heap.size) HB.1.size hgs (fun k e => by cases e; exact Nat.le_refl _))
    replace HM := Ak hm7
    clear hgs h7 hm7
    generalize Go.ChangeMaps.setBlock w7 w.heap.size (.map es3 clock3) = w8 at B5 HB HM ⊢
    refine hK.out _ _ (row_load B5.1 0 33 _ HX.1.2.2 (by rw [List.drop_zero]; exact HX.1.2.1)) (fun hHeld => ?_)
    clear hK K
    refine done_ (by kernel_rfl) ?_
    clear hHeld
    go_wp2
    have hlb := HL.1
    go_roundg (n - (i + 1))
    case measure => omega
    case rel => exact ⟨i + 1, _, _, congrArg (Value.int .i64) (by have e := FltL.w64 (n := (i : Int) + 1) (by omega) (by omega); omega), by omega, by omega, HM, HB⟩
   ·skip
    obtain ⟨v5, born, es2, clock2, K2, h5, hm5, hb5, hk5⟩ := HM.1.entry KL.1
    have HK5 := Ak (HS.1 K2 hk5)
    have hm6 := hm5
    rw [HK5.1] at hm6
    have BN := Ak hb5
    have M6 := Ak hm6
    clear hm5 hb5 hk5 hm6
    refine value_ (w1 := Go.ChangeMaps.setBlock w6 w.heap.size (.map es2 clock2)) (v := .tuple #[v5, .int .i64 born]) (by rfl) rfl ?_ ?_
    ·first | (go_simp; done) | (go_simp; rfl)
    clear h5 HK5
    have hgs := HM.1.grown es2 clock2
    have m_B5 := Ak (blk_grown B5.1 hgs (by simpa using Ne.symm N5.1))
    have m_HB := Ak (pw_below_grown HB.1 (some w.heap.size) HB.1.size hgs (fun k e => by cases e; exact Nat.le_refl _))
    clear B5 HB HM hgs
    have B5 := m_B5
    have HB := m_HB
    have HM := M6
    clear m_B5 m_HB M6
    generalize Go.ChangeMaps.setBlock w6 w.heap.size (.map es2 clock2) = w7 at B5 HB HM ⊢
    refine hK.out _ _ (row_load B5.1 0 33 _ HX.1.2.2 (by rw [List.drop_zero]; exact HX.1.2.1)) (fun hHeld => ?_)
    clear hK K
    refine norm_ (a' := ?_) ?_ ?_
    rotate_left
    ·show Act.put _ (some 18) _ = _
     simp only [Act.put, ls_, l0_, l1_, i64_w, i32_w]
     rfl
    refine pure_ (i := 6) (N := some 19) (v := ?_) (a' := ?_) #[true, true, true, false, false, true, true, false] rfl rfl (by kernel_rfl) (fun _ _ _ h => h) (Or.inl ⟨by rfl, ?_⟩) ?_ ?_
    rotate_left
    ·intro w'
     go_simp
     with_reducible rfl
    rotate_left
    ·simp only [Act.put, ls_, l0_, l1_, i64_w, i32_w]
     rfl
    refine one_ (i := 3) (N := some 16) #[true, true, true, true, false, true, true, false] rfl rfl (by kernel_rfl) (by decide) (fun K hK => ?_)
    obtain ⟨n3, h3⟩ := HM.1.look KL.1
    refine value_ (w1 := w7) (v := .int .i64 n3) (by rfl) rfl ?_ ?_
    ·first | (go_simp; done) | (go_simp; rfl)
    refine hK.out _ _ (row_load B5.1 0 33 _ HX.1.2.2 (by rw [List.drop_zero]; exact HX.1.2.1)) (fun hHeld => ?_)
    clear hK K h3
    refine norm_ (a' := ?_) ?_ ?_
    rotate_left
    ·show Act.put _ (some 16) _ = _
     simp only [Act.put, ls_, l0_, l1_, i64_w, i32_w]
     rfl
    refine pure_ (i := 4) (N := some 17) (v := ?_) (a' := ?_) #[true, true, true, true, true, true, true, false] rfl rfl (by kernel_rfl) (fun _ _ _ h => h) (Or.inl ⟨by rfl, ?_⟩) ?_ ?_
    rotate_left
    ·intro w'
     go_simp
     with_reducible rfl
    rotate_left
    ·simp only [Act.put, ls_, l0_, l1_, i64_w, i32_w]
     rfl
    refine one_ (i := 7) (N := none) #[true, true, true, true, true, true, true, true] rfl rfl (by kernel_rfl) (by decide) (fun K hK => ?_)
    obtain ⟨es3, clock3, h7, hm7⟩ := HM.1.store BN.1 (wrap64 (n3 + 1))
    refine skip_ (w1 := Go.ChangeMaps.setBlock w7 w.heap.size (.map es3 clock3)) (by rfl) rfl ?_ ?_
    ·first | (go_simp; done) | (go_simp; rfl)
    have hgs := HM.1.grown es3 clock3
    replace B5 := Ak (blk_grown B5.1 hgs (by simpa using Ne.symm N5.1))
    replace HB := Ak (pw_below_grown HB.1 (some w.heap.size) HB.1.size hgs (fun k e => by cases e; exact Nat.le_refl _))
    replace HM := Ak hm7
    clear hgs h7 hm7
    generalize Go.ChangeMaps.setBlock w7 w.heap.size (.map es3 clock3) = w8 at B5 HB HM ⊢
    refine hK.out _ _ (row_load B5.1 0 33 _ HX.1.2.2 (by rw [List.drop_zero]; exact HX.1.2.1)) (fun hHeld => ?_)
    clear hK K
    refine done_ (by kernel_rfl) ?_
    clear hHeld
    go_wp2
    have hlb := HL.1
    go_roundg (n - (i + 1))
    case measure => omega
    case rel => exact ⟨i + 1, _, _, congrArg (Value.int .i64) (by have e := FltL.w64 (n := (i : Int) + 1) (by omega) (by omega); omega), by omega, by omega, HM, HB⟩
  ·obtain rfl : i = n := by omega
   have hnl : ¬ (i : Int) < (i : Int) := by omega
   have E := Ak (show tw = decide (((metV I (l.take i)).map keyV).length < i) by rw [← TW.1, List.take_of_length_le (by rw [HN.1]; exact Nat.le_refl _), List.length_map, twiceV, HN.1])
   have hlen := fun ty => HM.1.len ty
   generalize ((metV I (l.take i)).map keyV).length = m at hlen E
   by_cases hmi : m < i
   ·have hmz : (m : Int) < (i : Int) := by omega
    have E2 := Ak (show tw = true by rw [E.1]; simpa using hmi)
    clear hmi
    go_wp2
    go_ret
    exact ⟨by rw [E2.1]; first | rfl | simp, HB.1⟩
   ·have hmz : ¬ (m : Int) < (i : Int) := by omega
    have E2 := Ak (show tw = false by rw [E.1]; simpa using hmi)
    clear hmi
    go_wp2
    go_ret
    exact ⟨by rw [E2.1]; first | rfl | simp, HB.1⟩
end Go.Proofs.YtiodebjjbgcbhaaGreat.Inp
namespace Go.Proofs.YtiodebjjbgcbhaaGreat.Inp
open Go.RowKit Go.Sort Go.Lib Go.Shelf Go.Proofs YtiodebjjbgcbhaaGreatW.PrintWords YtiodebjjbgcbhaaGreatW.PrintLast YtiodebjjbgcbhaaGreatW.PrintMore YtiodebjjbgcbhaaGreat Hand RowK Fill OrdO QLef
set_option linter.unusedVariables false
set_option linter.unusedSectionVars false
set_option linter.unusedSimpArgs false
variable {α : Type} {I : Spec α} {w0 w : World} {base : Nat} {v : Value} {l W : List α}
theorem OwnI.owns (h : OwnI I w base v l) : w.ownsRow base 38 44 v l.length (l.flatMap I.enc) := by
 refine ⟨DelB.flat_len' I.enc 44 l (fun y _ => I.hk y), ?_⟩
 rcases h with ⟨rfl, rfl⟩ | ⟨g, cap, cur, rfl, h1, h2, h3, h4, h5, h6⟩
 ·exact .inl ⟨rfl, rfl⟩
 ·exact .inr ⟨g, cap, cur.toArray, rfl, h1, h2, h3, h4, by simpa using h5, h6⟩
theorem OwnI.of_owns (h : w.ownsRow base 38 44 v l.length (l.flatMap I.enc)) : OwnI I w base v l := by
 rcases h.2 with ⟨rfl, hz⟩ | ⟨g, cap, cur, rfl, h1, h2, h3, h4, h5, h6⟩
 ·exact .inl ⟨rfl, List.length_eq_zero_iff.1 hz⟩
 ·exact .inr ⟨g, cap, cur.toList, rfl, h1, by rw [Array.toArray_toList]; exact h2, h3, h4, by simpa using h5, h6⟩
theorem flat_cell {cur : List Value} {g : Nat} (hb : w.heap[g]? = some (.cells cur.toArray 38 (0, 0))) (ht : cur.take (l.length * 44) = l.flatMap I.enc) (j : Nat) (x : α) (hx : l[j]? = some x) (i : Nat) (u : Value) (hu : (I.enc x)[i]? = some u) : w.cell? ⟨g, j * 44 + i, none⟩ = some u := by
 have hj : j < l.length := (List.getElem?_eq_some_iff.1 hx).1
 have hxj : l[j] = x := (List.getElem?_eq_some_iff.1 hx).2
 have hch := DelB.flat_chunk I.enc 44 l (fun y _ => I.hk y) j hj
 rw [← ht, hxj] at hch
 have hi : i < 44 := by have := (List.getElem?_eq_some_iff.1 hu).1; rwa [I.hk] at this
 rw [← hch, List.getElem?_take_of_lt hi, List.getElem?_drop, List.getElem?_take_of_lt (by omega)] at hu
 exact cell_of_block hb _ _ hu
theorem OwnI.reads (h : OwnI I w base v l) : ∃ A cap, v = .slice A l.length cap ∧ ReadsRow (fun x c => c = I.enc x) 44 w A l.length l := by
 rcases h with ⟨rfl, rfl⟩ | ⟨g, cap, cur, rfl, h1, h2, h3, h4, h5, h6⟩
 ·exact ⟨none, 0, rfl, rfl, by simp, fun h => absurd h (by simp)⟩
 ·exact ⟨_, cap, rfl, rfl, by unfold maxLen at h4; omega, fun _ => ⟨⟨g, 0, none⟩, rfl, fun j x hx => ⟨I.enc x, I.hk x, rfl, fun i u hu => by
   rw [Addr.add_lit, Nat.zero_add]
   exact flat_cell h2 h6 j x hx i u hu⟩⟩⟩
theorem OwnI.grown {w' : World} {b : Option Nat} (h : OwnI I w base v l) (hg : w.grownBy w' b) (hne : ∀ k, v.ownBlock = some k → some k ≠ b) : OwnI I w' base v l := by
 rcases h with h | ⟨g, cap, cur, rfl, h1, h2, h3⟩
 ·exact .inl h
 ·exact .inr ⟨g, cap, cur, rfl, h1, blk_grown h2 hg (hne g rfl), h3⟩
theorem OwnI.typed (h : OwnI I w base v l) : ∀ k, v.ownBlock = some k → ∃ cells, w.heap[k]? = some (.cells cells 38 (0, 0)) := fun k hk => own_typed h.owns k hk
theorem OwnI.lt (h : OwnI I w base v l) : ∀ k, v.ownBlock = some k → k < w.heap.size := fun k hk => own_lt h.owns k hk
theorem OwnI.ne_blk {g t : Nat} {cells : Array Value} (h : OwnI I w base v l) (hb : w.heap[g]? = some (.cells cells t (0, 0))) (ht : t ≠ 38) : some g ≠ v.ownBlock := fun e => by
 obtain ⟨c2, hc⟩ := h.typed g e.symm
 rw [hb] at hc
 injection hc with hc
 injection hc with _ h2 _
 exact ht h2
theorem info_inp : (Tryz.prog.info? 38).map (fun i => (i.zero, i.size, i.bytes)) = some (some (.agg #[(.int .u8 0), (.int .u8 0), (.int .u8 0), (.int .u8 0), (.int .u8 0), (.int .u8 0), (.int .u8 0), (.int .u8 0), (.int .u8 0), (.int .u8 0), (.int .u8 0), (.int .u8 0), (.int .u8 0), (.int .u8 0), (.int .u8 0), (.int .u8 0), (.int .u8 0), (.int .u8 0), (.int .u8 0), (.int .u8 0), (.int .u8 0), (.int .u8 0), (.int .u8 0), (.int .u8 0), (.int .u8 0), (.int .u8 0), (.int .u8 0), (.int .u8 0), (.int .u8 0), (.int .u8 0), (.int .u8 0), (.int .u8 0), (.int .i64 0), (.int .i64 0), (.int .i64 0), (.int .i64 0), (.string ⟨#[]⟩), (.int .i64 0), (.int .i64 0), (.int .i64 0), (.int .i64 0), (.int .i64 0), (.int .i64 0), (.int .i64 0)]), 44, 136) := by kernel_rfl
theorem over_more {cur : List Value} {n k : Nat} {vs : List Value} (h : n * k + k ≤ cur.length) (hv : vs.length = k) : (over cur (n * k) vs).take ((n + 1) * k) = cur.take (n * k) ++ vs ∧ (over cur (n * k) vs).take (n * k) = cur.take (n * k) := by
 have ht : (cur.take (n * k)).length = n * k := by rw [List.length_take]; omega
 have e1 : (n + 1) * k = n * k + k := by rw [Nat.add_mul, Nat.one_mul]
 unfold over
 constructor
 ·rw [e1, List.append_assoc, ← List.append_assoc, List.take_left' (by rw [List.length_append, ht, hv])]
 ·rw [List.append_assoc, List.take_left' ht]
theorem app_own (h : OwnI I w base v l) (hb : base ≤ w.heap.size) (hl : l.length < 1000000) (x : α) {g : Nat} (c : Nat) (hx : w.heap[g]? = some (.cells (I.enc x).toArray 38 (0, 0))) (ty : TypeId) :
 ∃ v' w', (Builtin.append_ #[25, 25] ty #[v, .slice (some ⟨g, 0, none⟩) 1 c]).run Tryz.prog w = .ok v' w' ∧ OwnI I w' base v' (l ++ [x]) ∧ w.grownBy w' v.ownBlock ∧ (∀ k, v'.ownBlock = some k → v.ownBlock = some k ∨ w.heap.size ≤ k) ∧ OwnI I w' base v l := by
 obtain ⟨i0, hi0, hz, hsz, hby⟩ := info_parts info_inp
 have hcell : ∀ j u, (I.enc x)[j]? = some u → w.cell? ((⟨g, 0, none⟩ : Addr).add j) = some u := fun j u hu => by rw [Addr.add_lit, Nat.zero_add]; exact cell_of_block hx j u hu
 have hfl : (l ++ [x]).flatMap I.enc = l.flatMap I.enc ++ I.enc x := by rw [List.flatMap_append]; simp
 rcases h with ⟨rfl, rfl⟩ | ⟨b, cap, cur, rfl, h1, h2, h3, h4, h5, h6⟩
 ·obtain ⟨v', w', r1, r2, r3, _, r5⟩ := run_append_own_at (P := Tryz.prog) w base 25 ty 38 i0 _ 44 136 Tryz.underlying25 hi0 hz hsz hby rfl (by decide) (.slice none 0 0) 0 [] (World.ownsRow_nil w base _ _) ⟨g, 0, none⟩ 1 c (I.enc x) (by rw [I.hk]) hcell (I.h1 x) (by unfold maxLen; omega) (by omega) hb
  refine ⟨v', w', r1, OwnI.of_owns (by rw [hfl]; simpa using r2), r3, fun k hk => ?_, .inl ⟨rfl, rfl⟩⟩
  rcases r5 with r5 | r5
  ·rw [r5] at hk; cases hk
  ·rw [r5] at hk; cases hk; exact .inr (Nat.le_refl _)
 ·have ho : OwnI I w base (.slice (some ⟨b, 0, none⟩) l.length cap) l := .inr ⟨b, cap, cur, rfl, h1, h2, h3, h4, h5, h6⟩
  by_cases hroom : l.length + 1 ≤ cap
  ·have hfit : l.length * 44 + 44 ≤ cur.length := by
    rw [h5]
    have := Nat.mul_le_mul_right 44 hroom
    omega
   have hbl := h2
   have hrun := run_append_room_cells (P := Tryz.prog) w 25 ty 38 i0 Tryz.underlying25 hi0 b 0 l.length cap ⟨g, 0, none⟩ 1 c (I.enc x) (by rw [hsz, I.hk]) hcell (I.h1 x) hroom (fun j hj => by
    rw [hsz, Nat.zero_add, blk_cell hbl, Array.getElem?_eq_getElem (by rw [I.hk] at hj; simp; omega)]; rfl) (fun j hj => blk_frozen hbl _)
   rw [hsz, Nat.zero_add] at hrun
   have hov := over_more (k := 44) hfit (I.hk x)
   have hset := heap_setCells (I.enc x) (l.length * 44) w cur hbl (by rw [I.hk]; exact hfit)
   have hlen : (over cur (l.length * 44) (I.enc x)).length = cap * 44 := by rw [over_len _ _ _ (by rw [I.hk]; exact hfit), h5]
   refine ⟨_, _, hrun, .inr ⟨b, cap, _, by rw [List.length_append]; rfl, h1, hset, by simpa using hroom, h4, hlen, by rw [List.length_append, List.length_singleton, hov.1, h6, hfl]⟩, grown_setCells b (I.enc x) (l.length * 44) w, fun k hk => .inl hk, .inr ⟨b, cap, _, rfl, h1, hset, h3, h4, hlen, by rw [hov.2, h6]⟩⟩
  ·obtain ⟨v', w', r1, r2, r3⟩ := run_append_arg_grows (P := Tryz.prog) w 25 ty 38 i0 _ 44 136 Tryz.underlying25 hi0 hz hsz hby rfl (by decide) ⟨b, 0, none⟩ l.length cap (l.flatMap I.enc) (DelB.flat_len' I.enc 44 l (fun y _ => I.hk y)) (fun j u hu => by
    have hj : j < l.length * 44 := by have := (List.getElem?_eq_some_iff.1 hu).1; rwa [DelB.flat_len' I.enc 44 l (fun y _ => I.hk y)] at this
    rw [← h6, List.getElem?_take_of_lt hj] at hu
    rw [Addr.add_lit, Nat.zero_add]
    exact cell_of_block h2 j u hu) ⟨g, 0, none⟩ 1 c (I.enc x) (by rw [I.hk]) hcell (by omega) (by unfold maxLen; omega) (by omega)
   have ho' : OwnI I w' w.heap.size v' (l ++ [x]) := OwnI.of_owns (by rw [hfl, List.length_append]; exact r2)
   exact ⟨v', w', r1, ho'.lower hb, ⟨r3.os, r3.tape, r3.output, r3.size, fun k hk _ => r3.block k hk (by simp)⟩, fun k hk => .inr (own_base r2 k hk), ho.grown r3 (fun k _ => by simp)⟩
theorem app_one {ad : Addr} (hA : ReadsRow (fun x c => c = I.enc x) 44 w0 (some ad) l.length l) (hB : Below w0.heap.size w0 w) {x0 : α} (h0 : l[0]? = some x0) (x : α) {g : Nat} (c : Nat) (hx : w.heap[g]? = some (.cells (I.enc x).toArray 38 (0, 0))) (ty : TypeId) :
 ∃ v' w', (Builtin.append_ #[25, 25] ty #[.slice (some ad) 1 1, .slice (some ⟨g, 0, none⟩) 1 c]).run Tryz.prog w = .ok v' w' ∧ OwnI I w' w.heap.size v' ([x0] ++ [x]) ∧ w.grownBy w' none := by
 obtain ⟨i0, hi0, hz, hsz, hby⟩ := info_parts info_inp
 obtain ⟨ad', e, hcc⟩ := hA.2.2 (by have := (List.getElem?_eq_some_iff.1 h0).1; omega)
 cases e
 obtain ⟨c0, hc1, rfl, hc3⟩ := hcc 0 x0 h0
 obtain ⟨v', w', h1, h2, h3⟩ := run_append_arg_grows (P := Tryz.prog) w 25 ty 38 i0 _ 44 136 Tryz.underlying25 hi0 hz hsz hby rfl (by decide) ad 1 1 (I.enc x0) (by rw [I.hk]) (fun j u hu => by
  have := hc3 j u hu
  rw [Nat.zero_mul, Nat.zero_add] at this
  exact (hB.cell (World.block_lt_of_cell? w0 _ this)).trans this) ⟨g, 0, none⟩ 1 c (I.enc x) (by rw [I.hk]) (fun j u hu => by rw [Addr.add_lit, Nat.zero_add]; exact cell_of_block hx j u hu) (by omega) (by unfold maxLen; omega) (by omega)
 refine ⟨v', w', h1, OwnI.of_owns ?_, h3⟩
 simpa using h2
def With (I : Spec α) (w0 w : World) (ad : Addr) (l : List α) (v : Value) (W : List α) (b : Option Nat) : Prop := (v = .slice (some ad) 1 1 ∧ W = l.take 1 ∧ b = none) ∨ (OwnI I w w0.heap.size v W ∧ b = v.ownBlock)
theorem With.grown {ad : Addr} {b : Option Nat} {w' : World} {r : Option Nat} (h : With I w0 w ad l v W b) (hg : w.grownBy w' r) (hne : ∀ k, b = some k → some k ≠ r) : With I w0 w' ad l v W b := by
 rcases h with h | ⟨ho, rfl⟩
 ·exact .inl h
 ·exact .inr ⟨ho.grown hg hne, rfl⟩
theorem With.app {ad : Addr} {b : Option Nat} (h : With I w0 w ad l v W b) (hA : ReadsRow (fun x c => c = I.enc x) 44 w0 (some ad) l.length l) (hB : Below w0.heap.size w0 w) (hl : 0 < l.length) (hW : W.length < 1000000) (x : α) {g : Nat} (c : Nat) (hx : w.heap[g]? = some (.cells (I.enc x).toArray 38 (0, 0))) (ty : TypeId) :
 ∃ v' w', (Builtin.append_ #[25, 25] ty #[v, .slice (some ⟨g, 0, none⟩) 1 c]).run Tryz.prog w = .ok v' w' ∧ OwnI I w' w0.heap.size v' (W ++ [x]) ∧ w.grownBy w' b ∧ (∀ k, v'.ownBlock = some k → b = some k ∨ w.heap.size ≤ k) ∧ With I w0 w' ad l v W b := by
 rcases h with ⟨rfl, rfl, rfl⟩ | ⟨ho, rfl⟩
 ·have h0 : l[0]? = some l[0] := List.getElem?_eq_getElem hl
  obtain ⟨v', w', h1, h2, h3⟩ := app_one hA hB h0 x c hx ty
  have e : l.take 1 = [l[0]] := by cases l with | nil => simp at hl | cons y ys => rfl
  refine ⟨v', w', h1, ?_, h3, fun k hk => .inr (own_base h2.owns k hk), .inl ⟨rfl, rfl, rfl⟩⟩
  rw [e]
  exact h2.lower hB.size
 ·obtain ⟨v', w', h1, h2, h3, h4, h5⟩ := app_own ho hB.size hW x c hx ty
  exact ⟨v', w', h1, h2, h3, h4, .inr ⟨h5, rfl⟩⟩
theorem With.typed {ad : Addr} {b : Option Nat} (h : With I w0 w ad l v W b) : ∀ k, b = some k → ∃ cells, w.heap[k]? = some (.cells cells 38 (0, 0)) := by
 rcases h with ⟨_, _, rfl⟩ | ⟨ho, rfl⟩
 ·intro k hk; cases hk
 ·exact ho.typed
theorem With.ne_row {β : Type} {d : Kd β} {e b' : Nat} {ok : Nat → Prop} {v2 : Value} {ys : List β} {ad : Addr} {b : Option Nat} (h : With I w0 w ad l v W b) (h' : d.R e w b' ok v2 ys) (hne : e ≠ 38) : ∀ k, b = some k → some k ≠ v2.ownBlock := fun k hk => by
 obtain ⟨cells, hc⟩ := h.typed k hk
 exact Kd.R_ne h' hc hne
theorem OwnI.ne_row {β : Type} {d : Kd β} {e b' : Nat} {ok : Nat → Prop} {v2 : Value} {ys : List β} (h : OwnI I w base v l) (h' : d.R e w b' ok v2 ys) (hne : e ≠ 38) : ∀ k, v.ownBlock = some k → some k ≠ v2.ownBlock := fun k hk => by
 obtain ⟨cells, hc⟩ := h.typed k hk
 exact Kd.R_ne h' hc hne
theorem With.reads {ad : Addr} {b : Option Nat} (h : With I w0 w ad l v W b) (hA : ReadsRow (fun x c => c = I.enc x) 44 w0 (some ad) l.length l) (hB : Below w0.heap.size w0 w) (hl : 0 < l.length) : ∃ A cap, v = .slice A W.length cap ∧ ReadsRow (fun x c => c = I.enc x) 44 w A W.length W := by
 rcases h with ⟨rfl, rfl, rfl⟩ | ⟨ho, rfl⟩
 ·have e : l.take 1 = [l[0]] := by cases l with | nil => simp at hl | cons y ys => rfl
  rw [e]
  refine ⟨some ad, 1, rfl, rfl, by simp, fun _ => ⟨ad, rfl, fun j p hj => ?_⟩⟩
  obtain ⟨ad', e', hcc⟩ := (ReadsRow.imp_ hA hB (fun _ _ h => h)).2.2 hl
  cases e'
  cases j with
  | zero => simp at hj; subst hj; exact hcc 0 _ (List.getElem?_eq_getElem hl)
  | succ j => simp at hj
 ·exact ho.reads
theorem With.lt {ad : Addr} {b : Option Nat} (h : With I w0 w ad l v W b) : ∀ k, b = some k → k < w.heap.size := by
 rcases h with ⟨_, _, rfl⟩ | ⟨ho, rfl⟩
 ·intro k hk; cases hk
 ·exact ho.lt
theorem With.ne_blk {ad : Addr} {b : Option Nat} {g t : Nat} {cells : Array Value} (h : With I w0 w ad l v W b) (hb : w.heap[g]? = some (.cells cells t (0, 0))) (ht : t ≠ 38) : some g ≠ b := by
 rcases h with ⟨_, _, rfl⟩ | ⟨ho, rfl⟩
 ·simp
 ·exact ho.ne_blk hb ht
theorem With.below {ad : Addr} {b : Option Nat} {w' : World} (h : With I w0 w ad l v W b) (hb : Below w.heap.size w w') : With I w0 w' ad l v W b := by
 rcases h with h | ⟨ho, rfl⟩
 ·exact .inl h
 ·exact .inr ⟨ho.below hb, rfl⟩
end Go.Proofs.YtiodebjjbgcbhaaGreat.Inp
