import Derived.Test.YtiodebjjbgcbhaaGreatInpQ
import Derived.Test.YtiodebjjbgcbhaaGreatInpX
namespace Go.Proofs.YtiodebjjbgcbhaaGreat.Inp
open Go.RowKit Go.Sort Go.Lib Go.Shelf Go.Proofs YtiodebjjbgcbhaaGreatW.PrintWords YtiodebjjbgcbhaaGreatW.PrintLast YtiodebjjbgcbhaaGreatW.PrintMore YtiodebjjbgcbhaaGreat Hand RowK Fill OrdO QLef LefL
attribute [local go_sem ↓ high] Wide.hv39 Wide.hv38 Wide.hv33 Wide.hv37
set_option linter.unusedVariables false
set_option linter.unusedSectionVars false
set_option linter.unusedSimpArgs false
section
variable {P : Program} {ops : Array Oper} {rest : List Oper} {o oa o2 : Oper} {a : Act} {Q : Exit → Act → World → Prop}
theorem fill_event3 {W : World} {N x M : Tmp} {y : Operand} {cs zs : Array Value} {t : TypeId} (ho : o.op = .alloc t) (hg : o.guard = none) (_hd : o.dst = some N) (hoa : oa.op = .assign y) (hga : oa.guard = none) (hda : oa.dst = some M) (ho2 : o2.op = .store t (.tmp N) (.tmp x)) (hg2 : o2.guard = none) (hd2 : o2.dst = none)
 (hz : ∀ w, (zeroValue t).run P w = .ok (.agg zs) w) (hs : ∀ w, (Go.sizeOf t).run P w = .ok cs.size w) (hzs : zs.size = cs.size) (h1 : cs.toList.all (·.oneCell') = true)
 (hx : ∀ v u, ((a.put o.dst v).put oa.dst u).eval (.tmp x) = .agg cs) (hN : ∀ v u, ((a.put o.dst v).put oa.dst u).eval (.tmp N) = v)
 (h : ∀ g, g = W.heap.size → ∀ w1, w1.heap[g]? = some (.cells cs t (0, 0)) → Below W.heap.size W w1 → wpList P ops Q rest ((a.put o.dst (.pointer (some ⟨g, 0, none⟩))).put oa.dst ((a.put o.dst (.pointer (some ⟨g, 0, none⟩))).eval y)) w1) :
 wpList P ops Q (o :: oa :: o2 :: rest) a W := by
 have r1 : (execOp a.eval o).run P W = .ok (.value (.pointer (some ⟨W.heap.size, 0, none⟩))) (W.alloc (.cells zs t (0, 0))) := by
  simp only [execOp, ho]
  simp [Instr.alloc, hz, Value.cells, go_sem]
 refine Kd.event_run hg r1 ?_
 refine Kd.event_run (v := (a.put o.dst (.pointer (some ⟨W.heap.size, 0, none⟩))).eval y) (w1 := W.alloc (.cells zs t (0, 0))) hga (by simp only [execOp, hoa]; rfl) ?_
 have r2 : (execOp ((a.put o.dst (.pointer (some ⟨W.heap.size, 0, none⟩))).put oa.dst ((a.put o.dst (.pointer (some ⟨W.heap.size, 0, none⟩))).eval y)).eval o2).run P (W.alloc (.cells zs t)) = .ok .skip (W.alloc (.cells cs t)) := by
  have hf := run_fill P W zs t cs.toList (by simp [hzs]) (fun v hv => List.all_eq_true.1 h1 v hv)
  simp only [Array.toArray_toList] at hf
  simp only [execOp, ho2, hx, hN]
  simp [Instr.storeAt, storeVar, hs, Value.cells, hf, go_sem]
 refine store_event (t := t) (p := N) (v := .tmp x) hg2 ho2 hd2 r2 ?_
 rintro w' rfl
 exact h _ rfl _ (blk_new W _) (below_alloc (Below.refl _ _) _)
end
def insOk (l : List S79) (n : Nat) : Bool := (List.range n).all fun i => match l[i]? with
 | some x => inB x && !((l.take i).any fun y => oeq y.f0 x.f0)
 | none => true
theorem insOk_succ (l : List S79) (i : Nat) (h : i < l.length) : insOk l (i + 1) = (insOk l i && (inB l[i] && !((l.take i).any fun y => oeq y.f0 l[i].f0))) := by
 unfold insOk
 rw [List.range_succ, List.all_append, List.all_cons, List.all_nil, Bool.and_true, List.getElem?_eq_getElem h]
theorem insOk_false (l : List S79) (i n : Nat) (h : i < n) (hn : n ≤ l.length) (hb : insOk l (i + 1) = false) : insOk l n = false := by
 unfold insOk at *
 rw [List.all_eq_false] at *
 obtain ⟨j, hj, hb⟩ := hb
 exact ⟨j, List.mem_range.2 (by have := List.mem_range.1 hj; omega), hb⟩
def chkT (tot : List Int → Int × Int) (l0 : List S79) (l1 : List S90) (lock : Int) : Int :=
 if 100 < l0.length ∨ 100 < l1.length then 3 else
 if l0 = [] then 1 else
 if insOk l0 l0.length = false then 1 else
 if (l1.all fun o => scB o.f1) = false then 1 else
 if (decide (0 ≤ lock) && decide (lock ≤ 1000000)) = false then 1 else
 (tot (l1.map (·.f0))).2
def encOut (x : S90) : List Value := [.int .i64 x.f0, .int .i64 x.f1.f0, .int .i64 x.f1.f1, .int .i64 x.f1.f2, .int .i64 x.f1.f3, .int .i64 x.f1.f4, .int .i64 x.f1.f5, .int .u8 x.f1.f6.f0, .int .u8 x.f1.f6.f1, .int .u8 x.f1.f6.f2, .int .u8 x.f1.f6.f3, .int .u8 x.f1.f6.f4, .int .u8 x.f1.f6.f5, .int .u8 x.f1.f6.f6, .int .u8 x.f1.f6.f7, .int .u8 x.f1.f6.f8, .int .u8 x.f1.f6.f9, .int .u8 x.f1.f6.f10, .int .u8 x.f1.f6.f11, .int .u8 x.f1.f6.f12, .int .u8 x.f1.f6.f13, .int .u8 x.f1.f6.f14, .int .u8 x.f1.f6.f15, .int .u8 x.f1.f6.f16, .int .u8 x.f1.f6.f17, .int .u8 x.f1.f6.f18, .int .u8 x.f1.f6.f19, .int .u8 x.f1.f6.f20, .int .u8 x.f1.f6.f21, .int .u8 x.f1.f6.f22, .int .u8 x.f1.f6.f23, .int .u8 x.f1.f6.f24, .int .u8 x.f1.f6.f25, .int .u8 x.f1.f6.f26, .int .u8 x.f1.f6.f27, .int .u8 x.f1.f6.f28, .int .u8 x.f1.f6.f29, .int .u8 x.f1.f6.f30, .int .u8 x.f1.f6.f31]
def encPt (x : S32) : List Value := [.int .u8 x.f0.f0, .int .u8 x.f0.f1, .int .u8 x.f0.f2, .int .u8 x.f0.f3, .int .u8 x.f0.f4, .int .u8 x.f0.f5, .int .u8 x.f0.f6, .int .u8 x.f0.f7, .int .u8 x.f0.f8, .int .u8 x.f0.f9, .int .u8 x.f0.f10, .int .u8 x.f0.f11, .int .u8 x.f0.f12, .int .u8 x.f0.f13, .int .u8 x.f0.f14, .int .u8 x.f0.f15, .int .u8 x.f0.f16, .int .u8 x.f0.f17, .int .u8 x.f0.f18, .int .u8 x.f0.f19, .int .u8 x.f0.f20, .int .u8 x.f0.f21, .int .u8 x.f0.f22, .int .u8 x.f0.f23, .int .u8 x.f0.f24, .int .u8 x.f0.f25, .int .u8 x.f0.f26, .int .u8 x.f0.f27, .int .u8 x.f0.f28, .int .u8 x.f0.f29, .int .u8 x.f0.f30, .int .u8 x.f0.f31, .int .i64 x.f1]
theorem readsOut {w : World} {A : Option Addr} {n : Nat} {l : List S90} (h : Kd.C k90 w A n l) : ReadsRow (fun x c => c = encOut x) 39 w A n l :=
 ReadsRow.imp_ h (Below.refl _ w) (fun _ _ hp => k90_open hp)
theorem reads_any {α : Type} {enc : α → List Value} {k : Nat} (hk : ∀ x, (enc x).length = k) {w W : World} {A : Option Addr} {l : List α} (hA : ReadsRow (fun x c => c = enc x) k w A l.length l) (hb : Below w.heap.size w W) {ad : Addr} (e : A = some ad) {j : Nat} (hj : j < l.length) : Sem.run Tryz.prog (Wide.heavy0 (ad.add (j * k)) k) W = .ok (enc l[j]).toArray W := by
 obtain ⟨ad', e', hcc⟩ := hA.2.2 (by omega)
 have e2 : ad = ad' := Option.some.inj (e.symm.trans e')
 subst e2
 exact run_loadCellsFrom_list Tryz.prog _ _ (enc l[j]) k (hk _) (fun i v hi => by
  obtain ⟨c, _, rfl, h3⟩ := hcc j _ (List.getElem?_eq_getElem hj)
  have h4 := h3 i v hi
  rw [Addr.add_add]
  exact (hb.cell (World.block_lt_of_cell? w _ h4)).trans h4)
set_option maxRecDepth 100000 in
theorem spends_calls' (l : List S79) (n : Nat) (hn : l.length = n) (p : S32) (A : Option Addr) (c : Nat) (hc : n ≤ c) (W : World) (hr : Kd.C k79 W A n l) : Calls Tryz.prog 68 #[.agg #[.slice A n c, .slice none 0 0, .int .i64 0], .agg (encPt p).toArray] W fun e w' => e = .returned (.int .i64 (FindQ.firstOf (fun x => oeq x.f0 p) l)) ∧ Below W.heap.size W w' := by
 subst hn
 exact tx_Spends.calls A c l none 0 [] 0 p.f0.f0 p.f0.f1 p.f0.f2 p.f0.f3 p.f0.f4 p.f0.f5 p.f0.f6 p.f0.f7 p.f0.f8 p.f0.f9 p.f0.f10 p.f0.f11 p.f0.f12 p.f0.f13 p.f0.f14 p.f0.f15 p.f0.f16 p.f0.f17 p.f0.f18 p.f0.f19 p.f0.f20 p.f0.f21 p.f0.f22 p.f0.f23 p.f0.f24 p.f0.f25 p.f0.f26 p.f0.f27 p.f0.f28 p.f0.f29 p.f0.f30 p.f0.f31 p.f1 _ W hr hc ⟨rfl, Nat.zero_le _, fun h => absurd h (Nat.lt_irrefl _)⟩ (Nat.le_refl _) rfl
theorem C_take {α : Type} {d : Kd α} {w : World} {A : Option Addr} {l : List α} (h : Kd.C d w A l.length l) (i : Nat) (hi : i ≤ l.length) : Kd.C d w A i (l.take i) := by
 refine ⟨by rw [List.length_take]; omega, ?_, ?_⟩
 ·have := h.2.1; omega
 ·intro hz
  obtain ⟨ad, e, hc⟩ := h.2.2 (by omega)
  refine ⟨ad, e, fun j p hj => hc j p ?_⟩
  rw [List.getElem?_take] at hj
  split at hj
  ·exact hj
  ·cases hj
set_option maxHeartbeats 16000000 in
set_option maxRecDepth 100000 in
theorem txcheck_calls (tot : List Int → Int × Int) (htot : ∀ l : List Int, l.length < 100000 → ∃ k, amount_Total.f k l = some (tot l)) : TxChecked (chkT tot) := by
 intro A0 c0 l0 A1 c1 l1 lock w hr0 hc0 hr1 hc1 hl0 hl1
 have HTT := Ak htot
 have HR0 := Ak hr0
 have HR1 := Ak hr1
 have HC0 := Ak hc0
 have HC1 := Ak hc1
 have HL0 := Ak hl0
 have HL1 := Ak hl1
 have HB := Ak (Below.refl w.heap.size w)
 clear htot hr0 hr1 hc0 hc1 hl0 hl1
 have hu28 := Tryz.underlying48
 obtain ⟨cv, hcv⟩ : ∃ c, chkT tot l0 l1 lock = c := ⟨_, rfl⟩
 rw [hcv]
 have CV := Ak hcv
 clear hcv
 by_cases h0 : 100 < l0.length
 ·have E := Ak (show cv = 3 by rw [← CV.1, chkT, if_pos (.inl h0)])
  have z0 : decide (100 < (l0.length : Int)) = true := decide_eq_true (by omega)
  have z1 := eq_true (show (100 : Int) < (l0.length : Int) by omega)
  clear h0
  go_enter Tryz.func37, Tryz.ntmps37
  go_wp2_with (first | ((with_reducible refine wp_scope_land 8 ?_)) | ((with_reducible refine wp_label ?_); (try simp only [land_normal])) | ((with_reducible refine wp_goto ?_); (try simp only []); refine land_goto rfl ?_) | ((with_reducible refine gate_dst (N := 1) rfl ?_); refine box_event ?hg (N := 1) ?hd (cs := #[.slice A0 l0.length c0, .slice A1 l1.length c1, .int .i64 lock]) (t := 48) ?hr ?_; (case hd => rfl); (case hg => rfl); (case hr => first | (go_simp; done) | (go_simp; rfl)); intro g1 hg w1 hbox hb; have m_HB := Ak (below_step HB.1 hb); have BK := Ak hbox; clear HB hbox hb hg; have HB := m_HB; clear m_HB; have k0_ : w1.cell? ⟨g1, 0, none⟩ = some (.slice A0 l0.length c0) := (blk_cell BK.1 0).trans rfl; have k1_ : w1.cell? ⟨g1, 1, none⟩ = some (.slice A1 l1.length c1) := (blk_cell BK.1 1).trans rfl; have k2_ : w1.cell? ⟨g1, 2, none⟩ = some (.int .i64 lock) := (blk_cell BK.1 2).trans rfl))
  (try simp only [land_ret])
  go_ret
  exact ⟨by rw [E.1] <;> rfl, HB.1⟩
 ·have z0 : decide (100 < (l0.length : Int)) = false := decide_eq_false (by omega)
  have z0a := eq_false (show ¬ (100 : Int) < (l0.length : Int) by omega)
  have L0 := Ak h0
  clear h0
  by_cases h1 : 100 < l1.length
  ·have E := Ak (show cv = 3 by rw [← CV.1, chkT, if_pos (.inr h1)])
   have z1 : decide (100 < (l1.length : Int)) = true := decide_eq_true (by omega)
   have z1a := eq_true (show (100 : Int) < (l1.length : Int) by omega)
   clear h1
   go_enter Tryz.func37, Tryz.ntmps37
   go_wp2_with (first | ((with_reducible refine wp_scope_land 8 ?_)) | ((with_reducible refine wp_label ?_); (try simp only [land_normal])) | ((with_reducible refine wp_goto ?_); (try simp only []); refine land_goto rfl ?_) | ((with_reducible refine gate_dst (N := 1) rfl ?_); refine box_event ?hg (N := 1) ?hd (cs := #[.slice A0 l0.length c0, .slice A1 l1.length c1, .int .i64 lock]) (t := 48) ?hr ?_; (case hd => rfl); (case hg => rfl); (case hr => first | (go_simp; done) | (go_simp; rfl)); intro g1 hg w1 hbox hb; have m_HB := Ak (below_step HB.1 hb); have BK := Ak hbox; clear HB hbox hb hg; have HB := m_HB; clear m_HB; have k0_ : w1.cell? ⟨g1, 0, none⟩ = some (.slice A0 l0.length c0) := (blk_cell BK.1 0).trans rfl; have k1_ : w1.cell? ⟨g1, 1, none⟩ = some (.slice A1 l1.length c1) := (blk_cell BK.1 1).trans rfl; have k2_ : w1.cell? ⟨g1, 2, none⟩ = some (.int .i64 lock) := (blk_cell BK.1 2).trans rfl))
   (try simp only [land_ret])
   go_ret
   exact ⟨by rw [E.1] <;> rfl, HB.1⟩
  ·have z1 : decide (100 < (l1.length : Int)) = false := decide_eq_false (by omega)
   have z1a := eq_false (show ¬ (100 : Int) < (l1.length : Int) by omega)
   have L1 := Ak h1
   clear h1
   have CW := Ak (show cv = _ from by rw [← CV.1, chkT, if_neg (fun h => h.elim L0.1 L1.1)])
   clear CV
   by_cases hnil : l0 = []
   ·have E := Ak (show cv = 1 by rw [CW.1, if_pos hnil])
    have hz : ((l0.length : Int) == 0) = true := by simp [hnil]
    have hz2 := eq_true (show (l0.length : Int) = 0 by simp [hnil])
    clear hnil
    go_enter Tryz.func37, Tryz.ntmps37
    go_wp2_with (first | ((with_reducible refine wp_scope_land 8 ?_)) | ((with_reducible refine wp_label ?_); (try simp only [land_normal])) | ((with_reducible refine wp_goto ?_); (try simp only []); refine land_goto rfl ?_) | ((with_reducible refine gate_dst (N := 1) rfl ?_); refine box_event ?hg (N := 1) ?hd (cs := #[.slice A0 l0.length c0, .slice A1 l1.length c1, .int .i64 lock]) (t := 48) ?hr ?_; (case hd => rfl); (case hg => rfl); (case hr => first | (go_simp; done) | (go_simp; rfl)); intro g1 hg w1 hbox hb; have m_HB := Ak (below_step HB.1 hb); have BK := Ak hbox; clear HB hbox hb hg; have HB := m_HB; clear m_HB; have k0_ : w1.cell? ⟨g1, 0, none⟩ = some (.slice A0 l0.length c0) := (blk_cell BK.1 0).trans rfl; have k1_ : w1.cell? ⟨g1, 1, none⟩ = some (.slice A1 l1.length c1) := (blk_cell BK.1 1).trans rfl; have k2_ : w1.cell? ⟨g1, 2, none⟩ = some (.int .i64 lock) := (blk_cell BK.1 2).trans rfl))
    (try simp only [land_ret])
    go_ret
    exact ⟨by rw [E.1] <;> rfl, HB.1⟩
   ·have hpos : 0 < l0.length := List.length_pos_iff.2 hnil
    have HP := Ak hpos
    have hz : ((l0.length : Int) == 0) = false := by simp; omega
    have hz2 := eq_false (show ¬ (l0.length : Int) = 0 by omega)
    have CX := Ak (show cv = _ from by rw [CW.1, if_neg hnil])
    clear CW hnil
    go_enter Tryz.func37, Tryz.ntmps37
    go_wp2_with (first | ((with_reducible refine wp_scope_land 8 ?_)) | ((with_reducible refine wp_label ?_); (try simp only [land_normal])) | ((with_reducible refine wp_goto ?_); (try simp only []); refine land_goto rfl ?_) | ((with_reducible refine gate_dst (N := 1) rfl ?_); refine box_event ?hg (N := 1) ?hd (cs := #[.slice A0 l0.length c0, .slice A1 l1.length c1, .int .i64 lock]) (t := 48) ?hr ?_; (case hd => rfl); (case hg => rfl); (case hr => first | (go_simp; done) | (go_simp; rfl)); intro g1 hg w1 hbox hb; have m_HB := Ak (below_step HB.1 hb); have BK := Ak hbox; clear HB hbox hb hg; have HB := m_HB; clear m_HB; have k0_ : w1.cell? ⟨g1, 0, none⟩ = some (.slice A0 l0.length c0) := (blk_cell BK.1 0).trans rfl; have k1_ : w1.cell? ⟨g1, 1, none⟩ = some (.slice A1 l1.length c1) := (blk_cell BK.1 1).trans rfl; have k2_ : w1.cell? ⟨g1, 2, none⟩ = some (.int .i64 lock) := (blk_cell BK.1 2).trans rfl))
    clear z0 z0a z1 z1a
    obtain ⟨ad, rfl, _⟩ := HR0.1.2.2 HP.1
    generalize hn : l0.length = n at HL0 HP hz hz2 HC0 BK ⊢
    have HN := Ak hn
    clear hn
    go_loopg [25] n (fun kq v25 wr => ∃ (i : Nat), v25 = .int .i64 i ∧ i ≤ n ∧ n - i ≤ kq ∧ Aside0 (insOk l0 i = true) ∧ Aside0 (wr.heap[g1]? = some (.cells #[.slice (some ad) n c0, .slice A1 l1.length c1, .int .i64 lock] 48 (0, 0))) ∧ Aside0 (Below w.heap.size w wr))
    case atStart => exact ⟨0, rfl, by omega, by omega, ⟨rfl⟩, BK, HB⟩
    case round =>
     clear BK HB
     obtain ⟨i, rfl, hin, hkq, HOK, BK, HB⟩ := hrel
     have hlb := L0.1
     rw [HN.1] at hlb
     by_cases hlt : i < n
     ·have hltz : (i : Int) < (n : Int) := by omega
      have hil : i < l0.length := by rw [HN.1]; exact hlt
      have hld := reads_any (enc := encIn) (k := 37) (fun _ => rfl) (readsIn HR0.1) HB.1 rfl hil
      have HE := Ak (insOk_succ l0 i hil)
      have IX := Ak (in_calls' l0[i])
      have SX := Ak (fun (W : World) (hb : Below w.heap.size w W) => spends_calls' (l0.take i) i (by rw [List.length_take]; omega) l0[i].f0 (some ad) c0 (by have := HC0.1; omega) W (Kd.C_below (C_take HR0.1 i (by omega)) hb))
      have HX := Ak (And.intro (show (encIn l0[i]).length = 37 from rfl) (And.intro (show (encIn l0[i]).take 33 = encPt l0[i].f0 from rfl) (show (encPt l0[i].f0).length = 33 from rfl)))
      have H1 := Ak (show (encIn l0[i]).all (·.oneCell') = true from rfl)
      have FN := Ak (FindQ.firstOf_nonneg (fun y => oeq y.f0 l0[i].f0) (l0.take i))
      generalize l0[i] = x at hld HE IX SX HX H1 FN
      clear hil
      generalize encPt x.f0 = px at SX HX
      generalize encIn x = cx at hld IX HX H1
      generalize FindQ.firstOf (fun y => oeq y.f0 x.f0) (l0.take i) = r at SX FN
      generalize inB x = ib at IX HE
      generalize ((l0.take i).any fun y => oeq y.f0 x.f0) = an at FN HE
      have hic : (i : Int) ≤ (c0 : Int) := by have := HC0.1; omega
      have hic2 := eq_true hic
      go_wp2_with (first | ((with_reducible refine gate_dst (N := 5) rfl ?_); refine fill_event3 (N := 5) (x := 29) (M := 4) (y := .tmp 27) (cs := cx.toArray) (t := 79) rfl rfl rfl rfl rfl rfl rfl rfl rfl Tryz.zeroValue79 ?fs ?fz ?f1 (fun _ _ => rfl) (fun _ _ => rfl) ?_; (case fs => exact fun W => (Tryz.sizeOf79 W).trans (by rw [List.size_toArray, HX.1.1])); (case fz => simp [HX.1.1]); (case f1 => simpa using H1.1); intro g5 hg5 w5 hbox hb; have B5 := Ak hbox; replace BK := Ak (blk_below BK.1 hb); replace HB := Ak (below_step HB.1 hb); clear hbox hb hg5))
      clear hld
      replace B5 := Ak (blk_drew B5.1)
      replace BK := Ak (blk_drew BK.1)
      replace HB := Ak (below_drew1 HB.1)
      refine start_ (n := 14) (S := (fun w' => Sem.run Tryz.prog (Wide.heavy0 ⟨g5, 0, none⟩ 37) w' = .ok cx.toArray w' ∧ w'.cell? ⟨g1, 0, none⟩ = some (.slice (some ad) n c0) ∧ Sem.run Tryz.prog (Wide.heavy0 ⟨g5, 0, none⟩ 33) w' = .ok px.toArray w')) (ds := []) #[false, false, false, false, false, false, false, false, false, false, false, false, false, false] (by kernel_rfl) rfl rfl ⟨row_load B5.1 0 37 _ HX.1.1 (by rw [List.drop_zero, List.take_of_length_le (by rw [HX.1.1]; exact Nat.le_refl _)]), (blk_cell BK.1 0).trans rfl, row_load B5.1 0 33 _ HX.1.2.2 (by rw [List.drop_zero]; exact HX.1.2.1)⟩ (fun hHeld => ?_)
      generalize w5.drew = w6 at B5 BK HB hHeld ⊢
      refine take_ (i := 0) (N := some 30) (v := ?_) (a' := ?_) #[true, false, false, false, false, false, false, false, false, false, false, false, false, false] rfl rfl (by kernel_rfl) (fun _ _ _ h => h) (Or.inl ⟨by rfl, ?_⟩) hHeld ?_ ?_
      rotate_left
      ·rintro w' ⟨hl0, hc0, hl1⟩
       go_simp
       with_reducible rfl
      rotate_left
      ·simp only [Act.put, ls_, l0_, l1_, i64_w, i32_w]
       rfl
      refine one_ (i := 1) (N := some 31) #[true, true, false, false, false, false, false, false, false, false, false, false, false, false] rfl rfl (by kernel_rfl) (by decide) (fun K hK => ?_)
      refine goes_ Tryz.func67 (by kernel_rfl) rfl #[.agg cx.toArray] (by rfl) rfl rfl (by (try simp only [lm_, lc_, ln_]); first | done | rfl) ?_
      refine (IX.1 _).mono ?_
      rintro e w7 ⟨rfl, hb⟩
      refine ⟨_, rfl, ?_⟩
      replace B5 := Ak (blk_below B5.1 hb)
      replace BK := Ak (blk_below BK.1 hb)
      replace HB := Ak (below_step HB.1 hb)
      clear hb
      refine hK.out _ _ ⟨row_load B5.1 0 37 _ HX.1.1 (by rw [List.drop_zero, List.take_of_length_le (by rw [HX.1.1]; exact Nat.le_refl _)]), (blk_cell BK.1 0).trans rfl, row_load B5.1 0 33 _ HX.1.2.2 (by rw [List.drop_zero]; exact HX.1.2.1)⟩ (fun hHeld => ?_)
      clear hK K
      refine norm_ (a' := ?_) ?_ ?_
      rotate_left
      ·show Act.put _ (some 31) _ = _
       simp only [Act.put, ls_, l0_, l1_, i64_w, i32_w]
       rfl
      cases ib with
      | false =>
       refine pure_ (i := 2) (N := some 32) (v := ?_) (a' := ?_) #[true, true, true, false, false, false, false, false, false, false, false, false, false, false] rfl rfl (by kernel_rfl) (fun _ _ _ h => h) (Or.inl ⟨by rfl, ?_⟩) ?_ ?_
       rotate_left
       ·intro w'
        go_simp
        with_reducible rfl
       rotate_left
       ·simp only [Act.put, ls_, l0_, l1_, i64_w, i32_w]
        rfl
       refine pure_ (i := 3) (N := some 33) (v := ?_) (a' := ?_) #[true, true, true, true, false, false, false, false, false, false, false, false, false, false] rfl rfl (by kernel_rfl) (fun _ _ _ h => h) (Or.inl ⟨by rfl, ?_⟩) ?_ ?_
       rotate_left
       ·intro w'
        go_simp
        with_reducible rfl
       rotate_left
       ·simp only [Act.put, ls_, l0_, l1_, i64_w, i32_w]
        rfl
       refine pure_ (i := 4) (N := some 34) (v := undef) (a' := ?_) #[true, true, true, true, true, false, false, false, false, false, false, false, false, false] rfl rfl (by kernel_rfl) (fun _ _ _ h => h) (Or.inr ⟨by rfl, rfl⟩) ?_ ?_
       rotate_left
       ·simp only [Act.put, ls_, l0_, l1_, i64_w, i32_w]
        rfl
       refine pure_ (i := 5) (N := some 35) (v := undef) (a' := ?_) #[true, true, true, true, true, true, false, false, false, false, false, false, false, false] rfl rfl (by kernel_rfl) (fun _ _ _ h => h) (Or.inr ⟨by rfl, rfl⟩) ?_ ?_
       rotate_left
       ·simp only [Act.put, ls_, l0_, l1_, i64_w, i32_w]
        rfl
       refine pure_ (i := 6) (N := some 36) (v := undef) (a' := ?_) #[true, true, true, true, true, true, true, false, false, false, false, false, false, false] rfl rfl (by kernel_rfl) (fun _ _ _ h => h) (Or.inr ⟨by rfl, rfl⟩) ?_ ?_
       rotate_left
       ·simp only [Act.put, ls_, l0_, l1_, i64_w, i32_w]
        rfl
       refine pure_ (i := 7) (N := some 37) (v := undef) (a' := ?_) #[true, true, true, true, true, true, true, true, false, false, false, false, false, false] rfl rfl (by kernel_rfl) (fun _ _ _ h => h) (Or.inr ⟨by rfl, rfl⟩) ?_ ?_
       rotate_left
       ·simp only [Act.put, ls_, l0_, l1_, i64_w, i32_w]
        rfl
       refine pure_ (i := 8) (N := some 38) (v := undef) (a' := ?_) #[true, true, true, true, true, true, true, true, true, false, false, false, false, false] rfl rfl (by kernel_rfl) (fun _ _ _ h => h) (Or.inr ⟨by rfl, rfl⟩) ?_ ?_
       rotate_left
       ·simp only [Act.put, ls_, l0_, l1_, i64_w, i32_w]
        rfl
       refine pure_ (i := 9) (N := some 39) (v := undef) (a' := ?_) #[true, true, true, true, true, true, true, true, true, true, false, false, false, false] rfl rfl (by kernel_rfl) (fun _ _ _ h => h) (Or.inr ⟨by rfl, rfl⟩) ?_ ?_
       rotate_left
       ·simp only [Act.put, ls_, l0_, l1_, i64_w, i32_w]
        rfl
       refine pure_ (i := 10) (N := some 40) (v := undef) (a' := ?_) #[true, true, true, true, true, true, true, true, true, true, true, false, false, false] rfl rfl (by kernel_rfl) (fun _ _ _ h => h) (Or.inr ⟨by rfl, rfl⟩) ?_ ?_
       rotate_left
       ·simp only [Act.put, ls_, l0_, l1_, i64_w, i32_w]
        rfl
       refine pure_ (i := 11) (N := some 41) (v := undef) (a' := ?_) #[true, true, true, true, true, true, true, true, true, true, true, true, false, false] rfl rfl (by kernel_rfl) (fun _ _ _ h => h) (Or.inr ⟨by rfl, rfl⟩) ?_ ?_
       rotate_left
       ·simp only [Act.put, ls_, l0_, l1_, i64_w, i32_w]
        rfl
       refine pure_ (i := 12) (N := some 42) (v := undef) (a' := ?_) #[true, true, true, true, true, true, true, true, true, true, true, true, true, false] rfl rfl (by kernel_rfl) (fun _ _ _ h => h) (Or.inr ⟨by rfl, rfl⟩) ?_ ?_
       rotate_left
       ·simp only [Act.put, ls_, l0_, l1_, i64_w, i32_w]
        rfl
       refine pure_ (i := 13) (N := some 43) (v := ?_) (a' := ?_) #[true, true, true, true, true, true, true, true, true, true, true, true, true, true] rfl rfl (by kernel_rfl) (fun _ _ _ h => h) (Or.inl ⟨by rfl, ?_⟩) ?_ ?_
       rotate_left
       ·intro w'
        go_simp
        with_reducible rfl
       rotate_left
       ·simp only [Act.put, ls_, l0_, l1_, i64_w, i32_w]
        rfl
       refine done_ (by kernel_rfl) ?_
       clear hHeld
       go_wp2_with (first | ((with_reducible refine wp_scope_land 8 ?_)) | ((with_reducible refine wp_label ?_); (try simp only [land_normal])) | ((with_reducible refine wp_goto ?_); (try simp only []); refine land_goto rfl ?_))
       have E := Ak (show cv = 1 by rw [CX.1, if_pos (insOk_false l0 i l0.length (by rw [HN.1]; exact hlt) (Nat.le_refl _) (by rw [HE.1]; simp))])
       (try simp only [land_ret])
       go_ret
       exact ⟨by rw [E.1] <;> rfl, HB.1⟩
      | true =>
       refine pure_ (i := 2) (N := some 32) (v := ?_) (a' := ?_) #[true, true, true, false, false, false, false, false, false, false, false, false, false, false] rfl rfl (by kernel_rfl) (fun _ _ _ h => h) (Or.inl ⟨by rfl, ?_⟩) ?_ ?_
       rotate_left
       ·intro w'
        go_simp
        with_reducible rfl
       rotate_left
       ·simp only [Act.put, ls_, l0_, l1_, i64_w, i32_w]
        rfl
       refine pure_ (i := 3) (N := some 33) (v := ?_) (a' := ?_) #[true, true, true, true, false, false, false, false, false, false, false, false, false, false] rfl rfl (by kernel_rfl) (fun _ _ _ h => h) (Or.inl ⟨by rfl, ?_⟩) ?_ ?_
       rotate_left
       ·intro w'
        go_simp
        with_reducible rfl
       rotate_left
       ·simp only [Act.put, ls_, l0_, l1_, i64_w, i32_w]
        rfl
       refine pure_ (i := 4) (N := some 34) (v := ?_) (a' := ?_) #[true, true, true, true, true, false, false, false, false, false, false, false, false, false] rfl rfl (by kernel_rfl) (fun _ _ _ h => h) (Or.inl ⟨by rfl, ?_⟩) ?_ ?_
       rotate_left
       ·intro w'
        go_simp
        with_reducible rfl
       rotate_left
       ·simp only [Act.put, ls_, l0_, l1_, i64_w, i32_w]
        rfl
       refine take_ (i := 5) (N := some 35) (v := ?_) (a' := ?_) #[true, true, true, true, true, true, false, false, false, false, false, false, false, false] rfl rfl (by kernel_rfl) (fun _ _ _ h => h) (Or.inl ⟨by rfl, ?_⟩) hHeld ?_ ?_
       rotate_left
       ·rintro w' ⟨hl0, hc0, hl1⟩
        go_simp
        with_reducible rfl
       rotate_left
       ·simp only [Act.put, ls_, l0_, l1_, i64_w, i32_w]
        rfl
       refine pure_ (i := 6) (N := some 36) (v := ?_) (a' := ?_) #[true, true, true, true, true, true, true, false, false, false, false, false, false, false] rfl rfl (by kernel_rfl) (fun _ _ _ h => h) (Or.inl ⟨by rfl, ?_⟩) ?_ ?_
       rotate_left
       ·intro w'
        go_simp
        with_reducible rfl
       rotate_left
       ·simp only [Act.put, ls_, l0_, l1_, i64_w, i32_w]
        rfl
       refine pure_ (i := 7) (N := some 37) (v := ?_) (a' := ?_) #[true, true, true, true, true, true, true, true, false, false, false, false, false, false] rfl rfl (by kernel_rfl) (fun _ _ _ h => h) (Or.inl ⟨by rfl, ?_⟩) ?_ ?_
       rotate_left
       ·intro w'
        go_simp
        with_reducible rfl
       rotate_left
       ·simp only [Act.put, ls_, l0_, l1_, i64_w, i32_w]
        rfl
       refine pure_ (i := 8) (N := some 38) (v := ?_) (a' := ?_) #[true, true, true, true, true, true, true, true, true, false, false, false, false, false] rfl rfl (by kernel_rfl) (fun _ _ _ h => h) (Or.inl ⟨by rfl, ?_⟩) ?_ ?_
       rotate_left
       ·intro w'
        go_simp
        with_reducible rfl
       rotate_left
       ·simp only [Act.put, ls_, l0_, l1_, i64_w, i32_w]
        rfl
       refine pure_ (i := 9) (N := some 39) (v := ?_) (a' := ?_) #[true, true, true, true, true, true, true, true, true, true, false, false, false, false] rfl rfl (by kernel_rfl) (fun _ _ _ h => h) (Or.inl ⟨by rfl, ?_⟩) ?_ ?_
       rotate_left
       ·intro w'
        go_simp
        with_reducible rfl
       rotate_left
       ·simp only [Act.put, ls_, l0_, l1_, i64_w, i32_w]
        rfl
       refine take_ (i := 10) (N := some 40) (v := ?_) (a' := ?_) #[true, true, true, true, true, true, true, true, true, true, true, false, false, false] rfl rfl (by kernel_rfl) (fun _ _ _ h => h) (Or.inl ⟨by rfl, ?_⟩) hHeld ?_ ?_
       rotate_left
       ·rintro w' ⟨hl0, hc0, hl1⟩
        go_simp
        with_reducible rfl
       rotate_left
       ·simp only [Act.put, ls_, l0_, l1_, i64_w, i32_w]
        rfl
       refine one_ (i := 11) (N := some 41) #[true, true, true, true, true, true, true, true, true, true, true, true, false, false] rfl rfl (by kernel_rfl) (by decide) (fun K hK => ?_)
       refine goes_ Tryz.func68 (by kernel_rfl) rfl #[.agg #[.slice (some ad) i c0, .slice none 0 0, .int .i64 0], .agg px.toArray] (by rfl) rfl rfl (by (try simp only [lm_, lc_, ln_]); first | done | rfl) ?_
       refine (SX.1 _ HB.1).mono ?_
       rintro e w8 ⟨rfl, hb⟩
       refine ⟨_, rfl, ?_⟩
       replace B5 := Ak (blk_below B5.1 hb)
       replace BK := Ak (blk_below BK.1 hb)
       replace HB := Ak (below_step HB.1 hb)
       clear hb
       refine hK.out _ _ ⟨row_load B5.1 0 37 _ HX.1.1 (by rw [List.drop_zero, List.take_of_length_le (by rw [HX.1.1]; exact Nat.le_refl _)]), (blk_cell BK.1 0).trans rfl, row_load B5.1 0 33 _ HX.1.2.2 (by rw [List.drop_zero]; exact HX.1.2.1)⟩ (fun hHeld => ?_)
       clear hK K
       refine norm_ (a' := ?_) ?_ ?_
       rotate_left
       ·show Act.put _ (some 41) _ = _
        simp only [Act.put, ls_, l0_, l1_, i64_w, i32_w]
        rfl
       refine pure_ (i := 12) (N := some 42) (v := ?_) (a' := ?_) #[true, true, true, true, true, true, true, true, true, true, true, true, true, false] rfl rfl (by kernel_rfl) (fun _ _ _ h => h) (Or.inl ⟨by rfl, ?_⟩) ?_ ?_
       rotate_left
       ·intro w'
        go_simp
        with_reducible rfl
       rotate_left
       ·simp only [Act.put, ls_, l0_, l1_, i64_w, i32_w]
        rfl
       refine pure_ (i := 13) (N := some 43) (v := ?_) (a' := ?_) #[true, true, true, true, true, true, true, true, true, true, true, true, true, true] rfl rfl (by kernel_rfl) (fun _ _ _ h => h) (Or.inl ⟨by rfl, ?_⟩) ?_ ?_
       rotate_left
       ·intro w'
        go_simp
        with_reducible rfl
       rotate_left
       ·simp only [Act.put, ls_, l0_, l1_, i64_w, i32_w]
        rfl
       refine done_ (by kernel_rfl) ?_
       clear hHeld
       by_cases hr : 0 ≤ r
       ·have g1_ := eq_true hr
        first | rw [decide_eq_true hr] | simp only [g1_, decide_true]
        have E := Ak (show cv = 1 by rw [CX.1, if_pos (insOk_false l0 i l0.length (by rw [HN.1]; exact hlt) (Nat.le_refl _) (by rw [HE.1, FN.1, decide_eq_true hr]; simp))])
        go_wp2_with (first | ((with_reducible refine wp_scope_land 8 ?_)) | ((with_reducible refine wp_label ?_); (try simp only [land_normal])) | ((with_reducible refine wp_goto ?_); (try simp only []); refine land_goto rfl ?_))
        (try simp only [land_ret])
        go_ret
        exact ⟨by rw [E.1] <;> rfl, HB.1⟩
       ·have g1_ := eq_false hr
        first | rw [decide_eq_false hr] | simp only [g1_, decide_false]
        have HO2 := Ak (show insOk l0 (i + 1) = true by rw [HE.1, HOK.out, FN.1, decide_eq_false hr]; rfl)
        go_wp2_with (first | ((with_reducible refine wp_scope_land 8 ?_)) | ((with_reducible refine wp_label ?_); (try simp only [land_normal])) | ((with_reducible refine wp_goto ?_); (try simp only []); refine land_goto rfl ?_))
        go_roundg (n - (i + 1))
        case measure => omega
        case rel => exact ⟨i + 1, congrArg (Value.int .i64) (by have e := FltL.w64 (n := (i : Int) + 1) (by omega) (by omega); omega), by omega, by omega, HO2, BK, HB⟩
     ·obtain rfl : n = i := by omega
      have hnl : ¬ (n : Int) < (n : Int) := by omega
      have CY := Ak (show cv = _ from by rw [CX.1, if_neg (by rw [HN.1, HOK.out]; decide)])
      clear CX HOK hz hz2
      have k0_ : wr.cell? ⟨g1, 0, none⟩ = some (.slice (some ad) n c0) := (blk_cell BK.1 0).trans rfl; have k1_ : wr.cell? ⟨g1, 1, none⟩ = some (.slice A1 l1.length c1) := (blk_cell BK.1 1).trans rfl; have k2_ : wr.cell? ⟨g1, 2, none⟩ = some (.int .i64 lock) := (blk_cell BK.1 2).trans rfl
      go_wp2_with (first | ((with_reducible refine wp_scope_land 8 ?_)) | ((with_reducible refine wp_label ?_); (try simp only [land_normal])) | ((with_reducible refine wp_goto ?_); (try simp only []); refine land_goto rfl ?_))
      clear k0_ k1_ k2_
      generalize hm : l1.length = m at HL1 L1 HC1 BK ⊢
      have HM := Ak hm
      clear hm
      go_loopg [3, 48] m (fun kq v3 v48 wr => ∃ (i : Nat), v48 = .int .i64 i ∧ i ≤ m ∧ m - i ≤ kq ∧ Aside0 ((l1.take i).all (fun o => scB o.f1) = true) ∧ Aside0 (wr.heap[g1]? = some (.cells #[.slice (some ad) n c0, .slice A1 m c1, .int .i64 lock] 48 (0, 0))) ∧ Aside0 (Kd.R (Kd.int .i64) 3 wr w.heap.size (fun _ => True) v3 ((l1.take i).map (·.f0))) ∧ Aside0 (Below w.heap.size w wr))
      case atStart => exact ⟨0, rfl, by omega, by omega, ⟨rfl⟩, BK, ⟨Kd.R_nil _ _ _ _ _⟩, HB⟩
      case round =>
       clear BK HB
       obtain ⟨i, rfl, hin, hkq, HOK, BK, H3, HB⟩ := hrel
       have hlb := L1.1
       by_cases hlt : i < m
       ·have hltz : (i : Int) < (m : Int) := by omega
        have hil : i < l1.length := by rw [HM.1]; exact hlt
        obtain ⟨ad1, hAd, _⟩ := HR1.1.2.2 (by omega)
        subst hAd
        have hld := reads_any (enc := encOut) (k := 39) (fun _ => rfl) (readsOut HR1.1) HB.1 rfl hil
        have HT1 := Ak (List.take_succ_eq_append_getElem hil)
        have HMEM := Ak (List.getElem_mem hil)
        have SX := Ak (script_calls' l1[i].f1)
        have HX := Ak (And.intro (show (encOut l1[i]).length = 39 from rfl) (And.intro (show ((encOut l1[i]).drop 1).take 38 = encSc l1[i].f1 from rfl) (And.intro (show (encSc l1[i].f1).length = 38 from rfl) (show (encOut l1[i])[0]? = some (.int .i64 l1[i].f0) from rfl))))
        have H1 := Ak (show (encOut l1[i]).all (·.oneCell') = true from rfl)
        have HSB := Ak (show scB l1[i].f1 = scB l1[i].f1 from rfl)
        generalize encSc l1[i].f1 = sx at SX HX
        generalize encOut l1[i] = cx at hld HX H1
        generalize l1[i] = x at SX HX HT1 HMEM HSB
        clear hil
        obtain ⟨sb, hsb⟩ : ∃ b, scB x.f1 = b := ⟨_, rfl⟩
        rw [hsb] at SX
        have SB := Ak hsb
        clear hsb HSB
        cases sb with
        | false =>
         go_wp2_with (first | ((with_reducible refine wp_scope_land 8 ?_)) | ((with_reducible refine wp_label ?_); (try simp only [land_normal])) | ((with_reducible refine wp_goto ?_); (try simp only []); refine land_goto rfl ?_) | ((with_reducible refine gate_dst (N := 7) rfl ?_); refine Fill.fill_event (N := 7) (x := 51) (cs := cx.toArray) (t := 90) rfl rfl rfl rfl rfl rfl Tryz.zeroValue90 ?fs ?fz ?f1 (fun _ => rfl) (fun _ => rfl) ?_; (case fs => exact fun W => (Tryz.sizeOf90 W).trans (by rw [List.size_toArray, HX.1.1])); (case fz => simp [HX.1.1]); (case f1 => simpa using H1.1); intro g7 hg7 w5 hbox hb; have B7 := Ak hbox; replace BK := Ak (blk_below BK.1 hb); replace H3 := Ak (Kd.R_below H3.1 hb); replace HB := Ak (below_step HB.1 hb); clear hbox hb hg7 hld; have hl1 : Sem.run Tryz.prog (Wide.heavy0 ⟨g7, 1, none⟩ 38) w5 = .ok sx.toArray w5 := row_load B7.1 1 38 _ HX.1.2.2.1 HX.1.2.1) | ((with_reducible refine gate_callee (f := 69) rfl ?_); refine goesL_ (some 54) rfl rfl Tryz.func69 (by kernel_rfl) rfl #[.agg sx.toArray] rfl (by (try simp only [lm_, lc_, ln_]); first | done | rfl) ?_; refine (SX.1 _).mono ?_; rintro e w6 ⟨rfl, hb⟩; refine ⟨_, rfl, ?_⟩; clear hl1; replace B7 := Ak (blk_below B7.1 hb); replace BK := Ak (blk_below BK.1 hb); replace H3 := Ak (Kd.R_below H3.1 hb); replace HB := Ak (below_step HB.1 hb); clear hb; have kv : w6.cell? ⟨g7, 0, none⟩ = some (.int .i64 x.f0) := (blk_cell B7.1 0).trans (by simpa using HX.1.2.2.2)))
         have E := Ak (show cv = 1 by rw [CY.1, if_pos (List.all_eq_false.2 ⟨x, HMEM.1, by rw [SB.1]; decide⟩)])
         (try simp only [land_ret])
         go_ret
         exact ⟨by rw [E.1] <;> rfl, HB.1⟩
        | true =>
         go_wp2_with (first | ((with_reducible refine wp_scope_land 8 ?_)) | ((with_reducible refine wp_label ?_); (try simp only [land_normal])) | ((with_reducible refine wp_goto ?_); (try simp only []); refine land_goto rfl ?_) | ((with_reducible refine gate_dst (N := 7) rfl ?_); refine Fill.fill_event (N := 7) (x := 51) (cs := cx.toArray) (t := 90) rfl rfl rfl rfl rfl rfl Tryz.zeroValue90 ?fs ?fz ?f1 (fun _ => rfl) (fun _ => rfl) ?_; (case fs => exact fun W => (Tryz.sizeOf90 W).trans (by rw [List.size_toArray, HX.1.1])); (case fz => simp [HX.1.1]); (case f1 => simpa using H1.1); intro g7 hg7 w5 hbox hb; have B7 := Ak hbox; replace BK := Ak (blk_below BK.1 hb); replace H3 := Ak (Kd.R_below H3.1 hb); replace HB := Ak (below_step HB.1 hb); clear hbox hb hg7 hld; have hl1 : Sem.run Tryz.prog (Wide.heavy0 ⟨g7, 1, none⟩ 38) w5 = .ok sx.toArray w5 := row_load B7.1 1 38 _ HX.1.2.2.1 HX.1.2.1) | ((with_reducible refine gate_callee (f := 69) rfl ?_); refine goesL_ (some 54) rfl rfl Tryz.func69 (by kernel_rfl) rfl #[.agg sx.toArray] rfl (by (try simp only [lm_, lc_, ln_]); first | done | rfl) ?_; refine (SX.1 _).mono ?_; rintro e w6 ⟨rfl, hb⟩; refine ⟨_, rfl, ?_⟩; clear hl1; replace B7 := Ak (blk_below B7.1 hb); replace BK := Ak (blk_below BK.1 hb); replace H3 := Ak (Kd.R_below H3.1 hb); replace HB := Ak (below_step HB.1 hb); clear hb; have kv : w6.cell? ⟨g7, 0, none⟩ = some (.int .i64 x.f0) := (blk_cell B7.1 0).trans (by simpa using HX.1.2.2.2)) | ((with_reducible refine gate_builtin (b := .append) (xs := #[.tmp 56, .tmp 59]) rfl ?_); at_builtin; refine Kd.R_append (Kd.int .i64) (w0 := w) (W := w6) w.heap.size rfl (.tmp 56) (.tmp 59) 85 3 (.int .i64 0) 8 rfl Tryz.underlying85 info3 rfl (by decide) (by omega) u3 ((l1.take i).map (·.f0)) x.f0 [.int .i64 x.f0] (fun _ => True) (fun _ => False) rfl rfl ?aP (fun _ hk => hk.elim) (fun _ _ => trivial) H3.1 HB.1 HB.1.size ?aL ?_; (case aP => exact rfl); (case aL => have := L1.1; rw [List.length_map, List.length_take]; omega); intro v60 w7 hv hb hg hat; have hE : (l1.take i).map (·.f0) ++ [x.f0] = (l1.take (i + 1)).map (·.f0) := (by rw [HT1.1, List.map_append]; rfl); rw [hE] at hv; have m_BK := Ak (blk_grown BK.1 hg (Kd.R_ne H3.1 BK.1 (by decide))); clear BK B7 H3 HB hg hat hE kv; have BK := m_BK; have H3 := Ak hv; have HB := Ak hb; clear m_BK hv hb))
         go_roundg (m - (i + 1))
         case measure => omega
         case rel =>
          refine ⟨i + 1, congrArg (Value.int .i64) (by have e := FltL.w64 (n := (i : Int) + 1) (by omega) (by omega); omega), by omega, by omega, ⟨?_⟩, BK, H3, HB⟩
          rw [HT1.1, List.all_append, HOK.out]; simp [SB.1]
       ·obtain rfl : i = m := by omega
        have hnl : ¬ (i : Int) < (i : Int) := by omega
        have e0 : l1.take i = l1 := List.take_of_length_le (by rw [HM.1]; exact Nat.le_refl _)
        rw [e0] at HOK H3
        clear e0
        have CZ := Ak (show cv = _ from by rw [CY.1, if_neg (by rw [HOK.out]; decide)])
        clear CY HOK
        obtain ⟨lb, hlb⟩ : ∃ b, (decide (0 ≤ lock) && decide (lock ≤ 1000000)) = b := ⟨_, rfl⟩
        have WI := Ak (fun W : World => tx_within.calls lock 0 1000000 lb W (by rw [txwithin_f, hlb]))
        rw [hlb] at CZ
        clear hlb
        obtain ⟨A3, c3, e3⟩ := Kd.R_slice H3.1
        subst e3
        have k0_ : wr.cell? ⟨g1, 0, none⟩ = some (.slice (some ad) n c0) := (blk_cell BK.1 0).trans rfl; have k1_ : wr.cell? ⟨g1, 1, none⟩ = some (.slice A1 i c1) := (blk_cell BK.1 1).trans rfl; have k2_ : wr.cell? ⟨g1, 2, none⟩ = some (.int .i64 lock) := (blk_cell BK.1 2).trans rfl
        cases lb with
        | false =>
         go_wp2_with (first | ((with_reducible refine wp_scope_land 8 ?_)) | ((with_reducible refine wp_label ?_); (try simp only [land_normal])) | ((with_reducible refine wp_goto ?_); (try simp only []); refine land_goto rfl ?_) | ((with_reducible refine gate_callee (f := 55) rfl ?_); refine goesL_ (some 64) rfl rfl Tryz.func55 (by kernel_rfl) rfl #[.int .i64 lock, .int .i64 0, .int .i64 1000000] rfl (by (try simp only [lm_, lc_, ln_]); first | done | rfl) ?_; refine (WI.1 _).mono ?_; rintro e w6 ⟨rfl, hd⟩; refine ⟨_, rfl, ?_⟩; clear k0_ k1_ k2_; have hb := below_drawn0 hd; clear hd; replace BK := Ak (blk_below BK.1 hb); replace H3 := Ak (Kd.R_below H3.1 hb); replace HB := Ak (below_step HB.1 hb); clear hb))
         (try simp only [land_ret])
         go_ret
         exact ⟨by rw [CZ.1] <;> rfl, HB.1⟩
        | true =>
         obtain ⟨kt, hkt⟩ := HTT.1 (l1.map (·.f0)) (by rw [List.length_map, HM.1]; have := L1.1; omega)
         obtain ⟨tv, te, htv⟩ : ∃ a b, tot (l1.map (·.f0)) = (a, b) := ⟨_, _, rfl⟩
         rw [htv] at hkt
         have KT := Ak hkt
         have E := Ak (show cv = te by rw [CZ.1, htv]; rfl)
         clear hkt htv CZ HTT
         generalize l1.map (·.f0) = vals at H3 KT ⊢
         go_wp2_with (first | ((with_reducible refine wp_scope_land 8 ?_)) | ((with_reducible refine wp_label ?_); (try simp only [land_normal])) | ((with_reducible refine wp_goto ?_); (try simp only []); refine land_goto rfl ?_) | ((with_reducible refine gate_callee (f := 55) rfl ?_); refine goesL_ (some 64) rfl rfl Tryz.func55 (by kernel_rfl) rfl #[.int .i64 lock, .int .i64 0, .int .i64 1000000] rfl (by (try simp only [lm_, lc_, ln_]); first | done | rfl) ?_; refine (WI.1 _).mono ?_; rintro e w6 ⟨rfl, hd⟩; refine ⟨_, rfl, ?_⟩; clear k0_ k1_ k2_; have hb := below_drawn0 hd; clear hd; replace BK := Ak (blk_below BK.1 hb); replace H3 := Ak (Kd.R_below H3.1 hb); replace HB := Ak (below_step HB.1 hb); clear hb) | ((with_reducible refine gate_callee (f := 34) rfl ?_); refine goesL_ (some 68) rfl rfl Tryz.func34 (by kernel_rfl) rfl #[.slice A3 vals.length c3] rfl (by (try simp only [lm_, lc_, ln_]); first | done | rfl) ?_; refine (amount_Total.calls kt A3 c3 vals tv te _ (Kd.R_reads' H3.1).2.2 (Kd.R_reads' H3.1).2.1 KT.1).mono ?_; rintro e w8 ⟨rfl, hd⟩; refine ⟨_, rfl, ?_⟩; have hb := below_drawn0 hd; clear hd; replace BK := Ak (blk_below BK.1 hb); replace HB := Ak (below_step HB.1 hb); clear hb H3))
         (try simp only [land_ret])
         go_ret
         exact ⟨by rw [E.1] <;> rfl, HB.1⟩
end Go.Proofs.YtiodebjjbgcbhaaGreat.Inp
namespace Go.Proofs.YtiodebjjbgcbhaaGreat.Inp
open Go.RowKit Go.Sort Go.Lib Go.Shelf Go.Proofs YtiodebjjbgcbhaaGreatW.PrintWords YtiodebjjbgcbhaaGreatW.PrintLast YtiodebjjbgcbhaaGreatW.PrintMore YtiodebjjbgcbhaaGreat Hand RowK Fill OrdO QLef LefL
set_option linter.unusedVariables false
set_option linter.unusedSectionVars false
set_option linter.unusedSimpArgs false
variable {α : Type}
def Bt.to (b : Bt) : S50 := ⟨⟨b.ins, b.outs, b.lock⟩, b.fee, b.rate⟩
def oneV (fits : List α → Int → Bt × Bool) (rt : α → Int) (l : List α) : Os α := match l with
 | [] => ⟨[], [], .zero, false⟩
 | x0 :: r => oneS (fun W => fits W (rt x0)) (fun x => decide (Int.tdiv (rt x0) 2 ≤ rt x)) (x0 :: r) (x0 :: r).length
def allL (fits : List α → Int → Bt × Bool) (rt : α → Int) : Nat → List α → List S50
 | 0, _ => []
 | k + 1, [] => []
 | k + 1, x0 :: r => let s := oneV fits rt (x0 :: r)
  if s.ok = true then s.b.to :: allL fits rt k s.L else allL fits rt k s.L
theorem one_less (fits : List α → Int → Bt × Bool) (rt : α → Int) (l : List α) (h : 0 < l.length) : (oneV fits rt l).L.length < l.length := by
 cases l with
 | nil => simp at h
 | cons x0 r =>
  have := oneS_len (fun W => fits W (rt x0)) (fun x => decide (Int.tdiv (rt x0) 2 ≤ rt x)) (x0 :: r) (x0 :: r).length (by simp) (Nat.le_refl _)
  unfold oneV
  simp only [] at this ⊢
  omega
theorem allL_fuel (fits : List α → Int → Bt × Bool) (rt : α → Int) : ∀ (k j : Nat) (l : List α), l.length ≤ k → l.length ≤ j → allL fits rt k l = allL fits rt j l
 | 0, 0, _, _, _ => rfl
 | 0, j + 1, l, h, _ => by cases l with | nil => rfl | cons x r => simp at h
 | k + 1, 0, l, _, h => by cases l with | nil => rfl | cons x r => simp at h
 | k + 1, j + 1, l, h1, h2 => by
  cases l with
  | nil => rfl
  | cons x r =>
   have hl := one_less fits rt (x :: r) (by simp)
   unfold allL
   simp only [List.length_cons] at h1 h2 hl
   simp only []
   rw [allL_fuel fits rt k j _ (by omega) (by omega)]
def allV (I : Spec α) (ck rt : α → Int) (fits : List α → Int → Bt × Bool) (next limit key : Int) (l : List α) : List S50 × Int :=
 if (wiB next 0 1000000 && (wiB limit 1 400000 && wiB key 0 1073741824)) = false then ([], 1) else
 if 200 < l.length then ([], 3) else
 if twiceV I l = true then ([], 6) else
 (allL fits rt l.length (orderV I ck rt next l), 0)
theorem R_okIn {w : World} {base : Nat} {ok : Nat → Prop} {v : Value} {l : List S79} (h : Kd.R k79 79 w base (fun _ => True) v l) (hne : ∀ k, v.ownBlock = some k → ok k) : Kd.R k79 79 w base ok v l := by
 obtain ⟨_, inner, ho, hr⟩ := h
 exact ⟨hne, inner, ho, hr.imp_ (fun _ _ hp => by rw [k79_openM hp]; exact k79_mkM _ _ _ _)⟩
theorem R_okOut {w : World} {base : Nat} {ok : Nat → Prop} {v : Value} {l : List S90} (h : Kd.R k90 90 w base (fun _ => True) v l) (hne : ∀ k, v.ownBlock = some k → ok k) : Kd.R k90 90 w base ok v l := by
 obtain ⟨_, inner, ho, hr⟩ := h
 exact ⟨hne, inner, ho, hr.imp_ (fun _ _ hp => by rw [k90_openM hp]; exact k90_mkM _ _ _ _)⟩
theorem order_len (I : Spec α) (ck rt : α → Int) (next : Int) (l : List α) : (orderV I ck rt next l).length ≤ l.length := by
 unfold orderV
 rw [(OrdQ.sortV_perm (c := cmpR I rt) _).length_eq]
 exact List.length_filter_le _ _
theorem own_reads {I : Spec α} {w : World} {base : Nat} {v : Value} {l : List α} (h : OwnI I w base v l) : ∃ A cap, v = .slice A l.length cap ∧ ReadsRow (fun x c => c = I.enc x) 44 w A l.length l ∧ l.length ≤ cap := by
 obtain ⟨A, cap, e, hr⟩ := h.reads
 refine ⟨A, cap, e, hr, ?_⟩
 rcases h with ⟨rfl, rfl⟩ | ⟨g, cap', cur, rfl, h1, h2, h3, h4, h5, h6⟩
 ·simp
 ·cases e; exact h3
def AllR (w : World) (e : Ending) (w' : World) (o : List S50 × Int) : Prop := ∃ v0 : Value, e = .returned (.tuple #[v0, .int .i64 o.2]) ∧ Kd.R k50 50 w' w.heap.size (fun _ => True) v0 o.1 ∧ Below w.heap.size w w'
set_option maxHeartbeats 16000000 in
set_option maxRecDepth 100000 in
theorem all_calls [Inhabited α] (I : Spec α) (ck rt : α → Int) (hC : Checked I ck) (hrb : ∀ x, 0 ≤ rt x ∧ rt x ≤ 1000000000) (next limit key : Int) (hR : Rated I next rt) (fits : List α → Int → Bt × Bool) (hF : Fitted I next limit key fits) (l : List α) (hK : Keyed I l) (A : Option Addr) (c : Nat) (w : World) (hA : ReadsRow (fun x c => c = I.enc x) 44 w A l.length l) (hl : l.length < 100000) :
 Calls Tryz.prog 19 #[.slice A l.length c, .int .i64 next, .int .i64 limit, .int .i64 key] w fun e w' => AllR w e w' (allV I ck rt fits next limit key l) := by
 have HB := Ak (Below.refl w.heap.size w)
 have W1 := Ak (fun W => within_calls next 0 1000000 W)
 have W2 := Ak (fun W => within_calls limit 1 400000 W)
 have W3 := Ak (fun W => within_calls key 0 1073741824 W)
 have TW := Ak (fun (W : World) (hb : Below w.heap.size w W) => twice_calls I l A c W (ReadsRow.imp_ hA hb (fun _ _ h => h)) hl hK)
 have OR := Ak (fun (W : World) (hb : Below w.heap.size w W) => order_calls I ck rt next hC hR l A c W (ReadsRow.imp_ hA hb (fun _ _ h => h)) hl)
 have ON := Ak (fun (L : List α) (x0 : α) (h0 : L[0]? = some x0) (A : Option Addr) (c : Nat) (hc : L.length ≤ c) (W : World) (hA : ReadsRow (fun x c => c = I.enc x) 44 W A L.length L) (hl : L.length < 100000) => one_calls I rt hrb next limit key hR fits hF x0 L h0 A c hc W hA hl)
 have HL := Ak hl
 have HOL := Ak (show (orderV I ck rt next l).length ≤ l.length from order_len I ck rt next l)
 clear hA hl hK hF hR hC hrb
 unfold allV
 generalize wiB next 0 1000000 = b1 at W1 ⊢
 generalize wiB limit 1 400000 = b2 at W2 ⊢
 generalize wiB key 0 1073741824 = b3 at W3 ⊢
 generalize hb123 : (b1 && (b2 && b3)) = b123
 cases b123 with
 | false =>
  rw [if_pos rfl]
  clear TW OR ON HOL
  go_enter Tryz.func19, Tryz.ntmps19
  cases b1 with
  | false =>
   go_wp2_with (first | ((with_reducible refine gate_callee (f := 23) rfl ?_); refine goesL_ (some 17) rfl rfl Tryz.func23 (by kernel_rfl) rfl #[.int .i64 next, .int .i64 0, .int .i64 1000000] rfl (by (try simp only [lm_, lc_, ln_]); first | done | rfl) ?_; refine (W1.1 _).mono ?_; rintro e w2 ⟨rfl, hb⟩; refine ⟨_, rfl, ?_⟩; replace HB := Ak (below_step HB.1 hb); clear hb))
   (go_ret2; exact ⟨_, rfl, Kd.R_nil _ _ _ _ _, HB.1⟩)
  | true =>
   cases b2 with
   | false =>
    go_wp2_with (first | ((with_reducible refine gate_callee (f := 23) rfl ?_); refine goesL_ (some 17) rfl rfl Tryz.func23 (by kernel_rfl) rfl #[.int .i64 next, .int .i64 0, .int .i64 1000000] rfl (by (try simp only [lm_, lc_, ln_]); first | done | rfl) ?_; refine (W1.1 _).mono ?_; rintro e w2 ⟨rfl, hb⟩; refine ⟨_, rfl, ?_⟩; replace HB := Ak (below_step HB.1 hb); clear hb) | (go_at_call 23; (with_reducible refine (W2.1 _).mono ?_); rintro e w2 ⟨rfl, hb⟩; replace HB := Ak (below_step HB.1 hb); clear hb))
    (go_ret2; exact ⟨_, rfl, Kd.R_nil _ _ _ _ _, HB.1⟩)
   | true =>
    cases b3 with
    | true => cases hb123
    | false =>
     go_wp2_with (first | ((with_reducible refine gate_callee (f := 23) rfl ?_); refine goesL_ (some 17) rfl rfl Tryz.func23 (by kernel_rfl) rfl #[.int .i64 next, .int .i64 0, .int .i64 1000000] rfl (by (try simp only [lm_, lc_, ln_]); first | done | rfl) ?_; refine (W1.1 _).mono ?_; rintro e w2 ⟨rfl, hb⟩; refine ⟨_, rfl, ?_⟩; replace HB := Ak (below_step HB.1 hb); clear hb) | (go_at_call 23; (with_reducible refine (W2.1 _).mono ?_); rintro e w2 ⟨rfl, hb⟩; replace HB := Ak (below_step HB.1 hb); clear hb) | (go_at_call 23; (with_reducible refine (W3.1 _).mono ?_); rintro e w2 ⟨rfl, hb⟩; replace HB := Ak (below_step HB.1 hb); clear hb))
     (go_ret2; exact ⟨_, rfl, Kd.R_nil _ _ _ _ _, HB.1⟩)
 | true =>
  rw [if_neg (by decide)]
  obtain ⟨rfl, rfl, rfl⟩ : b1 = true ∧ b2 = true ∧ b3 = true := by cases b1 <;> cases b2 <;> cases b3 <;> simp at hb123 ⊢
  clear hb123
  by_cases h200 : 200 < l.length
  ·rw [if_pos h200]
   have z0 : decide (200 < (l.length : Int)) = true := decide_eq_true (by omega)
   have z1 := eq_true (show (200 : Int) < (l.length : Int) by omega)
   clear h200 TW OR ON HOL
   go_enter Tryz.func19, Tryz.ntmps19
   go_wp2_with (first | ((with_reducible refine gate_callee (f := 23) rfl ?_); refine goesL_ (some 17) rfl rfl Tryz.func23 (by kernel_rfl) rfl #[.int .i64 next, .int .i64 0, .int .i64 1000000] rfl (by (try simp only [lm_, lc_, ln_]); first | done | rfl) ?_; refine (W1.1 _).mono ?_; rintro e w2 ⟨rfl, hb⟩; refine ⟨_, rfl, ?_⟩; replace HB := Ak (below_step HB.1 hb); clear hb) | (go_at_call 23; (with_reducible refine (W2.1 _).mono ?_); rintro e w2 ⟨rfl, hb⟩; replace HB := Ak (below_step HB.1 hb); clear hb) | (go_at_call 23; (with_reducible refine (W3.1 _).mono ?_); rintro e w2 ⟨rfl, hb⟩; replace HB := Ak (below_step HB.1 hb); clear hb))
   (go_ret2; exact ⟨_, rfl, Kd.R_nil _ _ _ _ _, HB.1⟩)
  ·rw [if_neg h200]
   have z0 : decide (200 < (l.length : Int)) = false := decide_eq_false (by omega)
   have z1 := eq_false (show ¬ (200 : Int) < (l.length : Int) by omega)
   have L2 := Ak h200
   clear h200
   generalize twiceV I l = tw at TW ⊢
   cases tw with
   | true =>
    rw [if_pos rfl]
    clear OR ON HOL
    go_enter Tryz.func19, Tryz.ntmps19
    go_wp2_with (first | ((with_reducible refine gate_callee (f := 23) rfl ?_); refine goesL_ (some 17) rfl rfl Tryz.func23 (by kernel_rfl) rfl #[.int .i64 next, .int .i64 0, .int .i64 1000000] rfl (by (try simp only [lm_, lc_, ln_]); first | done | rfl) ?_; refine (W1.1 _).mono ?_; rintro e w2 ⟨rfl, hb⟩; refine ⟨_, rfl, ?_⟩; replace HB := Ak (below_step HB.1 hb); clear hb) | (go_at_call 23; (with_reducible refine (W2.1 _).mono ?_); rintro e w2 ⟨rfl, hb⟩; replace HB := Ak (below_step HB.1 hb); clear hb) | (go_at_call 23; (with_reducible refine (W3.1 _).mono ?_); rintro e w2 ⟨rfl, hb⟩; replace HB := Ak (below_step HB.1 hb); clear hb) | ((with_reducible refine gate_callee (f := 52) rfl ?_); refine goesL_ (some 35) rfl rfl Tryz.func52 (by kernel_rfl) rfl #[.slice A l.length c] rfl (by (try simp only [lm_, lc_, ln_]); first | done | rfl) ?_; refine (TW.1 _ HB.1).mono ?_; rintro e w3 ⟨rfl, hb⟩; refine ⟨_, rfl, ?_⟩; replace HB := Ak (below_step HB.1 hb); clear hb))
    (go_ret2; exact ⟨_, rfl, Kd.R_nil _ _ _ _ _, HB.1⟩)
   | false =>
    rw [if_neg (by decide)]
    obtain ⟨tot, htot⟩ : ∃ t, allL fits rt l.length (orderV I ck rt next l) = t := ⟨_, rfl⟩
    rw [htot]
    have TT := Ak htot
    clear htot
    go_enter Tryz.func19, Tryz.ntmps19
    go_wp2_with (first | ((with_reducible refine gate_callee (f := 23) rfl ?_); refine goesL_ (some 17) rfl rfl Tryz.func23 (by kernel_rfl) rfl #[.int .i64 next, .int .i64 0, .int .i64 1000000] rfl (by (try simp only [lm_, lc_, ln_]); first | done | rfl) ?_; refine (W1.1 _).mono ?_; rintro e w2 ⟨rfl, hb⟩; refine ⟨_, rfl, ?_⟩; replace HB := Ak (below_step HB.1 hb); clear hb) | (go_at_call 23; (with_reducible refine (W2.1 _).mono ?_); rintro e w2 ⟨rfl, hb⟩; replace HB := Ak (below_step HB.1 hb); clear hb) | (go_at_call 23; (with_reducible refine (W3.1 _).mono ?_); rintro e w2 ⟨rfl, hb⟩; replace HB := Ak (below_step HB.1 hb); clear hb) | ((with_reducible refine gate_callee (f := 52) rfl ?_); refine goesL_ (some 35) rfl rfl Tryz.func52 (by kernel_rfl) rfl #[.slice A l.length c] rfl (by (try simp only [lm_, lc_, ln_]); first | done | rfl) ?_; refine (TW.1 _ HB.1).mono ?_; rintro e w3 ⟨rfl, hb⟩; refine ⟨_, rfl, ?_⟩; replace HB := Ak (below_step HB.1 hb); clear hb) | ((with_reducible refine gate_dst (N := 10) rfl ?_); refine Fill.fill_event (N := 10) (x := 39) (cs := #[.int .i64 next, .int .i64 limit, .int .i64 key]) (t := 112) rfl rfl rfl rfl rfl rfl Tryz.zeroValue112 ?fs ?fz ?f1 (fun _ => rfl) (fun _ => rfl) ?_; (case fs => exact fun W => Tryz.sizeOf112 W); (case fz => rfl); (case f1 => rfl); intro g10 hg10 w5 hbox hb; have B10 := Ak hbox; clear hbox hg10; replace HB := Ak (below_step HB.1 hb); clear hb) | ((with_reducible refine gate_callee (f := 15) rfl ?_); refine goesL_ (some 42) rfl rfl Tryz.func15 (by kernel_rfl) rfl #[.slice A l.length c, .int .i64 next] rfl (by (try simp only [lm_, lc_, ln_]); first | done | rfl) ?_; refine (OR.1 _ HB.1).mono ?_; rintro e w6 ⟨v42, rfl, ho, hb⟩; refine ⟨_, rfl, ?_⟩; have HO := Ak (ho.lower HB.1.size); clear ho; replace HB := Ak (below_step HB.1 hb); replace B10 := Ak (blk_below B10.1 hb); clear hb))
    clear TW OR W1 W2 W3
    generalize orderV I ck rt next l = L0 at HOL HO TT
    obtain ⟨n, hn⟩ : ∃ n, l.length = n := ⟨_, rfl⟩
    rw [hn] at HOL L2 TT
    clear hn z0 z1
    go_loopg [8, 11] L0.length (fun kq v8 v11 wr => ∃ (L : List α) (R : List S50), L.length ≤ kq ∧ L.length ≤ n ∧ R.length + L.length ≤ n ∧ Aside0 (R ++ allL fits rt n L = tot) ∧ Aside0 (OwnI I wr w.heap.size v11 L) ∧ Aside0 (Kd.R k50 50 wr w.heap.size (fun _ => True) v8 R) ∧ Aside0 (wr.heap[g10]? = some (.cells #[.int .i64 next, .int .i64 limit, .int .i64 key] 112 (0, 0))) ∧ Aside0 (Below w.heap.size w wr))
    case atStart => exact ⟨L0, [], Nat.le_refl _, HOL.1, by have := HOL.1; simpa using this, ⟨TT.1⟩, HO, ⟨Kd.R_nil _ _ _ _ _⟩, B10, HB⟩
    case round =>
     clear HO B10 HB TT
     obtain ⟨L, R, hkq, hLn, hRL, TT, HO, HR, B10, HB⟩ := hrel
     obtain ⟨AL, cL, eL, hrL, hcL⟩ := own_reads HO.1
     subst eL
     have hl2 := L2.1
     cases L with
     | nil =>
      go_wp2
      go_ret2
      refine ⟨_, rfl, ?_, HB.1⟩
      have e := TT.1
      rw [show allL fits rt n ([] : List α) = [] by cases n <;> rfl, List.append_nil] at e
      rw [← e]
      exact HR.1
     | cons x0 r =>
      have hz : 0 < (x0 :: r).length := by simp
      have CA := Ak (fun (W : World) (hb : Below wr.heap.size wr W) => ON.1 (x0 :: r) x0 rfl AL cL hcL W (ReadsRow.imp_ hrL hb (fun _ _ h => h)) (by omega))
      have LS := Ak (one_less fits rt (x0 :: r) (by simp))
      have ST := Ak (show (let s := oneV fits rt (x0 :: r); R ++ (if s.ok = true then s.b.to :: allL fits rt n s.L else allL fits rt n s.L) = tot) by
       rw [← TT.1]
       obtain ⟨m, rfl⟩ : ∃ m, n = m + 1 := ⟨n - 1, by simp at hLn; omega⟩
       have e := allL_fuel fits rt m (m + 1) (oneV fits rt (x0 :: r)).L (by simp only [List.length_cons] at hLn LS; have := LS.1; omega) (by simp only [List.length_cons] at hLn LS; have := LS.1; omega)
       simp only []
       rw [← e]
       rfl)
      rw [show oneS (fun W => fits W (rt x0)) (fun x => decide ((rt x0).tdiv 2 ≤ rt x)) (x0 :: r) (x0 :: r).length = oneV fits rt (x0 :: r) from rfl] at CA
      generalize oneV fits rt (x0 :: r) = s at CA LS ST
      obtain ⟨m, hm⟩ : ∃ m, (x0 :: r).length = m := ⟨_, rfl⟩
      rw [hm] at CA LS hz hkq hLn hRL HO ⊢
      have hz0 : (0 : Int) < (m : Int) := by omega
      clear hrL hcL hm ON TT
      have k0_ : wr.cell? ⟨g10, 0, none⟩ = some (.int .i64 next) := (blk_cell B10.1 0).trans rfl; have k1_ : wr.cell? ⟨g10, 1, none⟩ = some (.int .i64 limit) := (blk_cell B10.1 1).trans rfl; have k2_ : wr.cell? ⟨g10, 2, none⟩ = some (.int .i64 key) := (blk_cell B10.1 2).trans rfl
      obtain ⟨sW, sL, sb, sok⟩ := s
      cases sok with
      | true =>
       go_wp2_with (first | ((with_reducible refine gate_callee (f := 53) rfl ?_); refine goesL_ (some 49) rfl rfl Tryz.func53 (by kernel_rfl) rfl #[.agg #[.int .i64 next, .int .i64 limit, .int .i64 key], .slice AL m cL] rfl (by (try simp only [lm_, lc_, ln_]); first | done | rfl) ?_; refine (CA.1 _ (Below.refl _ _)).mono ?_; rintro e w4 ⟨v0, v1, v6, rfl, h0, h1, h6, hb⟩; refine ⟨_, rfl, ?_⟩; have H0 := Ak (Kd.R_lower h0 HB.1.size); have H1 := Ak (Kd.R_lower h1 HB.1.size); have H6 := Ak (h6.lower HB.1.size); clear h0 h1 h6 HO k0_ k1_ k2_; obtain ⟨A0, c0, e0⟩ := Kd.R_slice H0.1; subst e0; obtain ⟨A1, c1, e1⟩ := Kd.R_slice H1.1; subst e1; replace HB := Ak (below_step HB.1 hb); replace B10 := Ak (blk_below B10.1 hb); replace HR := Ak (Kd.R_below HR.1 hb); clear hb) | ((with_reducible refine gate_dst (N := 12) rfl ?_); refine Fill.fill_event (N := 12) (x := 50) (cs := #[.slice A0 sb.ins.length c0, .slice A1 sb.outs.length c1, .int .i64 sb.lock, .int .i64 sb.fee, .int .i64 sb.rate]) (t := 50) rfl rfl rfl rfl rfl rfl Tryz.zeroValue50 ?fs ?fz ?f1 (fun _ => rfl) (fun _ => rfl) ?_; (case fs => exact fun W => Tryz.sizeOf50 W); (case fz => rfl); (case f1 => rfl); intro g12 hg12 w5 hbox hb; have B12 := Ak hbox; clear hbox hg12; replace HB := Ak (below_step HB.1 hb); replace B10 := Ak (blk_below B10.1 hb); replace HR := Ak (Kd.R_below HR.1 hb); replace H0 := Ak (Kd.R_below H0.1 hb); replace H1 := Ak (Kd.R_below H1.1 hb); replace H6 := Ak (OwnI.below H6.1 hb); clear hb; have q0_ : w5.cell? ⟨g12, 0, none⟩ = some (.slice A0 sb.ins.length c0) := (blk_cell B12.1 0).trans rfl; have q1_ : w5.cell? ⟨g12, 1, none⟩ = some (.slice A1 sb.outs.length c1) := (blk_cell B12.1 1).trans rfl; have q2_ : w5.cell? ⟨g12, 2, none⟩ = some (.int .i64 sb.lock) := (blk_cell B12.1 2).trans rfl; have q3_ : w5.cell? ⟨g12, 3, none⟩ = some (.int .i64 sb.fee) := (blk_cell B12.1 3).trans rfl; have q4_ : w5.cell? ⟨g12, 4, none⟩ = some (.int .i64 sb.rate) := (blk_cell B12.1 4).trans rfl) | ((with_reducible refine gate_builtin (b := .append) (xs := #[.tmp 55, .tmp 57]) rfl ?_); at_builtin; refine Kd.R_append k50 (w0 := w) (W := w5) w.heap.size rfl (.tmp 55) (.tmp 57) 62 50 (.agg #[(.slice none 0 0), (.slice none 0 0), (.int .i64 0), (.int .i64 0), (.int .i64 0)]) 72 rfl Tryz.underlying62 info50 rfl (by decide) (by omega) u8 R sb.to [.slice A0 sb.ins.length c0, .slice A1 sb.outs.length c1, .int .i64 sb.lock, .int .i64 sb.fee, .int .i64 sb.rate] (fun _ => True) (fun k => some k ≠ u8.ownBlock) rfl rfl ?aP (fun _ hk => ⟨trivial, hk⟩) (fun _ _ => trivial) HR.1 HB.1 HB.1.size ?aL ?_; (case aP => exact k50_mkM _ _ _ sb.to (R_okIn H0.1 (R_apart H0.1 HR.1 (by decide))) (R_okOut H1.1 (R_apart H1.1 HR.1 (by decide)))); (case aL => omega); intro v58 w7 hv hb hg hat; have m_B10 := Ak (blk_grown B10.1 hg (Kd.R_ne HR.1 B10.1 (by decide))); have m_H6 := Ak (H6.1.grown hg (fun k hk => H6.1.ne_row HR.1 (by decide) k hk)); clear B10 B12 H0 H1 H6 HR HB hg hat q0_ q1_ q2_ q3_ q4_; have B10 := m_B10; have H6 := m_H6; have HR := Ak hv; have HB := Ak hb; clear m_B10 m_H6 hv hb))
       go_roundg sL.length
       case measure => exact Nat.lt_of_lt_of_le LS.1 hkq
       case rel =>
        have h1 : sL.length < m := LS.1
        refine ⟨sL, R ++ [sb.to], Nat.le_refl _, by omega, by rw [List.length_append, List.length_singleton]; omega, ⟨?_⟩, H6, HR, B10, HB⟩
        have h2 := ST.1
        simp only [if_true] at h2
        rw [List.append_assoc]
        exact h2
      | false =>
       go_wp2_with (first | ((with_reducible refine gate_callee (f := 53) rfl ?_); refine goesL_ (some 49) rfl rfl Tryz.func53 (by kernel_rfl) rfl #[.agg #[.int .i64 next, .int .i64 limit, .int .i64 key], .slice AL m cL] rfl (by (try simp only [lm_, lc_, ln_]); first | done | rfl) ?_; refine (CA.1 _ (Below.refl _ _)).mono ?_; rintro e w4 ⟨v0, v1, v6, rfl, h0, h1, h6, hb⟩; refine ⟨_, rfl, ?_⟩; have H0 := Ak (Kd.R_lower h0 HB.1.size); have H1 := Ak (Kd.R_lower h1 HB.1.size); have H6 := Ak (h6.lower HB.1.size); clear h0 h1 h6 HO k0_ k1_ k2_; obtain ⟨A0, c0, e0⟩ := Kd.R_slice H0.1; subst e0; obtain ⟨A1, c1, e1⟩ := Kd.R_slice H1.1; subst e1; replace HB := Ak (below_step HB.1 hb); replace B10 := Ak (blk_below B10.1 hb); replace HR := Ak (Kd.R_below HR.1 hb); clear hb) | ((with_reducible refine gate_dst (N := 12) rfl ?_); refine Fill.fill_event (N := 12) (x := 50) (cs := #[.slice A0 sb.ins.length c0, .slice A1 sb.outs.length c1, .int .i64 sb.lock, .int .i64 sb.fee, .int .i64 sb.rate]) (t := 50) rfl rfl rfl rfl rfl rfl Tryz.zeroValue50 ?fs ?fz ?f1 (fun _ => rfl) (fun _ => rfl) ?_; (case fs => exact fun W => Tryz.sizeOf50 W); (case fz => rfl); (case f1 => rfl); intro g12 hg12 w5 hbox hb; have B12 := Ak hbox; clear hbox hg12; replace HB := Ak (below_step HB.1 hb); replace B10 := Ak (blk_below B10.1 hb); replace HR := Ak (Kd.R_below HR.1 hb); replace H0 := Ak (Kd.R_below H0.1 hb); replace H1 := Ak (Kd.R_below H1.1 hb); replace H6 := Ak (OwnI.below H6.1 hb); clear hb; have q0_ : w5.cell? ⟨g12, 0, none⟩ = some (.slice A0 sb.ins.length c0) := (blk_cell B12.1 0).trans rfl; have q1_ : w5.cell? ⟨g12, 1, none⟩ = some (.slice A1 sb.outs.length c1) := (blk_cell B12.1 1).trans rfl; have q2_ : w5.cell? ⟨g12, 2, none⟩ = some (.int .i64 sb.lock) := (blk_cell B12.1 2).trans rfl; have q3_ : w5.cell? ⟨g12, 3, none⟩ = some (.int .i64 sb.fee) := (blk_cell B12.1 3).trans rfl; have q4_ : w5.cell? ⟨g12, 4, none⟩ = some (.int .i64 sb.rate) := (blk_cell B12.1 4).trans rfl))
       go_roundg sL.length
       case measure => exact Nat.lt_of_lt_of_le LS.1 hkq
       case rel =>
        have h1 : sL.length < m := LS.1
        refine ⟨sL, R, Nat.le_refl _, by omega, by omega, ⟨?_⟩, H6, HR, B10, HB⟩
        have h2 := ST.1
        simpa using h2
open Go.RowKit Go.Sort Go.Lib Go.Shelf Go.Proofs YtiodebjjbgcbhaaGreatW.PrintWords YtiodebjjbgcbhaaGreatW.PrintLast YtiodebjjbgcbhaaGreatW.PrintMore YtiodebjjbgcbhaaGreat Hand RowK Fill OrdO QLef LefL FltL
theorem w64' {n : Int} (h0 : -9223372036854775808 ≤ n) (h1 : n ≤ 9223372036854775807) : wrap64 n = n := by unfold wrap64; omega
def addS (a b : Int) : Int × Int := if okA a && okA b && okA (wrap64 (a + b)) then (wrap64 (a + b), 0) else (0, 11)
theorem add_f (a b : Int) : amount_Add.f a b = some (addS a b) := by
 unfold amount_Add.f addS
 simp only [valid_f, held_f]
 cases okA a <;> cases okA b <;> cases okA (wrap64 (a + b)) <;> simp
def totS : Int → List Int → Int × Int
 | s, [] => (s, 0)
 | s, a :: r => if (addS s a).2 = 0 then totS (addS s a).1 r else addS s a
theorem rd_at {xs : List Int} {i : Nat} (h : i < xs.length) : Go.Proofs.YtiodebjjbgcbhaaGreatW.PrintWords.rd xs (i : Int) = xs[i] := by
 unfold Go.Proofs.YtiodebjjbgcbhaaGreatW.PrintWords.rd; rw [Int.toNat_natCast]; simp [List.getD_eq_getElem?_getD, h]
theorem total_l (xs : List Int) (hx : xs.length ≤ 140737488351232) : ∀ (d k i : Nat) (s : Int), i + d = xs.length → d < k → amount_Total.l0 k s 0 xs (xs.length : Int) (i : Int) = some (totS s (xs.drop i)) := by
 intro d
 induction d with
 | zero =>
  intro k i s hd hk
  obtain ⟨k, rfl⟩ : ∃ m, k = m + 1 := ⟨k - 1, by omega⟩
  have : xs.drop i = [] := List.drop_of_length_le (by omega)
  simp only [amount_Total.l0]
  rw [if_neg (by omega), this]; rfl
 | succ d ih =>
  intro k i s hd hk
  obtain ⟨k, rfl⟩ : ∃ m, k = m + 1 := ⟨k - 1, by omega⟩
  have hi : i < xs.length := by omega
  simp only [amount_Total.l0]
  rw [if_pos (by omega), if_pos (by omega), if_pos (by omega), add_f, rd_at hi, List.drop_eq_getElem_cons hi]
  simp only [Option.bind_some, totS]
  by_cases h : (addS s xs[i]).2 = 0
  ·rw [if_pos h, if_pos h, h]
   have : wrap64 ((i : Int) + 1) = ((i + 1 : Nat) : Int) := by rw [w64' (by omega) (by omega)]; omega
   rw [this]
   exact ih k (i + 1) _ (by omega) (by omega)
  ·rw [if_neg h, if_neg h]
theorem total_f (xs : List Int) (hx : xs.length ≤ 140737488351232) (k : Nat) (hk : xs.length < k) : amount_Total.f k xs = some (totS 0 xs) := by
 unfold amount_Total.f
 have := total_l xs hx xs.length k 0 0 (by omega) hk
 simpa using this
def aloneV (I : Spec α) (x : α) : Int := weightV [I.inS x] 1
def chkC (I : Spec α) (x : α) : Int := chkV (wiB (I.nn x) 0 99) (wiB (I.value x) 1 2100000000000000) (witB (I.kind x) (I.key x) (I.pre x)) (wiB (I.seq x) 0 65535) (wiB (I.wait x) 0 65535) (wiB (I.lock x) 0 1000000) (wiB (I.conf x) 0 1000000) (if ofB (I.since x) (I.dl x) (I.budget x) (aloneV I x) then 0 else 1)
def highV (I : Spec α) (x : α) : Int := min (I.budget x * 1000 / aloneV I x) 1000000000
def rtC (I : Spec α) (next : Int) (x : α) : Int := if chkC I x = 0 then (if ofB (I.since x) (I.dl x) (I.budget x) (aloneV I x) then atV (I.since x) 253 (max (I.since x) (I.dl x)) (highV I x) next else 0) else 0
theorem weight_one (I : Spec α) (x : α) : tx_Weight.f 2 [I.inS x] (List.replicate 1 z90) 0 = some (aloneV I x) := by
 have h := weight_f [I.inS x] (List.replicate 1 z90) 0 2 (by simp) (by simp) (by simp)
 simpa [aloneV] using h
theorem of_one (I : Spec α) (x : α) : curve_Of.f (I.since x) (I.dl x) (I.budget x) (aloneV I x) = some (if ofB (I.since x) (I.dl x) (I.budget x) (aloneV I x) then (C (2 * I.since x) (2 * 253), C (2 * max (I.since x) (I.dl x)) (2 * highV I x), 0) else (C 0 0, C 0 0, 1)) := of_f _ _ _ _
theorem checkedC (I : Spec α) : Checked I (chkC I) := fun x W => by
 obtain ⟨⟨r1, r2, r3⟩, hr⟩ : ∃ r : C128 × C128 × Int, (if ofB (I.since x) (I.dl x) (I.budget x) (aloneV I x) then (C (2 * I.since x) (2 * 253), C (2 * max (I.since x) (I.dl x)) (2 * highV I x), (0 : Int)) else (C 0 0, C 0 0, 1)) = r := ⟨_, rfl⟩
 have ho := of_one I x
 rw [hr] at ho
 have h := check_calls I x 2 (aloneV I x) r1 r2 r3 (witB (I.kind x) (I.key x) (I.pre x)) (weight_one I x) ho (witness_f _ _ _) W
 have e : r3 = if ofB (I.since x) (I.dl x) (I.budget x) (aloneV I x) then 0 else 1 := by
  have := congrArg (fun r => r.2.2) hr
  simp only [] at this
  rw [← this]
  split <;> rfl
 rw [e] at h
 exact h
theorem ratedC (I : Spec α) (next : Int) : Rated I next (rtC I next) := fun x W => by
 have hc := checkedC I x
 have hw := weight_one I x
 have ho := of_one I x
 unfold rtC
 by_cases hb : ofB (I.since x) (I.dl x) (I.budget x) (aloneV I x) = true
 ·rw [if_pos hb] at ho
  rw [if_pos hb]
  exact rate_calls0 (I.enc x) (I.hk x) next _ _ 0 (chkC I x) _ W (fun W => hc W) (fun W => rise_calls I x 2 _ _ _ _ hw ho W) (at_f (of_line hb) next)
 ·rw [if_neg hb] at ho
  rw [if_neg hb]
  have hS : Sn 0 := by unfold Sn; omega
  exact rate_calls0 (I.enc x) (I.hk x) next _ _ 1 (chkC I x) 0 W (fun W => hc W) (fun W => rise_calls I x 2 _ _ _ _ hw ho W) (at_no hS hS hS hS (by decide) next)
theorem rate_bounds (I : Spec α) (next : Int) (x : α) : 0 ≤ rtC I next x ∧ rtC I next x ≤ 1000000000 := by
 unfold rtC
 split
 ·split
  ·rename_i h
   have h1 := of_line h
   have h2 := atV_bounds h1 next
   have h3 := lineB_true.1 h1
   unfold highV
   omega
  ·omega
 ·omega
def tcC : List S79 → List S90 → Int → Int := chkT (totS 0)
theorem txcheckedC : TxChecked tcC := txcheck_calls (totS 0) (fun l hl => ⟨l.length + 1, total_f l (by omega) _ (by omega)⟩)
def fitsC (I : Spec α) (limit key : Int) : List α → Int → Bt × Bool := fitsV I (chkC I) (totS 0) tcC limit key
theorem fittedC (I : Spec α) (next limit key : Int) : Fitted I next limit key (fitsC I limit key) := fun l A c rate W hA hl =>
 fits_calls I (chkC I) (checkedC I) (totS 0) (fun l hl => ⟨l.length + 1, total_f l (by omega) _ (by omega)⟩) tcC txcheckedC l A c next limit key rate W hA hl
def allC (I : Spec α) (l : List α) (next limit key : Int) : List S50 × Int := allV I (chkC I) (rtC I next) (fitsC I limit key) next limit key l
def orderC (I : Spec α) (l : List α) (next : Int) : List α := orderV I (chkC I) (rtC I next) next l
def makeC (I : Spec α) (l : List α) (rate key : Int) : Option Bt := makeV I (chkC I) (totS 0) tcC l rate key
theorem mapM_some {β γ : Type} {f : β → Option γ} : ∀ {l : List β}, (∀ x ∈ l, ∃ y, f x = some y) → ∃ ys, l.mapM f = some ys
 | [], _ => ⟨[], rfl⟩
 | x :: l, h => by
  obtain ⟨y, hy⟩ := h x (List.mem_cons_self)
  obtain ⟨ys, hys⟩ := mapM_some (l := l) (fun z hz => h z (List.mem_cons_of_mem _ hz))
  exact ⟨y :: ys, by simp [List.mapM_cons, hy, hys]⟩
theorem lits_u8 (d : Nat) (n : Int) (h : 0 ≤ n ∧ n ≤ 255) : Tryz.prog.keyLits (d + 1) 5 [.int .u8 n] = some [.int .u8 n] := by
 have hw : (Lit.int .u8 n).wf = true := by
  simp only [Lit.wf, Bool.and_eq_true, decide_eq_true_eq]
  exact h
 simp only [Program.keyLits, Tryz.underlying5, hw, and_self, if_true]
theorem lits_i64 (d : Nat) (n : Int) (h : -9223372036854775808 ≤ n ∧ n ≤ 9223372036854775807) : Tryz.prog.keyLits (d + 1) 3 [.int .i64 n] = some [.int .i64 n] := by
 have hw : (Lit.int .i64 n).wf = true := by
  simp only [Lit.wf, Bool.and_eq_true, decide_eq_true_eq]
  exact h
 simp only [Program.keyLits, Tryz.underlying3, hw, and_self, if_true]
theorem lits_hash (d : Nat) (bs : List Int) (hl : bs.length = 32) (h : ∀ n ∈ bs, 0 ≤ n ∧ n ≤ 255) : ∃ ls, Tryz.prog.keyLits (d + 2) 30 (bs.map (Value.int .u8)) = some ls := by
 have hc : Tryz.prog.cellsOf 30 = 32 := by kernel_rfl
 have hc1 : Tryz.prog.cellsOf 5 = 1 := by kernel_rfl
 rw [Program.keyLits.eq_def]
 simp only [Tryz.underlying30]
 rw [if_pos (by rw [List.length_map, hl, hc])]
 obtain ⟨ys, hys⟩ := mapM_some (l := List.range 32) (f := fun i => Tryz.prog.keyLits (d + 1) 5 (((bs.map (Value.int .u8)).drop (i * Tryz.prog.cellsOf 5)).take (Tryz.prog.cellsOf 5))) (fun i hi => by
  have hi' : i < bs.length := by rw [hl]; exact List.mem_range.1 hi
  rw [hc1, Nat.mul_one, ← List.map_drop, ← List.map_take, List.drop_eq_getElem_cons hi']
  exact ⟨_, lits_u8 d _ (h _ (List.getElem_mem hi'))⟩)
 rw [hys]
 exact ⟨_, rfl⟩
theorem key_of (bs : List Int) (nn : Int) (hl : bs.length = 32) (h : ∀ n ∈ bs, 0 ≤ n ∧ n ≤ 255) (hn : -9223372036854775808 ≤ nn ∧ nn ≤ 9223372036854775807) : ∃ kl, keyOf Tryz.prog 32 (keyV (bs, nn)) = some kl := by
 have hc : Tryz.prog.cellsOf 32 = 33 := by kernel_rfl
 have hch : Tryz.prog.cellsOf 30 = 32 := by kernel_rfl
 have hci : Tryz.prog.cellsOf 3 = 1 := by kernel_rfl
 have hk : Tryz.prog.keyType 32 = true := by kernel_rfl
 have hcells : (keyV (bs, nn)).cells.toList = bs.map (Value.int .u8) ++ [.int .i64 nn] := by simp [keyV, Value.cells]
 have hlen : (bs.map (Value.int .u8) ++ ([.int .i64 nn] : List Value)).length = 33 := by simp [hl]
 have hform : (keyV (bs, nn)).formed Tryz.prog 32 = true := by
  unfold keyV Value.formed
  simp only [Tryz.underlying32, hc]
  simp [hl]
 have hts : (Nat.ble 2 Tryz.prog.types.size) = true := by kernel_rfl
 have hts2 := Nat.le_of_ble_eq_true hts
 obtain ⟨m, hm⟩ : ∃ m, Tryz.prog.types.size + 1 = m + 3 := ⟨Tryz.prog.types.size - 2, by omega⟩
 obtain ⟨l1, h1⟩ := lits_hash m bs hl h
 have h2 := lits_i64 (m + 1) nn hn
 unfold keyOf
 simp only [Tryz.underlying32, hk, hform, Bool.and_self, if_true, hcells, hm]
 rw [Program.keyLits.eq_def]
 simp only [Tryz.underlying32]
 rw [if_pos ⟨by rw [hlen, hc], by kernel_rfl⟩]
 simp only [List.mapM_cons, List.mapM_nil, Array.toList, hch, hci, List.drop_zero]
 rw [List.take_left' (by simp [hl]), List.drop_left' (by simp [hl])]
 simp only [List.take_succ_cons, List.take_zero]
 rw [h1, h2]
 exact ⟨_, rfl⟩
def I90 : Spec S38 where
 bs x := [x.f0.f0.f0, x.f0.f0.f1, x.f0.f0.f2, x.f0.f0.f3, x.f0.f0.f4, x.f0.f0.f5, x.f0.f0.f6, x.f0.f0.f7, x.f0.f0.f8, x.f0.f0.f9, x.f0.f0.f10, x.f0.f0.f11, x.f0.f0.f12, x.f0.f0.f13, x.f0.f0.f14, x.f0.f0.f15, x.f0.f0.f16, x.f0.f0.f17, x.f0.f0.f18, x.f0.f0.f19, x.f0.f0.f20, x.f0.f0.f21, x.f0.f0.f22, x.f0.f0.f23, x.f0.f0.f24, x.f0.f0.f25, x.f0.f0.f26, x.f0.f0.f27, x.f0.f0.f28, x.f0.f0.f29, x.f0.f0.f30, x.f0.f0.f31]
 nn x := x.f0.f1
 value x := x.f1
 kind x := x.f2.f0.f0
 key x := x.f2.f0.f1
 pre x := x.f2.f0.f2
 seq x := x.f2.f1
 lock x := x.f2.f2
 wait x := x.f2.f3
 conf x := x.f3
 since x := x.f4
 dl x := x.f5
 budget x := x.f6
 hbs _ := rfl
theorem reads90 {w : World} {A : Option Addr} {n : Nat} {l : List S38} (h : Kd.C k38 w A n l) : ReadsRow (fun x c => c = I90.enc x) 44 w A n l :=
 ReadsRow.imp_ h (Below.refl _ w) (fun _ _ hp => k38_open hp)
instance : Inhabited S38 := ⟨z38⟩
def keyB (x : S38) : Bool := (I90.bs x).all (fun n => decide (0 ≤ n) && decide (n ≤ 255)) && (decide (-9223372036854775808 ≤ I90.nn x) && decide (I90.nn x ≤ 9223372036854775807))
theorem keyed90 {l : List S38} (h : l.all keyB = true) : Keyed I90 l := fun x hx => by
 have h1 := List.all_eq_true.1 h x hx
 unfold keyB at h1
 simp only [Bool.and_eq_true, List.all_eq_true, decide_eq_true_eq] at h1
 exact key_of _ _ (I90.hbs x) h1.1 h1.2
theorem all90 {w : World} {A : Option Addr} {c : Nat} {l : List S38} (hr : Kd.C k38 w A l.length l) (hl : l.length < 100000) (hk : l.all keyB = true) (next limit key : Int) :
 Calls Tryz.prog 19 #[.slice A l.length c, .int .i64 next, .int .i64 limit, .int .i64 key] w fun e w' => AllR w e w' (allC I90 l next limit key) :=
 all_calls I90 (chkC I90) (rtC I90 next) (checkedC I90) (rate_bounds I90 next) next limit key (ratedC I90 next) (fitsC I90 limit key) (fittedC I90 next limit key) l (keyed90 hk) A c w (reads90 hr) hl
theorem OwnI.kind {w : World} {base : Nat} {v : Value} {l : List S38} (h : OwnI I90 w base v l) : Kd.R k38 38 w base (fun _ => True) v l := by
 have hk : ∀ y ∈ l, (I90.enc y).length = 44 := fun y _ => I90.hk y
 refine ⟨fun _ _ => trivial, l.flatMap I90.enc, h.owns, by rw [DelB.flat_len' _ _ l hk]; rfl, fun j p hj => ?_⟩
 obtain ⟨hlt, hp⟩ := List.getElem?_eq_some_iff.1 hj
 have e := DelB.flat_chunk _ _ l hk j hlt
 rw [hp] at e
 show k38.M w base (fun _ => True) p (((l.flatMap I90.enc).drop (j * 44)).take 44)
 rw [e]
 exact k38_mkM w base _ p
theorem order90 {w : World} {A : Option Addr} {c : Nat} {l : List S38} (hr : Kd.C k38 w A l.length l) (hl : l.length < 100000) (next : Int) :
 Calls Tryz.prog 15 #[.slice A l.length c, .int .i64 next] w fun e w' => ∃ v, e = .returned v ∧ Kd.R k38 38 w' w.heap.size (fun _ => True) v (orderC I90 l next) ∧ Below w.heap.size w w' :=
 (order_calls I90 (chkC I90) (rtC I90 next) next (checkedC I90) (ratedC I90 next) l A c w (reads90 hr) hl).mono fun e w' ⟨v, he, ho, hb⟩ => ⟨v, he, ho.kind, hb⟩
theorem make90 {w : World} {A : Option Addr} {c : Nat} {l : List S38} (hr : Kd.C k38 w A l.length l) (hl : l.length < 100000) (rate key : Int) :
 Calls Tryz.prog 12 #[.slice A l.length c, .int .i64 rate, .int .i64 key] w fun e w' => Made w e w' (makeC I90 l rate key) :=
 make_calls I90 (chkC I90) (checkedC I90) (totS 0) (fun l hl => ⟨l.length + 1, total_f l (by omega) _ (by omega)⟩) tcC txcheckedC l A c rate key w (reads90 hr) hl
end Go.Proofs.YtiodebjjbgcbhaaGreat.Inp
namespace Go.Proofs.YtiodebjjbgcbhaaGreat.Inp
open Go.RowKit Go.Sort Go.Lib Go.Shelf Go.Proofs YtiodebjjbgcbhaaGreatW.PrintWords YtiodebjjbgcbhaaGreatW.PrintLast YtiodebjjbgcbhaaGreatW.PrintMore YtiodebjjbgcbhaaGreat Hand RowK Fill OrdO QLef LefL
attribute [local go_sem ↓ high] Wide.hv44 Wide.hv33 Wide.hv37
set_option linter.unusedVariables false
set_option linter.unusedSectionVars false
set_option linter.unusedSimpArgs false
variable {α : Type}
def J68 : Spec S42 where
 bs x := [x.f0.f0.f0, x.f0.f0.f1, x.f0.f0.f2, x.f0.f0.f3, x.f0.f0.f4, x.f0.f0.f5, x.f0.f0.f6, x.f0.f0.f7, x.f0.f0.f8, x.f0.f0.f9, x.f0.f0.f10, x.f0.f0.f11, x.f0.f0.f12, x.f0.f0.f13, x.f0.f0.f14, x.f0.f0.f15, x.f0.f0.f16, x.f0.f0.f17, x.f0.f0.f18, x.f0.f0.f19, x.f0.f0.f20, x.f0.f0.f21, x.f0.f0.f22, x.f0.f0.f23, x.f0.f0.f24, x.f0.f0.f25, x.f0.f0.f26, x.f0.f0.f27, x.f0.f0.f28, x.f0.f0.f29, x.f0.f0.f30, x.f0.f0.f31]
 nn x := x.f0.f1
 value x := x.f1
 kind x := x.f2.f0.f0
 key x := x.f2.f0.f1
 pre x := x.f2.f0.f2
 seq x := x.f2.f1
 lock x := x.f2.f2
 wait x := x.f2.f3
 conf x := x.f3
 since x := x.f4
 dl x := x.f5
 budget x := x.f6
 hbs _ := rfl
def to90 (x : S42) : S38 := ⟨x.f0, x.f1, ⟨x.f2.f0, x.f2.f1, x.f2.f2, x.f2.f3⟩, x.f3, x.f4, x.f5, x.f6⟩
def z44 : Array Value := #[.int .u8 0, .int .u8 0, .int .u8 0, .int .u8 0, .int .u8 0, .int .u8 0, .int .u8 0, .int .u8 0, .int .u8 0, .int .u8 0, .int .u8 0, .int .u8 0, .int .u8 0, .int .u8 0, .int .u8 0, .int .u8 0, .int .u8 0, .int .u8 0, .int .u8 0, .int .u8 0, .int .u8 0, .int .u8 0, .int .u8 0, .int .u8 0, .int .u8 0, .int .u8 0, .int .u8 0, .int .u8 0, .int .u8 0, .int .u8 0, .int .u8 0, .int .u8 0, .int .i64 0, .int .i64 0, .int .i64 0, .int .i64 0, .string ⟨#[]⟩, .int .i64 0, .int .i64 0, .int .i64 0, .int .i64 0, .int .i64 0, .int .i64 0, .int .i64 0]
set_option maxHeartbeats 8000000 in
set_option maxRecDepth 100000 in
theorem made_calls (I : Spec α) (x : α) (w : World) : Calls Tryz.prog 22 #[.agg (I.enc x).toArray] w fun e w' => e = .returned (.agg (I.enc x).toArray) ∧ Below w.heap.size w w' := by
 have tx := I.take_pt x
 have lx := I.hpt x
 have H1 := Ak (I.h1 x)
 have a0 : (I.enc x)[33]? = _ := I.at_ x 0
 have a1 : (I.enc x)[34]? = _ := I.at_ x 1
 have a2 : (I.enc x)[35]? = _ := I.at_ x 2
 have a3 : (I.enc x)[36]? = _ := I.at_ x 3
 have a4 : (I.enc x)[37]? = _ := I.at_ x 4
 have a5 : (I.enc x)[38]? = _ := I.at_ x 5
 have a6 : (I.enc x)[39]? = _ := I.at_ x 6
 have a7 : (I.enc x)[40]? = _ := I.at_ x 7
 have a8 : (I.enc x)[41]? = _ := I.at_ x 8
 have a9 : (I.enc x)[42]? = _ := I.at_ x 9
 have a10 : (I.enc x)[43]? = _ := I.at_ x 10
 change _ = some (Value.int .i64 (I.value x)) at a0
 change _ = some (Value.int .i64 (I.kind x)) at a1
 change _ = some (Value.int .i64 (I.key x)) at a2
 change _ = some (Value.string (I.pre x)) at a3
 change _ = some (Value.int .i64 (I.seq x)) at a4
 change _ = some (Value.int .i64 (I.lock x)) at a5
 change _ = some (Value.int .i64 (I.wait x)) at a6
 change _ = some (Value.int .i64 (I.conf x)) at a7
 change _ = some (Value.int .i64 (I.since x)) at a8
 change _ = some (Value.int .i64 (I.dl x)) at a9
 change _ = some (Value.int .i64 (I.budget x)) at a10
 have hspl : I.enc x = I.pt x ++ ([.int .i64 (I.value x), .int .i64 (I.kind x), .int .i64 (I.key x), .string (I.pre x), .int .i64 (I.seq x), .int .i64 (I.lock x), .int .i64 (I.wait x), .int .i64 (I.conf x), .int .i64 (I.since x), .int .i64 (I.dl x), .int .i64 (I.budget x)] : List Value) := rfl
 generalize I.pt x = px at tx lx hspl
 generalize I.value x = n0 at a0 hspl
 generalize I.kind x = n1 at a1 hspl
 generalize I.key x = n2 at a2 hspl
 generalize I.pre x = n3 at a3 hspl
 generalize I.seq x = n4 at a4 hspl
 generalize I.lock x = n5 at a5 hspl
 generalize I.wait x = n6 at a6 hspl
 generalize I.conf x = n7 at a7 hspl
 generalize I.since x = n8 at a8 hspl
 generalize I.dl x = n9 at a9 hspl
 generalize I.budget x = n10 at a10 hspl
 generalize I.enc x = cx at tx H1 hspl a0 a1 a2 a3 a4 a5 a6 a7 a8 a9 a10 ⊢
 obtain ⟨u0, u1, u2, u3, u4, u5, u6, u7, u8, u9, u10, u11, u12, u13, u14, u15, u16, u17, u18, u19, u20, u21, u22, u23, u24, u25, u26, u27, u28, u29, u30, u31, u32, rfl⟩ := list33 lx
 have HC := Ak (show cx = [u0, u1, u2, u3, u4, u5, u6, u7, u8, u9, u10, u11, u12, u13, u14, u15, u16, u17, u18, u19, u20, u21, u22, u23, u24, u25, u26, u27, u28, u29, u30, u31, u32, Value.int .i64 n0, Value.int .i64 n1, Value.int .i64 n2, Value.string n3, Value.int .i64 n4, Value.int .i64 n5, Value.int .i64 n6, Value.int .i64 n7, Value.int .i64 n8, Value.int .i64 n9, Value.int .i64 n10] from hspl)
 have HL := Ak (And.intro lx tx)
 clear lx tx hspl
 have HB := Ak (Below.refl w.heap.size w)
 go_enter Tryz.func22, Tryz.ntmps22
 go_upto_region 1 with (first | ((with_reducible refine gate_dst (N := 1) rfl ?_); refine box_event ?hg (N := 1) ?hd (cs := cx.toArray) (t := 42) ?hr ?_; (case hd => rfl); (case hg => rfl); (case hr => first | (go_simp; done) | (go_simp; rfl)); intro g1 hg w1 hbox hb; replace HB := Ak (below_step HB.1 hb); have BK := Ak hbox; clear hbox hb hg) | ((with_reducible refine gate_dst (N := 2) rfl ?_); refine box_event ?hg (N := 2) ?hd (cs := z44) (t := 38) ?hr ?_; (case hd => rfl); (case hg => rfl); (case hr => first | (go_simp; done) | (go_simp; rfl)); intro g2 hg w2 hbox hb; have GB := Ak (show w.heap.size ≤ g2 by rw [hg]; exact HB.1.size); replace HB := Ak (below_step HB.1 hb); replace BK := Ak (blk_below BK.1 hb); have BZ := Ak hbox; clear hbox hb hg))
 replace a0 := (blk_cell BK.1 33).trans (by simpa using a0)
 replace a1 := (blk_cell BK.1 34).trans (by simpa using a1)
 replace a2 := (blk_cell BK.1 35).trans (by simpa using a2)
 replace a3 := (blk_cell BK.1 36).trans (by simpa using a3)
 replace a4 := (blk_cell BK.1 37).trans (by simpa using a4)
 replace a5 := (blk_cell BK.1 38).trans (by simpa using a5)
 replace a6 := (blk_cell BK.1 39).trans (by simpa using a6)
 replace a7 := (blk_cell BK.1 40).trans (by simpa using a7)
 replace a8 := (blk_cell BK.1 41).trans (by simpa using a8)
 replace a9 := (blk_cell BK.1 42).trans (by simpa using a9)
 replace a10 := (blk_cell BK.1 43).trans (by simpa using a10)
 have hl : Sem.run Tryz.prog (Wide.heavy0 ⟨g1, 0, none⟩ 33) w2 = .ok #[u0, u1, u2, u3, u4, u5, u6, u7, u8, u9, u10, u11, u12, u13, u14, u15, u16, u17, u18, u19, u20, u21, u22, u23, u24, u25, u26, u27, u28, u29, u30, u31, u32] w2 := row_load BK.1 0 33 _ HL.1.1 (by rw [List.drop_zero]; exact HL.1.2)
 clear HL
 go_wp2_with (first | ((with_reducible refine gate_store (t := 38) (p := 2) rfl ?_); refine PutW.store_event ?b1 ?b2 38 (.tmp 2) (.tmp 28) ?b3 (g := g2) (t := 38) (cells := #[u0, u1, u2, u3, u4, u5, u6, u7, u8, u9, u10, u11, u12, u13, u14, u15, u16, u17, u18, u19, u20, u21, u22, u23, u24, u25, u26, u27, u28, u29, u30, u31, u32, .int .i64 n0, .int .i64 n1, .int .i64 n2, Value.string n3, .int .i64 n4, .int .i64 n5, .int .i64 n6, .int .i64 n7, .int .i64 n8, .int .i64 n9, .int .i64 n10]) ?a1 ?a2 BZ.1 rfl ?a4 ?a5 ?_; (case b1 => rfl); (case b2 => rfl); (case b3 => rfl); (case a1 => first | rfl | (go_simp; done)); (case a2 => first | rfl | (go_simp; done)); (case a4 => kernel_rfl); (case a5 => rw [Array.all_eq_true_iff_forall_mem]; intro v hv; rw [List.mem_toArray, ← HC.1] at hv; exact H1.1 v hv); intro w3 hz3 hs3 hg3; have HB3 := Ak (pw_below_grown HB.1 (some g2) HB.1.size hg3 (fun k e => by cases e; exact GB.1)); have BK3 := Ak hz3; clear hz3 hs3 hg3))
 refine bodyPost_ret (results_cell_row rfl _ _ g2 38 #[u0, u1, u2, u3, u4, u5, u6, u7, u8, u9, u10, u11, u12, u13, u14, u15, u16, u17, u18, u19, u20, u21, u22, u23, u24, u25, u26, u27, u28, u29, u30, u31, u32, .int .i64 n0, .int .i64 n1, .int .i64 n2, Value.string n3, .int .i64 n4, .int .i64 n5, .int .i64 n6, .int .i64 n7, .int .i64 n8, .int .i64 n9, .int .i64 n10] (0, 0) _ rfl BK3.1 Tryz.underlying38 rfl (by kernel_rfl)) rfl ?_
 exact ⟨by rw [HC.1], HB3.1⟩
def one68 (n v b : Int) : S42 := ⟨⟨⟨0, 0, 0, 0, 0, 0, 0, 0, 0, 0, 0, 0, 0, 0, 0, 0, 0, 0, 0, 0, 0, 0, 0, 0, 0, 0, 0, 0, 0, 0, 0, 0⟩, n⟩, v, ⟨⟨1, 2, ⟨#[]⟩⟩, 0, 0, 0⟩, 0, 0, 10, b⟩
set_option maxHeartbeats 8000000 in
set_option maxRecDepth 100000 in
theorem one_calls' (n v b : Int) (w : World) : Calls Tryz.prog 21 #[.int .i64 n, .int .i64 v, .int .i64 b] w fun e w' => e = .returned (.agg (J68.enc (one68 n v b)).toArray) ∧ Below w.heap.size w w' := by
 obtain ⟨cs, hcs⟩ : ∃ c : Array Value, c = #[.int .u8 0, .int .u8 0, .int .u8 0, .int .u8 0, .int .u8 0, .int .u8 0, .int .u8 0, .int .u8 0, .int .u8 0, .int .u8 0, .int .u8 0, .int .u8 0, .int .u8 0, .int .u8 0, .int .u8 0, .int .u8 0, .int .u8 0, .int .u8 0, .int .u8 0, .int .u8 0, .int .u8 0, .int .u8 0, .int .u8 0, .int .u8 0, .int .u8 0, .int .u8 0, .int .u8 0, .int .u8 0, .int .u8 0, .int .u8 0, .int .u8 0, .int .u8 0, .int .i64 n, .int .i64 v, .int .i64 1, .int .i64 2, .string ⟨#[]⟩, .int .i64 0, .int .i64 0, .int .i64 0, .int .i64 0, .int .i64 0, .int .i64 10, .int .i64 b] := ⟨_, rfl⟩
 have hres : (J68.enc (one68 n v b)).toArray = cs := by rw [hcs]; rfl
 have h1 : cs.all (·.oneCell') = true := by
  rw [← hres, Array.all_eq_true_iff_forall_mem]
  intro u hu
  exact J68.h1 _ u (List.mem_toArray.1 hu)
 have hsz : cs.size = 44 := by rw [← hres, List.size_toArray]; exact J68.hk _
 have CS := Ak hcs
 have HX := Ak (And.intro hres (And.intro h1 hsz))
 clear hcs hres h1 hsz
 rw [HX.1.1]
 go_enter Tryz.func21, Tryz.ntmps21
 go_wp2_with (first | ((with_reducible refine gate_store (t := 42) (p := 6) rfl ?_); refine PutW.store_event ?b1 ?b2 42 (.tmp 6) (.tmp 13) ?b3 (g := w.heap.size) (t := 42) (cells := cs) ?a1 ?a2 (blk_new w _) ?a3 ?a4 HX.1.2.1 ?_; (case b1 => rfl); (case b2 => rfl); (case b3 => rfl); (case a1 => first | rfl | (go_simp; done)); (case a2 => rw [CS.1]; first | rfl | (go_simp; done)); (case a3 => rw [HX.1.2.2]; rfl); (case a4 => rw [HX.1.2.2]; kernel_rfl); intro w3 hz3 hs3 hg3; have HB3 := Ak (pw_below_grown (below_alloc (Below.refl _ _) _) (some w.heap.size) (below_alloc (Below.refl _ _) _).size hg3 (fun k e => by cases e; exact Nat.le_refl _)); have BK3 := Ak hz3; clear hz3 hs3 hg3))
 refine bodyPost_ret (results_cell_row rfl _ _ w.heap.size 42 cs (0, 0) _ rfl BK3.1 Tryz.underlying42 rfl (by rw [HX.1.2.2]; kernel_rfl)) rfl ?_
 exact ⟨rfl, HB3.1⟩
end Go.Proofs.YtiodebjjbgcbhaaGreat.Inp
namespace Go.Proofs.YtiodebjjbgcbhaaGreat.Pure
open Go Go.Proofs YtiodebjjbgcbhaaGreat Inp QLef LefL OrdO OrdQ
set_option linter.unusedVariables false
set_option linter.unusedSimpArgs false
theorem lcmp_self (l : List Int) : lcmp l l = 0 := by
 induction l with
 | nil => rfl
 | cons x l ih => unfold lcmp; rw [if_pos (by simp [cmp3]), ih]
open Go Go.RowKit Go.Proofs YtiodebjjbgcbhaaGreat Inp QLef LefL OrdO OrdQ
end Go.Proofs.YtiodebjjbgcbhaaGreat.Pure
