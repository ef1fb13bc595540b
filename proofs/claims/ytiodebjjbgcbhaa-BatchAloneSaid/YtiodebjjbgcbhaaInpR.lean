/- What tx.Check tells of a transaction. -/
import Derived.Test.YtiodebjjbgcbhaaInpQ
import Derived.Test.YtiodebjjbgcbhaaInpX
namespace Go.Proofs.Ytiodebjjbgcbhaa.Inp
open Go.RowKit Go.Sort Go.Lib Go.Shelf Go.Proofs.Ytiodebjjbgcbhaa Go.Proofs.Ytiodebjjbgcbhaa.Hand Go.Proofs.YtiodebjjbgcbhaaW.PrintWords Go.Proofs.YtiodebjjbgcbhaaW.PrintLast Go.Proofs.YtiodebjjbgcbhaaW.PrintMore Go.Proofs.Ytiodebjjbgcbhaa.RowK Go.Proofs.Ytiodebjjbgcbhaa.Fill Go.Proofs.Ytiodebjjbgcbhaa.OrdO Go.Proofs.Ytiodebjjbgcbhaa.QLef Go.Proofs.Ytiodebjjbgcbhaa.LefL
attribute [local go_sem ↓ high] Wide.hv39 Wide.hv38 Wide.hv33 Wide.hv37
set_option linter.unusedVariables false
set_option linter.unusedSectionVars false
set_option linter.unusedSimpArgs false
section
variable {P : Program} {ops : Array Oper} {rest : List Oper} {o oa o2 : Oper} {a : Act} {Q : Exit → Act → World → Prop}
/-- A new variable of a struct's type, another one's turn, and the store into it. -/
theorem fill_event3 {W : World} {N x M : Tmp} {y : Operand} {cs zs : Array Value} {t : TypeId} (ho : o.op = .alloc t) (hg : o.guard = none) (_hd : o.dst = some N) (hoa : oa.op = .assign y) (hga : oa.guard = none) (hda : oa.dst = some M) (ho2 : o2.op = .store t (.tmp N) (.tmp x)) (hg2 : o2.guard = none) (hd2 : o2.dst = none)
 (hz : ∀ w, (zeroValue t).run P w = .ok (.agg zs) w) (hs : ∀ w, (Go.sizeOf t).run P w = .ok cs.size w) (hzs : zs.size = cs.size) (h1 : cs.toList.all (·.oneCell') = true)
 (hx : ∀ v u, ((a.put o.dst v).put oa.dst u).eval (.tmp x) = .agg cs) (hN : ∀ v u, ((a.put o.dst v).put oa.dst u).eval (.tmp N) = v)
 (h : ∀ g, g = W.heap.size → ∀ w1, w1.heap[g]? = some (.cells cs t (0, 0)) → Below W.heap.size W w1 → wpList P ops Q rest ((a.put o.dst (.pointer (some ⟨g, 0, none⟩))).put oa.dst ((a.put o.dst (.pointer (some ⟨g, 0, none⟩))).eval y)) w1) :
 wpList P ops Q (o :: oa :: o2 :: rest) a W := by
 have r1 : (execOp a.eval o).run P W = .ok (.value (.pointer (some ⟨W.heap.size, 0, none⟩))) (W.alloc (.cells zs t (0, 0))) := by
  simp only [execOp, ho]
  simp [Instr.alloc, hz, Value.cells, go_sem]
 refine Kd.event_run hg r1 ?_
 refine Kd.event_run (v := (a.put o.dst (.pointer (some ⟨W.heap.size, 0, none⟩))).eval y) (w1 := W.alloc (.cells zs t (0, 0))) hga (by simp only [execOp, hoa]; rfl) ?_
 have r2 : (execOp ((a.put o.dst (.pointer (some ⟨W.heap.size, 0, none⟩))).put oa.dst ((a.put o.dst (.pointer (some ⟨W.heap.size, 0, none⟩))).eval y)).eval o2).run P (W.alloc (.cells zs t)) = .ok .skip (W.alloc (.cells cs t)) := by
  have hf := run_fill P W zs t cs.toList (by simp [hzs]) (fun v hv => List.all_eq_true.1 h1 v hv)
  simp only [Array.toArray_toList] at hf
  simp only [execOp, ho2, hx, hN]
  simp [Instr.storeAt, storeVar, hs, Value.cells, hf, go_sem]
 refine store_event (t := t) (p := N) (v := .tmp x) hg2 ho2 hd2 r2 ?_
 rintro w' rfl
 exact h _ rfl _ (blk_new W _) (below_alloc (Below.refl _ _) _)
end
/-- May the first n inputs be? -/
def insOk (l : List S38) (n : Nat) : Bool := (List.range n).all fun i => match l[i]? with
 | some x => inB x && !((l.take i).any fun y => oeq y.f0 x.f0)
 | none => true
theorem insOk_succ (l : List S38) (i : Nat) (h : i < l.length) : insOk l (i + 1) = (insOk l i && (inB l[i] && !((l.take i).any fun y => oeq y.f0 l[i].f0))) := by
 unfold insOk
 rw [List.range_succ, List.all_append, List.all_cons, List.all_nil, Bool.and_true, List.getElem?_eq_getElem h]
theorem insOk_false (l : List S38) (i n : Nat) (h : i < n) (hn : n ≤ l.length) (hb : insOk l (i + 1) = false) : insOk l n = false := by
 unfold insOk at *
 rw [List.all_eq_false] at *
 obtain ⟨j, hj, hb⟩ := hb
 exact ⟨j, List.mem_range.2 (by have := List.mem_range.1 hj; omega), hb⟩
/-- What tx.Check tells. -/
def chkT (tot : List Int → Int × Int) (l0 : List S38) (l1 : List S64) (lock : Int) : Int :=
 if 100 < l0.length ∨ 100 < l1.length then 3 else
 if l0 = [] then 1 else
 if insOk l0 l0.length = false then 1 else
 if (l1.all fun o => scB o.f1) = false then 1 else
 if (decide (0 ≤ lock) && decide (lock ≤ 1000000)) = false then 1 else
 (tot (l1.map (·.f0))).2
/-- An output's cells, a script's. -/
def encOut (x : S64) : List Value := [.int .i64 x.f0, .int .i64 x.f1.f0, .int .i64 x.f1.f1, .int .i64 x.f1.f2, .int .i64 x.f1.f3, .int .i64 x.f1.f4, .int .i64 x.f1.f5, .int .u8 x.f1.f6.f0, .int .u8 x.f1.f6.f1, .int .u8 x.f1.f6.f2, .int .u8 x.f1.f6.f3, .int .u8 x.f1.f6.f4, .int .u8 x.f1.f6.f5, .int .u8 x.f1.f6.f6, .int .u8 x.f1.f6.f7, .int .u8 x.f1.f6.f8, .int .u8 x.f1.f6.f9, .int .u8 x.f1.f6.f10, .int .u8 x.f1.f6.f11, .int .u8 x.f1.f6.f12, .int .u8 x.f1.f6.f13, .int .u8 x.f1.f6.f14, .int .u8 x.f1.f6.f15, .int .u8 x.f1.f6.f16, .int .u8 x.f1.f6.f17, .int .u8 x.f1.f6.f18, .int .u8 x.f1.f6.f19, .int .u8 x.f1.f6.f20, .int .u8 x.f1.f6.f21, .int .u8 x.f1.f6.f22, .int .u8 x.f1.f6.f23, .int .u8 x.f1.f6.f24, .int .u8 x.f1.f6.f25, .int .u8 x.f1.f6.f26, .int .u8 x.f1.f6.f27, .int .u8 x.f1.f6.f28, .int .u8 x.f1.f6.f29, .int .u8 x.f1.f6.f30, .int .u8 x.f1.f6.f31]
def encPt (x : S34) : List Value := [.int .u8 x.f0.f0, .int .u8 x.f0.f1, .int .u8 x.f0.f2, .int .u8 x.f0.f3, .int .u8 x.f0.f4, .int .u8 x.f0.f5, .int .u8 x.f0.f6, .int .u8 x.f0.f7, .int .u8 x.f0.f8, .int .u8 x.f0.f9, .int .u8 x.f0.f10, .int .u8 x.f0.f11, .int .u8 x.f0.f12, .int .u8 x.f0.f13, .int .u8 x.f0.f14, .int .u8 x.f0.f15, .int .u8 x.f0.f16, .int .u8 x.f0.f17, .int .u8 x.f0.f18, .int .u8 x.f0.f19, .int .u8 x.f0.f20, .int .u8 x.f0.f21, .int .u8 x.f0.f22, .int .u8 x.f0.f23, .int .u8 x.f0.f24, .int .u8 x.f0.f25, .int .u8 x.f0.f26, .int .u8 x.f0.f27, .int .u8 x.f0.f28, .int .u8 x.f0.f29, .int .u8 x.f0.f30, .int .u8 x.f0.f31, .int .i64 x.f1]
theorem readsOut {w : World} {A : Option Addr} {n : Nat} {l : List S64} (h : Kd.C k64 w A n l) : ReadsRow (fun x c => c = encOut x) 39 w A n l :=
 ReadsRow.imp_ h (Below.refl _ w) (fun _ _ hp => k64_open hp)
theorem reads_any {α : Type} {enc : α → List Value} {k : Nat} (hk : ∀ x, (enc x).length = k) {w W : World} {A : Option Addr} {l : List α} (hA : ReadsRow (fun x c => c = enc x) k w A l.length l) (hb : Below w.heap.size w W) {ad : Addr} (e : A = some ad) {j : Nat} (hj : j < l.length) : Sem.run Try.prog (Wide.heavy0 (ad.add (j * k)) k) W = .ok (enc l[j]).toArray W := by
 obtain ⟨ad', e', hcc⟩ := hA.2.2 (by omega)
 have e2 : ad = ad' := Option.some.inj (e.symm.trans e')
 subst e2
 exact run_loadCellsFrom_list Try.prog _ _ (enc l[j]) k (hk _) (fun i v hi => by
  obtain ⟨c, _, rfl, h3⟩ := hcc j _ (List.getElem?_eq_getElem hj)
  have h4 := h3 i v hi
  rw [Addr.add_add]
  exact (hb.cell (World.block_lt_of_cell? w _ h4)).trans h4)
set_option maxRecDepth 100000 in
theorem spends_calls' (l : List S38) (n : Nat) (hn : l.length = n) (p : S34) (A : Option Addr) (c : Nat) (hc : n ≤ c) (W : World) (hr : Kd.C k38 W A n l) : Calls Try.prog 26 #[.agg #[.slice A n c, .slice none 0 0, .int .i64 0], .agg (encPt p).toArray] W fun e w' => e = .returned (.int .i64 (FindQ.firstOf (fun x => oeq x.f0 p) l)) ∧ Below W.heap.size W w' := by
 subst hn
 exact tx_Spends.calls A c l none 0 [] 0 p.f0.f0 p.f0.f1 p.f0.f2 p.f0.f3 p.f0.f4 p.f0.f5 p.f0.f6 p.f0.f7 p.f0.f8 p.f0.f9 p.f0.f10 p.f0.f11 p.f0.f12 p.f0.f13 p.f0.f14 p.f0.f15 p.f0.f16 p.f0.f17 p.f0.f18 p.f0.f19 p.f0.f20 p.f0.f21 p.f0.f22 p.f0.f23 p.f0.f24 p.f0.f25 p.f0.f26 p.f0.f27 p.f0.f28 p.f0.f29 p.f0.f30 p.f0.f31 p.f1 _ W hr hc ⟨rfl, Nat.zero_le _, fun h => absurd h (Nat.lt_irrefl _)⟩ (Nat.le_refl _) rfl
theorem C_take {α : Type} {d : Kd α} {w : World} {A : Option Addr} {l : List α} (h : Kd.C d w A l.length l) (i : Nat) (hi : i ≤ l.length) : Kd.C d w A i (l.take i) := by
 refine ⟨by rw [List.length_take]; omega, ?_, ?_⟩
 ·have := h.2.1; omega
 ·intro hz
  obtain ⟨ad, e, hc⟩ := h.2.2 (by omega)
  refine ⟨ad, e, fun j p hj => hc j p ?_⟩
  rw [List.getElem?_take] at hj
  split at hj
  ·exact hj
  ·cases hj
set_option maxHeartbeats 16000000 in
set_option maxRecDepth 100000 in
theorem txcheck_calls (tot : List Int → Int × Int) (htot : ∀ l : List Int, l.length < 100000 → ∃ k, amount_Total.f k l = some (tot l)) : TxChecked (chkT tot) := by
 intro A0 c0 l0 A1 c1 l1 lock w hr0 hc0 hr1 hc1 hl0 hl1
 have HTT := Aside0.mk htot
 have HR0 := Aside0.mk hr0
 have HR1 := Aside0.mk hr1
 have HC0 := Aside0.mk hc0
 have HC1 := Aside0.mk hc1
 have HL0 := Aside0.mk hl0
 have HL1 := Aside0.mk hl1
 have HB := Aside0.mk (Below.refl w.heap.size w)
 clear htot hr0 hr1 hc0 hc1 hl0 hl1
 have hu28 := Try.underlying28
 obtain ⟨cv, hcv⟩ : ∃ c, chkT tot l0 l1 lock = c := ⟨_, rfl⟩
 rw [hcv]
 have CV := Aside0.mk hcv
 clear hcv
 by_cases h0 : 100 < l0.length
 ·have E := Aside0.mk (show cv = 3 by rw [← CV.out, chkT, if_pos (.inl h0)])
  have z0 : decide (100 < (l0.length : Int)) = true := decide_eq_true (by omega)
  have z1 := eq_true (show (100 : Int) < (l0.length : Int) by omega)
  clear h0
  go_enter Try.func21, Try.ntmps21
  go_wp2_with (first | ((with_reducible refine wp_scope_land 8 ?_)) | ((with_reducible refine wp_label ?_); (try simp only [land_normal])) | ((with_reducible refine wp_goto ?_); (try simp only []); refine land_goto rfl ?_) | ((with_reducible refine gate_dst (N := 1) rfl ?_); refine box_event ?hg (N := 1) ?hd (cs := #[.slice A0 l0.length c0, .slice A1 l1.length c1, .int .i64 lock]) (t := 28) ?hr ?_; (case hd => rfl); (case hg => rfl); (case hr => first | (go_simp; done) | (go_simp; rfl)); intro g1 hg w1 hbox hb; have m_HB := Aside0.mk (below_step HB.out hb); have BK := Aside0.mk hbox; clear HB hbox hb hg; have HB := m_HB; clear m_HB; have k0_ : w1.cell? ⟨g1, 0, none⟩ = some (.slice A0 l0.length c0) := (blk_cell BK.out 0).trans rfl; have k1_ : w1.cell? ⟨g1, 1, none⟩ = some (.slice A1 l1.length c1) := (blk_cell BK.out 1).trans rfl; have k2_ : w1.cell? ⟨g1, 2, none⟩ = some (.int .i64 lock) := (blk_cell BK.out 2).trans rfl))
  (try simp only [land_ret])
  go_ret
  exact ⟨by rw [E.out] <;> rfl, HB.out⟩
 ·have z0 : decide (100 < (l0.length : Int)) = false := decide_eq_false (by omega)
  have z0a := eq_false (show ¬ (100 : Int) < (l0.length : Int) by omega)
  have L0 := Aside0.mk h0
  clear h0
  by_cases h1 : 100 < l1.length
  ·have E := Aside0.mk (show cv = 3 by rw [← CV.out, chkT, if_pos (.inr h1)])
   have z1 : decide (100 < (l1.length : Int)) = true := decide_eq_true (by omega)
   have z1a := eq_true (show (100 : Int) < (l1.length : Int) by omega)
   clear h1
   go_enter Try.func21, Try.ntmps21
   go_wp2_with (first | ((with_reducible refine wp_scope_land 8 ?_)) | ((with_reducible refine wp_label ?_); (try simp only [land_normal])) | ((with_reducible refine wp_goto ?_); (try simp only []); refine land_goto rfl ?_) | ((with_reducible refine gate_dst (N := 1) rfl ?_); refine box_event ?hg (N := 1) ?hd (cs := #[.slice A0 l0.length c0, .slice A1 l1.length c1, .int .i64 lock]) (t := 28) ?hr ?_; (case hd => rfl); (case hg => rfl); (case hr => first | (go_simp; done) | (go_simp; rfl)); intro g1 hg w1 hbox hb; have m_HB := Aside0.mk (below_step HB.out hb); have BK := Aside0.mk hbox; clear HB hbox hb hg; have HB := m_HB; clear m_HB; have k0_ : w1.cell? ⟨g1, 0, none⟩ = some (.slice A0 l0.length c0) := (blk_cell BK.out 0).trans rfl; have k1_ : w1.cell? ⟨g1, 1, none⟩ = some (.slice A1 l1.length c1) := (blk_cell BK.out 1).trans rfl; have k2_ : w1.cell? ⟨g1, 2, none⟩ = some (.int .i64 lock) := (blk_cell BK.out 2).trans rfl))
   (try simp only [land_ret])
   go_ret
   exact ⟨by rw [E.out] <;> rfl, HB.out⟩
  ·have z1 : decide (100 < (l1.length : Int)) = false := decide_eq_false (by omega)
   have z1a := eq_false (show ¬ (100 : Int) < (l1.length : Int) by omega)
   have L1 := Aside0.mk h1
   clear h1
   have CW := Aside0.mk (show cv = _ from by rw [← CV.out, chkT, if_neg (fun h => h.elim L0.out L1.out)])
   clear CV
   by_cases hnil : l0 = []
   ·have E := Aside0.mk (show cv = 1 by rw [CW.out, if_pos hnil])
    have hz : ((l0.length : Int) == 0) = true := by simp [hnil]
    have hz2 := eq_true (show (l0.length : Int) = 0 by simp [hnil])
    clear hnil
    go_enter Try.func21, Try.ntmps21
    go_wp2_with (first | ((with_reducible refine wp_scope_land 8 ?_)) | ((with_reducible refine wp_label ?_); (try simp only [land_normal])) | ((with_reducible refine wp_goto ?_); (try simp only []); refine land_goto rfl ?_) | ((with_reducible refine gate_dst (N := 1) rfl ?_); refine box_event ?hg (N := 1) ?hd (cs := #[.slice A0 l0.length c0, .slice A1 l1.length c1, .int .i64 lock]) (t := 28) ?hr ?_; (case hd => rfl); (case hg => rfl); (case hr => first | (go_simp; done) | (go_simp; rfl)); intro g1 hg w1 hbox hb; have m_HB := Aside0.mk (below_step HB.out hb); have BK := Aside0.mk hbox; clear HB hbox hb hg; have HB := m_HB; clear m_HB; have k0_ : w1.cell? ⟨g1, 0, none⟩ = some (.slice A0 l0.length c0) := (blk_cell BK.out 0).trans rfl; have k1_ : w1.cell? ⟨g1, 1, none⟩ = some (.slice A1 l1.length c1) := (blk_cell BK.out 1).trans rfl; have k2_ : w1.cell? ⟨g1, 2, none⟩ = some (.int .i64 lock) := (blk_cell BK.out 2).trans rfl))
    (try simp only [land_ret])
    go_ret
    exact ⟨by rw [E.out] <;> rfl, HB.out⟩
   ·have hpos : 0 < l0.length := List.length_pos_iff.2 hnil
    have HP := Aside0.mk hpos
    have hz : ((l0.length : Int) == 0) = false := by simp; omega
    have hz2 := eq_false (show ¬ (l0.length : Int) = 0 by omega)
    have CX := Aside0.mk (show cv = _ from by rw [CW.out, if_neg hnil])
    clear CW hnil
    go_enter Try.func21, Try.ntmps21
    go_wp2_with (first | ((with_reducible refine wp_scope_land 8 ?_)) | ((with_reducible refine wp_label ?_); (try simp only [land_normal])) | ((with_reducible refine wp_goto ?_); (try simp only []); refine land_goto rfl ?_) | ((with_reducible refine gate_dst (N := 1) rfl ?_); refine box_event ?hg (N := 1) ?hd (cs := #[.slice A0 l0.length c0, .slice A1 l1.length c1, .int .i64 lock]) (t := 28) ?hr ?_; (case hd => rfl); (case hg => rfl); (case hr => first | (go_simp; done) | (go_simp; rfl)); intro g1 hg w1 hbox hb; have m_HB := Aside0.mk (below_step HB.out hb); have BK := Aside0.mk hbox; clear HB hbox hb hg; have HB := m_HB; clear m_HB; have k0_ : w1.cell? ⟨g1, 0, none⟩ = some (.slice A0 l0.length c0) := (blk_cell BK.out 0).trans rfl; have k1_ : w1.cell? ⟨g1, 1, none⟩ = some (.slice A1 l1.length c1) := (blk_cell BK.out 1).trans rfl; have k2_ : w1.cell? ⟨g1, 2, none⟩ = some (.int .i64 lock) := (blk_cell BK.out 2).trans rfl))
    clear z0 z0a z1 z1a
    obtain ⟨ad, rfl, _⟩ := HR0.out.2.2 HP.out
    generalize hn : l0.length = n at HL0 HP hz hz2 HC0 BK ⊢
    have HN := Aside0.mk hn
    clear hn
    go_loopg [25] n (fun kq v25 wr => ∃ (i : Nat), v25 = .int .i64 i ∧ i ≤ n ∧ n - i ≤ kq ∧ Aside0 (insOk l0 i = true) ∧ Aside0 (wr.heap[g1]? = some (.cells #[.slice (some ad) n c0, .slice A1 l1.length c1, .int .i64 lock] 28 (0, 0))) ∧ Aside0 (Below w.heap.size w wr))
    case atStart => exact ⟨0, rfl, by omega, by omega, ⟨rfl⟩, BK, HB⟩
    case round =>
     clear BK HB
     obtain ⟨i, rfl, hin, hkq, HOK, BK, HB⟩ := hrel
     have hlb := L0.out
     rw [HN.out] at hlb
     by_cases hlt : i < n
     ·have hltz : (i : Int) < (n : Int) := by omega
      have hil : i < l0.length := by rw [HN.out]; exact hlt
      have hld := reads_any (enc := encIn) (k := 37) (fun _ => rfl) (readsIn HR0.out) HB.out rfl hil
      have HE := Aside0.mk (insOk_succ l0 i hil)
      have IX := Aside0.mk (in_calls' l0[i])
      have SX := Aside0.mk (fun (W : World) (hb : Below w.heap.size w W) => spends_calls' (l0.take i) i (by rw [List.length_take]; omega) l0[i].f0 (some ad) c0 (by have := HC0.out; omega) W (Kd.C_below (C_take HR0.out i (by omega)) hb))
      have HX := Aside0.mk (And.intro (show (encIn l0[i]).length = 37 from rfl) (And.intro (show (encIn l0[i]).take 33 = encPt l0[i].f0 from rfl) (show (encPt l0[i].f0).length = 33 from rfl)))
      have H1 := Aside0.mk (show (encIn l0[i]).all (·.oneCell') = true from rfl)
      have FN := Aside0.mk (FindQ.firstOf_nonneg (fun y => oeq y.f0 l0[i].f0) (l0.take i))
      generalize l0[i] = x at hld HE IX SX HX H1 FN
      clear hil
      generalize encPt x.f0 = px at SX HX
      generalize encIn x = cx at hld IX HX H1
      generalize FindQ.firstOf (fun y => oeq y.f0 x.f0) (l0.take i) = r at SX FN
      generalize inB x = ib at IX HE
      generalize ((l0.take i).any fun y => oeq y.f0 x.f0) = an at FN HE
      have hic : (i : Int) ≤ (c0 : Int) := by have := HC0.out; omega
      have hic2 := eq_true hic
      go_wp2_with (first | ((with_reducible refine gate_dst (N := 5) rfl ?_); refine fill_event3 (N := 5) (x := 29) (M := 4) (y := .tmp 27) (cs := cx.toArray) (t := 38) rfl rfl rfl rfl rfl rfl rfl rfl rfl Try.zeroValue38 ?fs ?fz ?f1 (fun _ _ => rfl) (fun _ _ => rfl) ?_; (case fs => exact fun W => (Try.sizeOf38 W).trans (by rw [List.size_toArray, HX.out.1])); (case fz => simp [HX.out.1]); (case f1 => simpa using H1.out); intro g5 hg5 w5 hbox hb; have B5 := Aside0.mk hbox; have m_BK := Aside0.mk (blk_below BK.out hb); have m_HB := Aside0.mk (below_step HB.out hb); clear BK HB hbox hb hg5; have BK := m_BK; have HB := m_HB; clear m_BK m_HB))
      clear hld
      have m_B5 := Aside0.mk (blk_drew B5.out)
      have m_BK := Aside0.mk (blk_drew BK.out)
      have m_HB := Aside0.mk (below_drew1 HB.out)
      clear B5 BK HB
      have B5 := m_B5
      have BK := m_BK
      have HB := m_HB
      clear m_B5 m_BK m_HB
      refine start_ (n := 14) (S := (fun w' => Sem.run Try.prog (Wide.heavy0 ⟨g5, 0, none⟩ 37) w' = .ok cx.toArray w' ∧ w'.cell? ⟨g1, 0, none⟩ = some (.slice (some ad) n c0) ∧ Sem.run Try.prog (Wide.heavy0 ⟨g5, 0, none⟩ 33) w' = .ok px.toArray w')) (ds := []) #[false, false, false, false, false, false, false, false, false, false, false, false, false, false] (by kernel_rfl) rfl rfl ⟨row_load B5.out 0 37 _ HX.out.1 (by rw [List.drop_zero, List.take_of_length_le (by rw [HX.out.1]; exact Nat.le_refl _)]), (blk_cell BK.out 0).trans rfl, row_load B5.out 0 33 _ HX.out.2.2 (by rw [List.drop_zero]; exact HX.out.2.1)⟩ (fun hHeld => ?_)
      generalize w5.drew = w6 at B5 BK HB hHeld ⊢
      refine take_ (i := 0) (N := some 30) (v := ?_) (a' := ?_) #[true, false, false, false, false, false, false, false, false, false, false, false, false, false] rfl rfl (by kernel_rfl) (fun _ _ _ h => h) (Or.inl ⟨by rfl, ?_⟩) hHeld ?_ ?_
      rotate_left
      ·rintro w' ⟨hl0, hc0, hl1⟩
       go_simp
       with_reducible rfl
      rotate_left
      ·simp only [Act.put, List.setIfInBounds_toArray, List.set_cons_zero, List.set_cons_succ, i64_w, i32_w]
       rfl
      refine one_ (i := 1) (N := some 31) #[true, true, false, false, false, false, false, false, false, false, false, false, false, false] rfl rfl (by kernel_rfl) (by decide) (fun K hK => ?_)
      refine goes_ Try.func44 (by kernel_rfl) rfl #[.agg cx.toArray] (by rfl) rfl rfl (by (try simp only [List.map_toArray, List.map_cons, List.map_nil]); first | done | rfl) ?_
      refine (IX.out _).mono ?_
      rintro e w7 ⟨rfl, hb⟩
      refine ⟨_, rfl, ?_⟩
      have m_B5 := Aside0.mk (blk_below B5.out hb)
      have m_BK := Aside0.mk (blk_below BK.out hb)
      have m_HB := Aside0.mk (below_step HB.out hb)
      clear B5 BK HB
      have B5 := m_B5
      have BK := m_BK
      have HB := m_HB
      clear m_B5 m_BK m_HB
      clear hb
      refine hK.out _ _ ⟨row_load B5.out 0 37 _ HX.out.1 (by rw [List.drop_zero, List.take_of_length_le (by rw [HX.out.1]; exact Nat.le_refl _)]), (blk_cell BK.out 0).trans rfl, row_load B5.out 0 33 _ HX.out.2.2 (by rw [List.drop_zero]; exact HX.out.2.1)⟩ (fun hHeld => ?_)
      clear hK K
      refine norm_ (a' := ?_) ?_ ?_
      rotate_left
      ·show Act.put _ (some 31) _ = _
       simp only [Act.put, List.setIfInBounds_toArray, List.set_cons_zero, List.set_cons_succ, i64_w, i32_w]
       rfl
      cases ib with
      | false =>
       refine pure_ (i := 2) (N := some 32) (v := ?_) (a' := ?_) #[true, true, true, false, false, false, false, false, false, false, false, false, false, false] rfl rfl (by kernel_rfl) (fun _ _ _ h => h) (Or.inl ⟨by rfl, ?_⟩) ?_ ?_
       rotate_left
       ·intro w'
        go_simp
        with_reducible rfl
       rotate_left
       ·simp only [Act.put, List.setIfInBounds_toArray, List.set_cons_zero, List.set_cons_succ, i64_w, i32_w]
        rfl
       refine pure_ (i := 3) (N := some 33) (v := ?_) (a' := ?_) #[true, true, true, true, false, false, false, false, false, false, false, false, false, false] rfl rfl (by kernel_rfl) (fun _ _ _ h => h) (Or.inl ⟨by rfl, ?_⟩) ?_ ?_
       rotate_left
       ·intro w'
        go_simp
        with_reducible rfl
       rotate_left
       ·simp only [Act.put, List.setIfInBounds_toArray, List.set_cons_zero, List.set_cons_succ, i64_w, i32_w]
        rfl
       refine pure_ (i := 4) (N := some 34) (v := undef) (a' := ?_) #[true, true, true, true, true, false, false, false, false, false, false, false, false, false] rfl rfl (by kernel_rfl) (fun _ _ _ h => h) (Or.inr ⟨by rfl, rfl⟩) ?_ ?_
       rotate_left
       ·simp only [Act.put, List.setIfInBounds_toArray, List.set_cons_zero, List.set_cons_succ, i64_w, i32_w]
        rfl
       refine pure_ (i := 5) (N := some 35) (v := undef) (a' := ?_) #[true, true, true, true, true, true, false, false, false, false, false, false, false, false] rfl rfl (by kernel_rfl) (fun _ _ _ h => h) (Or.inr ⟨by rfl, rfl⟩) ?_ ?_
       rotate_left
       ·simp only [Act.put, List.setIfInBounds_toArray, List.set_cons_zero, List.set_cons_succ, i64_w, i32_w]
        rfl
       refine pure_ (i := 6) (N := some 36) (v := undef) (a' := ?_) #[true, true, true, true, true, true, true, false, false, false, false, false, false, false] rfl rfl (by kernel_rfl) (fun _ _ _ h => h) (Or.inr ⟨by rfl, rfl⟩) ?_ ?_
       rotate_left
       ·simp only [Act.put, List.setIfInBounds_toArray, List.set_cons_zero, List.set_cons_succ, i64_w, i32_w]
        rfl
       refine pure_ (i := 7) (N := some 37) (v := undef) (a' := ?_) #[true, true, true, true, true, true, true, true, false, false, false, false, false, false] rfl rfl (by kernel_rfl) (fun _ _ _ h => h) (Or.inr ⟨by rfl, rfl⟩) ?_ ?_
       rotate_left
       ·simp only [Act.put, List.setIfInBounds_toArray, List.set_cons_zero, List.set_cons_succ, i64_w, i32_w]
        rfl
       refine pure_ (i := 8) (N := some 38) (v := undef) (a' := ?_) #[true, true, true, true, true, true, true, true, true, false, false, false, false, false] rfl rfl (by kernel_rfl) (fun _ _ _ h => h) (Or.inr ⟨by rfl, rfl⟩) ?_ ?_
       rotate_left
       ·simp only [Act.put, List.setIfInBounds_toArray, List.set_cons_zero, List.set_cons_succ, i64_w, i32_w]
        rfl
       refine pure_ (i := 9) (N := some 39) (v := undef) (a' := ?_) #[true, true, true, true, true, true, true, true, true, true, false, false, false, false] rfl rfl (by kernel_rfl) (fun _ _ _ h => h) (Or.inr ⟨by rfl, rfl⟩) ?_ ?_
       rotate_left
       ·simp only [Act.put, List.setIfInBounds_toArray, List.set_cons_zero, List.set_cons_succ, i64_w, i32_w]
        rfl
       refine pure_ (i := 10) (N := some 40) (v := undef) (a' := ?_) #[true, true, true, true, true, true, true, true, true, true, true, false, false, false] rfl rfl (by kernel_rfl) (fun _ _ _ h => h) (Or.inr ⟨by rfl, rfl⟩) ?_ ?_
       rotate_left
       ·simp only [Act.put, List.setIfInBounds_toArray, List.set_cons_zero, List.set_cons_succ, i64_w, i32_w]
        rfl
       refine pure_ (i := 11) (N := some 41) (v := undef) (a' := ?_) #[true, true, true, true, true, true, true, true, true, true, true, true, false, false] rfl rfl (by kernel_rfl) (fun _ _ _ h => h) (Or.inr ⟨by rfl, rfl⟩) ?_ ?_
       rotate_left
       ·simp only [Act.put, List.setIfInBounds_toArray, List.set_cons_zero, List.set_cons_succ, i64_w, i32_w]
        rfl
       refine pure_ (i := 12) (N := some 42) (v := undef) (a' := ?_) #[true, true, true, true, true, true, true, true, true, true, true, true, true, false] rfl rfl (by kernel_rfl) (fun _ _ _ h => h) (Or.inr ⟨by rfl, rfl⟩) ?_ ?_
       rotate_left
       ·simp only [Act.put, List.setIfInBounds_toArray, List.set_cons_zero, List.set_cons_succ, i64_w, i32_w]
        rfl
       refine pure_ (i := 13) (N := some 43) (v := ?_) (a' := ?_) #[true, true, true, true, true, true, true, true, true, true, true, true, true, true] rfl rfl (by kernel_rfl) (fun _ _ _ h => h) (Or.inl ⟨by rfl, ?_⟩) ?_ ?_
       rotate_left
       ·intro w'
        go_simp
        with_reducible rfl
       rotate_left
       ·simp only [Act.put, List.setIfInBounds_toArray, List.set_cons_zero, List.set_cons_succ, i64_w, i32_w]
        rfl
       refine done_ (by kernel_rfl) ?_
       clear hHeld
       go_wp2_with (first | ((with_reducible refine wp_scope_land 8 ?_)) | ((with_reducible refine wp_label ?_); (try simp only [land_normal])) | ((with_reducible refine wp_goto ?_); (try simp only []); refine land_goto rfl ?_))
       have E := Aside0.mk (show cv = 1 by rw [CX.out, if_pos (insOk_false l0 i l0.length (by rw [HN.out]; exact hlt) (Nat.le_refl _) (by rw [HE.out]; simp))])
       (try simp only [land_ret])
       go_ret
       exact ⟨by rw [E.out] <;> rfl, HB.out⟩
      | true =>
       refine pure_ (i := 2) (N := some 32) (v := ?_) (a' := ?_) #[true, true, true, false, false, false, false, false, false, false, false, false, false, false] rfl rfl (by kernel_rfl) (fun _ _ _ h => h) (Or.inl ⟨by rfl, ?_⟩) ?_ ?_
       rotate_left
       ·intro w'
        go_simp
        with_reducible rfl
       rotate_left
       ·simp only [Act.put, List.setIfInBounds_toArray, List.set_cons_zero, List.set_cons_succ, i64_w, i32_w]
        rfl
       refine pure_ (i := 3) (N := some 33) (v := ?_) (a' := ?_) #[true, true, true, true, false, false, false, false, false, false, false, false, false, false] rfl rfl (by kernel_rfl) (fun _ _ _ h => h) (Or.inl ⟨by rfl, ?_⟩) ?_ ?_
       rotate_left
       ·intro w'
        go_simp
        with_reducible rfl
       rotate_left
       ·simp only [Act.put, List.setIfInBounds_toArray, List.set_cons_zero, List.set_cons_succ, i64_w, i32_w]
        rfl
       refine pure_ (i := 4) (N := some 34) (v := ?_) (a' := ?_) #[true, true, true, true, true, false, false, false, false, false, false, false, false, false] rfl rfl (by kernel_rfl) (fun _ _ _ h => h) (Or.inl ⟨by rfl, ?_⟩) ?_ ?_
       rotate_left
       ·intro w'
        go_simp
        with_reducible rfl
       rotate_left
       ·simp only [Act.put, List.setIfInBounds_toArray, List.set_cons_zero, List.set_cons_succ, i64_w, i32_w]
        rfl
       refine take_ (i := 5) (N := some 35) (v := ?_) (a' := ?_) #[true, true, true, true, true, true, false, false, false, false, false, false, false, false] rfl rfl (by kernel_rfl) (fun _ _ _ h => h) (Or.inl ⟨by rfl, ?_⟩) hHeld ?_ ?_
       rotate_left
       ·rintro w' ⟨hl0, hc0, hl1⟩
        go_simp
        with_reducible rfl
       rotate_left
       ·simp only [Act.put, List.setIfInBounds_toArray, List.set_cons_zero, List.set_cons_succ, i64_w, i32_w]
        rfl
       refine pure_ (i := 6) (N := some 36) (v := ?_) (a' := ?_) #[true, true, true, true, true, true, true, false, false, false, false, false, false, false] rfl rfl (by kernel_rfl) (fun _ _ _ h => h) (Or.inl ⟨by rfl, ?_⟩) ?_ ?_
       rotate_left
       ·intro w'
        go_simp
        with_reducible rfl
       rotate_left
       ·simp only [Act.put, List.setIfInBounds_toArray, List.set_cons_zero, List.set_cons_succ, i64_w, i32_w]
        rfl
       refine pure_ (i := 7) (N := some 37) (v := ?_) (a' := ?_) #[true, true, true, true, true, true, true, true, false, false, false, false, false, false] rfl rfl (by kernel_rfl) (fun _ _ _ h => h) (Or.inl ⟨by rfl, ?_⟩) ?_ ?_
       rotate_left
       ·intro w'
        go_simp
        with_reducible rfl
       rotate_left
       ·simp only [Act.put, List.setIfInBounds_toArray, List.set_cons_zero, List.set_cons_succ, i64_w, i32_w]
        rfl
       refine pure_ (i := 8) (N := some 38) (v := ?_) (a' := ?_) #[true, true, true, true, true, true, true, true, true, false, false, false, false, false] rfl rfl (by kernel_rfl) (fun _ _ _ h => h) (Or.inl ⟨by rfl, ?_⟩) ?_ ?_
       rotate_left
       ·intro w'
        go_simp
        with_reducible rfl
       rotate_left
       ·simp only [Act.put, List.setIfInBounds_toArray, List.set_cons_zero, List.set_cons_succ, i64_w, i32_w]
        rfl
       refine pure_ (i := 9) (N := some 39) (v := ?_) (a' := ?_) #[true, true, true, true, true, true, true, true, true, true, false, false, false, false] rfl rfl (by kernel_rfl) (fun _ _ _ h => h) (Or.inl ⟨by rfl, ?_⟩) ?_ ?_
       rotate_left
       ·intro w'
        go_simp
        with_reducible rfl
       rotate_left
       ·simp only [Act.put, List.setIfInBounds_toArray, List.set_cons_zero, List.set_cons_succ, i64_w, i32_w]
        rfl
       refine take_ (i := 10) (N := some 40) (v := ?_) (a' := ?_) #[true, true, true, true, true, true, true, true, true, true, true, false, false, false] rfl rfl (by kernel_rfl) (fun _ _ _ h => h) (Or.inl ⟨by rfl, ?_⟩) hHeld ?_ ?_
       rotate_left
       ·rintro w' ⟨hl0, hc0, hl1⟩
        go_simp
        with_reducible rfl
       rotate_left
       ·simp only [Act.put, List.setIfInBounds_toArray, List.set_cons_zero, List.set_cons_succ, i64_w, i32_w]
        rfl
       refine one_ (i := 11) (N := some 41) #[true, true, true, true, true, true, true, true, true, true, true, true, false, false] rfl rfl (by kernel_rfl) (by decide) (fun K hK => ?_)
       refine goes_ Try.func26 (by kernel_rfl) rfl #[.agg #[.slice (some ad) i c0, .slice none 0 0, .int .i64 0], .agg px.toArray] (by rfl) rfl rfl (by (try simp only [List.map_toArray, List.map_cons, List.map_nil]); first | done | rfl) ?_
       refine (SX.out _ HB.out).mono ?_
       rintro e w8 ⟨rfl, hb⟩
       refine ⟨_, rfl, ?_⟩
       have m_B5 := Aside0.mk (blk_below B5.out hb)
       have m_BK := Aside0.mk (blk_below BK.out hb)
       have m_HB := Aside0.mk (below_step HB.out hb)
       clear B5 BK HB
       have B5 := m_B5
       have BK := m_BK
       have HB := m_HB
       clear m_B5 m_BK m_HB
       clear hb
       refine hK.out _ _ ⟨row_load B5.out 0 37 _ HX.out.1 (by rw [List.drop_zero, List.take_of_length_le (by rw [HX.out.1]; exact Nat.le_refl _)]), (blk_cell BK.out 0).trans rfl, row_load B5.out 0 33 _ HX.out.2.2 (by rw [List.drop_zero]; exact HX.out.2.1)⟩ (fun hHeld => ?_)
       clear hK K
       refine norm_ (a' := ?_) ?_ ?_
       rotate_left
       ·show Act.put _ (some 41) _ = _
        simp only [Act.put, List.setIfInBounds_toArray, List.set_cons_zero, List.set_cons_succ, i64_w, i32_w]
        rfl
       refine pure_ (i := 12) (N := some 42) (v := ?_) (a' := ?_) #[true, true, true, true, true, true, true, true, true, true, true, true, true, false] rfl rfl (by kernel_rfl) (fun _ _ _ h => h) (Or.inl ⟨by rfl, ?_⟩) ?_ ?_
       rotate_left
       ·intro w'
        go_simp
        with_reducible rfl
       rotate_left
       ·simp only [Act.put, List.setIfInBounds_toArray, List.set_cons_zero, List.set_cons_succ, i64_w, i32_w]
        rfl
       refine pure_ (i := 13) (N := some 43) (v := ?_) (a' := ?_) #[true, true, true, true, true, true, true, true, true, true, true, true, true, true] rfl rfl (by kernel_rfl) (fun _ _ _ h => h) (Or.inl ⟨by rfl, ?_⟩) ?_ ?_
       rotate_left
       ·intro w'
        go_simp
        with_reducible rfl
       rotate_left
       ·simp only [Act.put, List.setIfInBounds_toArray, List.set_cons_zero, List.set_cons_succ, i64_w, i32_w]
        rfl
       refine done_ (by kernel_rfl) ?_
       clear hHeld
       by_cases hr : 0 ≤ r
       ·have g1_ := eq_true hr
        first | rw [decide_eq_true hr] | simp only [g1_, decide_true]
        have E := Aside0.mk (show cv = 1 by rw [CX.out, if_pos (insOk_false l0 i l0.length (by rw [HN.out]; exact hlt) (Nat.le_refl _) (by rw [HE.out, FN.out, decide_eq_true hr]; simp))])
        go_wp2_with (first | ((with_reducible refine wp_scope_land 8 ?_)) | ((with_reducible refine wp_label ?_); (try simp only [land_normal])) | ((with_reducible refine wp_goto ?_); (try simp only []); refine land_goto rfl ?_))
        (try simp only [land_ret])
        go_ret
        exact ⟨by rw [E.out] <;> rfl, HB.out⟩
       ·have g1_ := eq_false hr
        first | rw [decide_eq_false hr] | simp only [g1_, decide_false]
        have HO2 := Aside0.mk (show insOk l0 (i + 1) = true by rw [HE.out, HOK.out, FN.out, decide_eq_false hr]; rfl)
        go_wp2_with (first | ((with_reducible refine wp_scope_land 8 ?_)) | ((with_reducible refine wp_label ?_); (try simp only [land_normal])) | ((with_reducible refine wp_goto ?_); (try simp only []); refine land_goto rfl ?_))
        go_roundg (n - (i + 1))
        case measure => omega
        case rel => exact ⟨i + 1, congrArg (Value.int .i64) (by have e := FltL.w64 (n := (i : Int) + 1) (by omega) (by omega); omega), by omega, by omega, HO2, BK, HB⟩
     ·obtain rfl : n = i := by omega
      have hnl : ¬ (n : Int) < (n : Int) := by omega
      have CY := Aside0.mk (show cv = _ from by rw [CX.out, if_neg (by rw [HN.out, HOK.out]; decide)])
      clear CX HOK hz hz2
      have k0_ : wr.cell? ⟨g1, 0, none⟩ = some (.slice (some ad) n c0) := (blk_cell BK.out 0).trans rfl; have k1_ : wr.cell? ⟨g1, 1, none⟩ = some (.slice A1 l1.length c1) := (blk_cell BK.out 1).trans rfl; have k2_ : wr.cell? ⟨g1, 2, none⟩ = some (.int .i64 lock) := (blk_cell BK.out 2).trans rfl
      go_wp2_with (first | ((with_reducible refine wp_scope_land 8 ?_)) | ((with_reducible refine wp_label ?_); (try simp only [land_normal])) | ((with_reducible refine wp_goto ?_); (try simp only []); refine land_goto rfl ?_))
      clear k0_ k1_ k2_
      generalize hm : l1.length = m at HL1 L1 HC1 BK ⊢
      have HM := Aside0.mk hm
      clear hm
      go_loopg [3, 48] m (fun kq v3 v48 wr => ∃ (i : Nat), v48 = .int .i64 i ∧ i ≤ m ∧ m - i ≤ kq ∧ Aside0 ((l1.take i).all (fun o => scB o.f1) = true) ∧ Aside0 (wr.heap[g1]? = some (.cells #[.slice (some ad) n c0, .slice A1 m c1, .int .i64 lock] 28 (0, 0))) ∧ Aside0 (Kd.R (Kd.int .i64) 3 wr w.heap.size (fun _ => True) v3 ((l1.take i).map (·.f0))) ∧ Aside0 (Below w.heap.size w wr))
      case atStart => exact ⟨0, rfl, by omega, by omega, ⟨rfl⟩, BK, ⟨Kd.R_nil _ _ _ _ _⟩, HB⟩
      case round =>
       clear BK HB
       obtain ⟨i, rfl, hin, hkq, HOK, BK, H3, HB⟩ := hrel
       have hlb := L1.out
       by_cases hlt : i < m
       ·have hltz : (i : Int) < (m : Int) := by omega
        have hil : i < l1.length := by rw [HM.out]; exact hlt
        obtain ⟨ad1, hAd, _⟩ := HR1.out.2.2 (by omega)
        subst hAd
        have hld := reads_any (enc := encOut) (k := 39) (fun _ => rfl) (readsOut HR1.out) HB.out rfl hil
        have HT1 := Aside0.mk (List.take_succ_eq_append_getElem hil)
        have HMEM := Aside0.mk (List.getElem_mem hil)
        have SX := Aside0.mk (script_calls' l1[i].f1)
        have HX := Aside0.mk (And.intro (show (encOut l1[i]).length = 39 from rfl) (And.intro (show ((encOut l1[i]).drop 1).take 38 = encSc l1[i].f1 from rfl) (And.intro (show (encSc l1[i].f1).length = 38 from rfl) (show (encOut l1[i])[0]? = some (.int .i64 l1[i].f0) from rfl))))
        have H1 := Aside0.mk (show (encOut l1[i]).all (·.oneCell') = true from rfl)
        have HSB := Aside0.mk (show scB l1[i].f1 = scB l1[i].f1 from rfl)
        generalize encSc l1[i].f1 = sx at SX HX
        generalize encOut l1[i] = cx at hld HX H1
        generalize l1[i] = x at SX HX HT1 HMEM HSB
        clear hil
        obtain ⟨sb, hsb⟩ : ∃ b, scB x.f1 = b := ⟨_, rfl⟩
        rw [hsb] at SX
        have SB := Aside0.mk hsb
        clear hsb HSB
        cases sb with
        | false =>
         go_wp2_with (first | ((with_reducible refine wp_scope_land 8 ?_)) | ((with_reducible refine wp_label ?_); (try simp only [land_normal])) | ((with_reducible refine wp_goto ?_); (try simp only []); refine land_goto rfl ?_) | ((with_reducible refine gate_dst (N := 7) rfl ?_); refine Fill.fill_event (N := 7) (x := 51) (cs := cx.toArray) (t := 64) rfl rfl rfl rfl rfl rfl Try.zeroValue64 ?fs ?fz ?f1 (fun _ => rfl) (fun _ => rfl) ?_; (case fs => exact fun W => (Try.sizeOf64 W).trans (by rw [List.size_toArray, HX.out.1])); (case fz => simp [HX.out.1]); (case f1 => simpa using H1.out); intro g7 hg7 w5 hbox hb; have B7 := Aside0.mk hbox; have m_BK := Aside0.mk (blk_below BK.out hb); have m_H3 := Aside0.mk (Kd.R_below H3.out hb); have m_HB := Aside0.mk (below_step HB.out hb); clear BK HB H3 hbox hb hg7 hld; have BK := m_BK; have HB := m_HB; have H3 := m_H3; clear m_BK m_HB m_H3; have hl1 : Sem.run Try.prog (Wide.heavy0 ⟨g7, 1, none⟩ 38) w5 = .ok sx.toArray w5 := row_load B7.out 1 38 _ HX.out.2.2.1 HX.out.2.1) | ((with_reducible refine gate_callee (f := 45) rfl ?_); refine goesL_ (some 54) rfl rfl Try.func45 (by kernel_rfl) rfl #[.agg sx.toArray] rfl (by (try simp only [List.map_toArray, List.map_cons, List.map_nil]); first | done | rfl) ?_; refine (SX.out _).mono ?_; rintro e w6 ⟨rfl, hb⟩; refine ⟨_, rfl, ?_⟩; clear hl1; have m_B7 := Aside0.mk (blk_below B7.out hb); have m_BK := Aside0.mk (blk_below BK.out hb); have m_H3 := Aside0.mk (Kd.R_below H3.out hb); have m_HB := Aside0.mk (below_step HB.out hb); clear B7 BK H3 HB; have B7 := m_B7; have BK := m_BK; have H3 := m_H3; have HB := m_HB; clear m_B7 m_BK m_H3 m_HB; clear hb; have kv : w6.cell? ⟨g7, 0, none⟩ = some (.int .i64 x.f0) := (blk_cell B7.out 0).trans (by simpa using HX.out.2.2.2)))
         have E := Aside0.mk (show cv = 1 by rw [CY.out, if_pos (List.all_eq_false.2 ⟨x, HMEM.out, by rw [SB.out]; decide⟩)])
         (try simp only [land_ret])
         go_ret
         exact ⟨by rw [E.out] <;> rfl, HB.out⟩
        | true =>
         go_wp2_with (first | ((with_reducible refine wp_scope_land 8 ?_)) | ((with_reducible refine wp_label ?_); (try simp only [land_normal])) | ((with_reducible refine wp_goto ?_); (try simp only []); refine land_goto rfl ?_) | ((with_reducible refine gate_dst (N := 7) rfl ?_); refine Fill.fill_event (N := 7) (x := 51) (cs := cx.toArray) (t := 64) rfl rfl rfl rfl rfl rfl Try.zeroValue64 ?fs ?fz ?f1 (fun _ => rfl) (fun _ => rfl) ?_; (case fs => exact fun W => (Try.sizeOf64 W).trans (by rw [List.size_toArray, HX.out.1])); (case fz => simp [HX.out.1]); (case f1 => simpa using H1.out); intro g7 hg7 w5 hbox hb; have B7 := Aside0.mk hbox; have m_BK := Aside0.mk (blk_below BK.out hb); have m_H3 := Aside0.mk (Kd.R_below H3.out hb); have m_HB := Aside0.mk (below_step HB.out hb); clear BK HB H3 hbox hb hg7 hld; have BK := m_BK; have HB := m_HB; have H3 := m_H3; clear m_BK m_HB m_H3; have hl1 : Sem.run Try.prog (Wide.heavy0 ⟨g7, 1, none⟩ 38) w5 = .ok sx.toArray w5 := row_load B7.out 1 38 _ HX.out.2.2.1 HX.out.2.1) | ((with_reducible refine gate_callee (f := 45) rfl ?_); refine goesL_ (some 54) rfl rfl Try.func45 (by kernel_rfl) rfl #[.agg sx.toArray] rfl (by (try simp only [List.map_toArray, List.map_cons, List.map_nil]); first | done | rfl) ?_; refine (SX.out _).mono ?_; rintro e w6 ⟨rfl, hb⟩; refine ⟨_, rfl, ?_⟩; clear hl1; have m_B7 := Aside0.mk (blk_below B7.out hb); have m_BK := Aside0.mk (blk_below BK.out hb); have m_H3 := Aside0.mk (Kd.R_below H3.out hb); have m_HB := Aside0.mk (below_step HB.out hb); clear B7 BK H3 HB; have B7 := m_B7; have BK := m_BK; have H3 := m_H3; have HB := m_HB; clear m_B7 m_BK m_H3 m_HB; clear hb; have kv : w6.cell? ⟨g7, 0, none⟩ = some (.int .i64 x.f0) := (blk_cell B7.out 0).trans (by simpa using HX.out.2.2.2)) | ((with_reducible refine gate_builtin (b := .append) (xs := #[.tmp 56, .tmp 59]) rfl ?_); at_builtin; refine Kd.R_append (Kd.int .i64) (w0 := w) (W := w6) w.heap.size rfl (.tmp 56) (.tmp 59) 22 3 (.int .i64 0) 8 rfl Try.underlying22 info3 rfl (by decide) (by omega) u3 ((l1.take i).map (·.f0)) x.f0 [.int .i64 x.f0] (fun _ => True) (fun _ => False) rfl rfl ?aP (fun _ hk => hk.elim) (fun _ _ => trivial) H3.out HB.out HB.out.size ?aL ?_; (case aP => exact rfl); (case aL => have := L1.out; rw [List.length_map, List.length_take]; omega); intro v60 w7 hv hb hg hat; have hE : (l1.take i).map (·.f0) ++ [x.f0] = (l1.take (i + 1)).map (·.f0) := (by rw [HT1.out, List.map_append]; rfl); rw [hE] at hv; have m_BK := Aside0.mk (blk_grown BK.out hg (Kd.R_ne H3.out BK.out (by decide))); clear BK B7 H3 HB hg hat hE kv; have BK := m_BK; have H3 := Aside0.mk hv; have HB := Aside0.mk hb; clear m_BK hv hb))
         go_roundg (m - (i + 1))
         case measure => omega
         case rel =>
          refine ⟨i + 1, congrArg (Value.int .i64) (by have e := FltL.w64 (n := (i : Int) + 1) (by omega) (by omega); omega), by omega, by omega, ⟨?_⟩, BK, H3, HB⟩
          rw [HT1.out, List.all_append, HOK.out]; simp [SB.out]
       ·obtain rfl : i = m := by omega
        have hnl : ¬ (i : Int) < (i : Int) := by omega
        have e0 : l1.take i = l1 := List.take_of_length_le (by rw [HM.out]; exact Nat.le_refl _)
        rw [e0] at HOK H3
        clear e0
        have CZ := Aside0.mk (show cv = _ from by rw [CY.out, if_neg (by rw [HOK.out]; decide)])
        clear CY HOK
        obtain ⟨lb, hlb⟩ : ∃ b, (decide (0 ≤ lock) && decide (lock ≤ 1000000)) = b := ⟨_, rfl⟩
        have WI := Aside0.mk (fun W : World => tx_within.calls lock 0 1000000 lb W (by rw [txwithin_f, hlb]))
        rw [hlb] at CZ
        clear hlb
        obtain ⟨A3, c3, e3⟩ := Kd.R_slice H3.out
        subst e3
        have k0_ : wr.cell? ⟨g1, 0, none⟩ = some (.slice (some ad) n c0) := (blk_cell BK.out 0).trans rfl; have k1_ : wr.cell? ⟨g1, 1, none⟩ = some (.slice A1 i c1) := (blk_cell BK.out 1).trans rfl; have k2_ : wr.cell? ⟨g1, 2, none⟩ = some (.int .i64 lock) := (blk_cell BK.out 2).trans rfl
        cases lb with
        | false =>
         go_wp2_with (first | ((with_reducible refine wp_scope_land 8 ?_)) | ((with_reducible refine wp_label ?_); (try simp only [land_normal])) | ((with_reducible refine wp_goto ?_); (try simp only []); refine land_goto rfl ?_) | ((with_reducible refine gate_callee (f := 46) rfl ?_); refine goesL_ (some 64) rfl rfl Try.func46 (by kernel_rfl) rfl #[.int .i64 lock, .int .i64 0, .int .i64 1000000] rfl (by (try simp only [List.map_toArray, List.map_cons, List.map_nil]); first | done | rfl) ?_; refine (WI.out _).mono ?_; rintro e w6 ⟨rfl, hd⟩; refine ⟨_, rfl, ?_⟩; clear k0_ k1_ k2_; have hb := below_drawn0 hd; clear hd; have m_BK := Aside0.mk (blk_below BK.out hb); have m_H3 := Aside0.mk (Kd.R_below H3.out hb); have m_HB := Aside0.mk (below_step HB.out hb); clear BK H3 HB; have BK := m_BK; have H3 := m_H3; have HB := m_HB; clear m_BK m_H3 m_HB; clear hb))
         (try simp only [land_ret])
         go_ret
         exact ⟨by rw [CZ.out] <;> rfl, HB.out⟩
        | true =>
         obtain ⟨kt, hkt⟩ := HTT.out (l1.map (·.f0)) (by rw [List.length_map, HM.out]; have := L1.out; omega)
         obtain ⟨tv, te, htv⟩ : ∃ a b, tot (l1.map (·.f0)) = (a, b) := ⟨_, _, rfl⟩
         rw [htv] at hkt
         have KT := Aside0.mk hkt
         have E := Aside0.mk (show cv = te by rw [CZ.out, htv]; rfl)
         clear hkt htv CZ HTT
         generalize l1.map (·.f0) = vals at H3 KT ⊢
         go_wp2_with (first | ((with_reducible refine wp_scope_land 8 ?_)) | ((with_reducible refine wp_label ?_); (try simp only [land_normal])) | ((with_reducible refine wp_goto ?_); (try simp only []); refine land_goto rfl ?_) | ((with_reducible refine gate_callee (f := 46) rfl ?_); refine goesL_ (some 64) rfl rfl Try.func46 (by kernel_rfl) rfl #[.int .i64 lock, .int .i64 0, .int .i64 1000000] rfl (by (try simp only [List.map_toArray, List.map_cons, List.map_nil]); first | done | rfl) ?_; refine (WI.out _).mono ?_; rintro e w6 ⟨rfl, hd⟩; refine ⟨_, rfl, ?_⟩; clear k0_ k1_ k2_; have hb := below_drawn0 hd; clear hd; have m_BK := Aside0.mk (blk_below BK.out hb); have m_H3 := Aside0.mk (Kd.R_below H3.out hb); have m_HB := Aside0.mk (below_step HB.out hb); clear BK H3 HB; have BK := m_BK; have H3 := m_H3; have HB := m_HB; clear m_BK m_H3 m_HB; clear hb) | ((with_reducible refine gate_callee (f := 30) rfl ?_); refine goesL_ (some 68) rfl rfl Try.func30 (by kernel_rfl) rfl #[.slice A3 vals.length c3] rfl (by (try simp only [List.map_toArray, List.map_cons, List.map_nil]); first | done | rfl) ?_; refine (amount_Total.calls kt A3 c3 vals tv te _ (Kd.R_reads' H3.out).2.2 (Kd.R_reads' H3.out).2.1 KT.out).mono ?_; rintro e w8 ⟨rfl, hd⟩; refine ⟨_, rfl, ?_⟩; have hb := below_drawn0 hd; clear hd; have m_BK := Aside0.mk (blk_below BK.out hb); have m_HB := Aside0.mk (below_step HB.out hb); clear BK HB; have BK := m_BK; have HB := m_HB; clear m_BK m_HB; clear hb H3))
         (try simp only [land_ret])
         go_ret
         exact ⟨by rw [E.out] <;> rfl, HB.out⟩
end Go.Proofs.Ytiodebjjbgcbhaa.Inp
