import Derived.Lib.SliceRun
import Derived.Test.YtiodebjjbgcbhaaGreatWWords
namespace Go.Proofs.YtiodebjjbgcbhaaGreat.RowK
open Go.RowKit Go.Proofs YtiodebjjbgcbhaaGreatW.PrintWords
variable {P : Program}
def over (l : List Value) (o : Nat) (vs : List Value) : List Value := l.take o ++ vs ++ l.drop (o + vs.length)
theorem over_len (l vs : List Value) (o : Nat) (h : o + vs.length ≤ l.length) : (over l o vs).length = l.length := by
 simp only [over, List.length_append, List.length_take, List.length_drop]; omega
theorem over_nil (l : List Value) (o : Nat) : over l o [] = l := by simp [over]
theorem over_cons (l : List Value) (o : Nat) (v : Value) (vs : List Value) (h : o + (vs.length + 1) ≤ l.length) : over (l.set o v) (o + 1) vs = over l o (v :: vs) := by
 unfold over
 apply List.ext_getElem
 ·simp only [List.length_append, List.length_take, List.length_drop, List.length_set, List.length_cons]; omega
 ·intro i h1 h2
  simp only [List.length_append, List.length_take, List.length_drop, List.length_set] at h1
  simp only [List.getElem_append, List.length_append, List.length_take, List.length_set, List.getElem_take, List.getElem_drop, List.getElem_set, List.length_cons, List.getElem_cons]
  have e1 : min (o + 1) l.length = o + 1 := by omega
  have e2 : min o l.length = o := by omega
  simp only [e1, e2]
  by_cases a : i < o
  ·rw [dif_pos (by omega), dif_pos (by omega), if_neg (by omega), dif_pos (by omega), dif_pos a]
  ·by_cases b : i = o
   ·subst b
    rw [dif_pos (by omega), dif_pos (by omega), if_pos rfl, dif_pos (by omega), dif_neg (by omega), dif_pos (by omega)]
   ·by_cases c : i < o + 1 + vs.length
    ·rw [dif_pos (by omega), dif_neg (by omega), dif_pos (by omega), dif_neg (by omega), dif_neg (by omega)]
     congr 1
    ·rw [dif_neg (by omega), dif_neg (by omega), if_neg (by omega)]
     congr 1
     omega
theorem heap_setCells {b : Nat} {t : TypeId} : ∀ (vs : List Value) (o : Nat) (w : World) (cur : List Value), w.heap[b]? = some (.cells cur.toArray t (0, 0)) → o + vs.length ≤ cur.length → (w.setCells b o vs).heap[b]? = some (.cells (over cur o vs).toArray t (0, 0))
 | [], o, w, cur, h, _ => by rw [over_nil]; exact h
 | v :: vs, o, w, cur, h, hl => by
  simp only [List.length_cons] at hl
  have h1 : (w.setCell ⟨b, o, none⟩ v).heap[b]? = some (.cells (cur.set o v).toArray t (0, 0)) := by
   obtain ⟨hlt, hk⟩ := Array.getElem?_eq_some_iff.1 h
   show (w.heap.modify b _)[b]? = _
   rw [Array.getElem?_eq_getElem (by rw [Array.size_modify]; exact hlt), Array.getElem_modify_self, hk]
   simp
  have := heap_setCells vs (o + 1) (w.setCell ⟨b, o, none⟩ v) (cur.set o v) h1 (by rw [List.length_set]; omega)
  rw [over_cons _ _ _ _ (by omega)] at this
  exact this
theorem grown_setCells (b : Nat) : ∀ (vs : List Value) (o : Nat) (w : World), w.grownBy (w.setCells b o vs) (some b)
 | [], o, w => ⟨rfl, rfl, rfl, Nat.le_refl _, fun _ _ _ => rfl⟩
 | v :: vs, o, w => by
  have h := grown_setCells b vs (o + 1) (w.setCell ⟨b, o, none⟩ v)
  have hs : (w.setCell ⟨b, o, none⟩ v).heap.size = w.heap.size := by show (w.heap.modify b _).size = _; rw [Array.size_modify]
  obtain ⟨h1, h2, h3, h4, h5⟩ := h
  refine ⟨h1, h2, h3, by rw [hs] at h4; exact h4, fun k hk hne => ?_⟩
  exact (h5 k (by rw [hs]; exact hk) hne).trans (Below.heap_setCell _ _ _ k (fun e => hne (by rw [e])))
theorem cell_of_block {w : World} {b : Nat} {t : TypeId} {cur : List Value} (h : w.heap[b]? = some (.cells cur.toArray t (0, 0))) (j : Nat) (v : Value) (hj : cur[j]? = some v) : w.cell? ⟨b, j, none⟩ = some v := by
 simp [World.cell?, h, hj]
theorem free_of_block {w : World} {b : Nat} {t : TypeId} {cur : List Value} (h : w.heap[b]? = some (.cells cur.toArray t (0, 0))) (j : Nat) : w.frozen? ⟨b, j, none⟩ = false := by
 simp [World.frozen?, h]
theorem row_store {w : World} {b : Nat} {t : TypeId} {cur : List Value} (h : w.heap[b]? = some (.cells cur.toArray t (0, 0))) (o : Nat) (vs : List Value) (hl : o + vs.length ≤ cur.length) (h1 : ∀ v ∈ vs, v.oneCell' = true) :
 (storeCells ⟨b, o, none⟩ vs 0).run P w = .ok () (w.setCells b o vs) := by
 have := run_storeCells_cells (P := P) b o vs 0 w (fun j hj => by
  rw [Nat.add_zero, cell_of_block h (o + j) _ (List.getElem?_eq_getElem (by omega))]; rfl) (fun j _ => free_of_block h _) h1
 simpa using this
theorem row_load {w : World} {b : Nat} {t : TypeId} {cur : List Value} (h : w.heap[b]? = some (.cells cur.toArray t (0, 0))) (o n : Nat) (vs : List Value) (hn : vs.length = n) (hv : (cur.drop o).take n = vs) :
 (loadCellsFrom ⟨b, o, none⟩ 0 n #[]).run P w = .ok vs.toArray w := by
 have := run_loadCells_list (P := P) (w := w) ⟨b, o, none⟩ vs (fun j v hj => by
  rw [Addr.add_lit]
  refine cell_of_block h (o + j) v ?_
  rw [← hv] at hj
  rw [List.getElem?_take] at hj
  split at hj
  ·rw [List.getElem?_drop] at hj; exact hj
  ·cases hj)
 rw [hn] at this
 simpa [loadCells] using this
def heavy0 (a : Addr) (n : Nat) : Sem (Array Value) := loadCellsFrom a 0 n #[]
theorem hv5 (a : Addr) : loadCellsFrom a 0 5 #[] = heavy0 a 5 := rfl
theorem hv33 (a : Addr) : loadCellsFrom a 0 33 #[] = heavy0 a 33 := rfl
end Go.Proofs.YtiodebjjbgcbhaaGreat.RowK
namespace Go.Proofs.YtiodebjjbgcbhaaGreat.Fill
open Go.RowKit Go.Proofs YtiodebjjbgcbhaaGreatW.PrintWords YtiodebjjbgcbhaaGreat RowK
theorem world_eq {a b : World} (h1 : a.heap = b.heap) (h2 : a.tape = b.tape) (h3 : a.drawn = b.drawn) (h4 : a.os = b.os) (h5 : a.output = b.output) : a = b := by
 cases a; cases b; simp only [World.mk.injEq] at *; exact ⟨h1, h2, h3, h4, h5⟩
theorem setCells_drawn (b : Nat) : ∀ (vs : List Value) (o : Nat) (w : World), (w.setCells b o vs).drawn = w.drawn
 | [], _, _ => rfl
 | v :: vs, o, w => setCells_drawn b vs (o + 1) (w.setCell ⟨b, o, none⟩ v)
theorem setCells_size (b : Nat) : ∀ (vs : List Value) (o : Nat) (w : World), (w.setCells b o vs).heap.size = w.heap.size
 | [], _, _ => rfl
 | v :: vs, o, w => (setCells_size b vs (o + 1) (w.setCell ⟨b, o, none⟩ v)).trans (by show (w.heap.modify b _).size = _; rw [Array.size_modify])
theorem run_fill (P : Program) (W : World) (z : Array Value) (t : TypeId) (cs : List Value) (hz : z.size = cs.length) (h1 : ∀ v ∈ cs, v.oneCell' = true) :
 (storeCells ⟨W.heap.size, 0, none⟩ cs 0).run P (W.alloc (.cells z t)) = .ok () (W.alloc (.cells cs.toArray t)) := by
 have hb : (W.alloc (.cells z t)).heap[W.heap.size]? = some (.cells z.toList.toArray t (0, 0)) := by rw [Array.toArray_toList]; exact blk_new W _
 rw [row_store hb 0 cs (by simp [hz]) h1]
 congr 1
 have h2 := heap_setCells cs 0 _ _ hb (by simp [hz])
 have h3 := grown_setCells W.heap.size cs 0 (W.alloc (.cells z t))
 have e : over z.toList 0 cs = cs := by simp [over, hz]
 rw [e] at h2
 refine world_eq ?_ h3.tape (setCells_drawn _ _ _ _) h3.os h3.output
 have hs := setCells_size W.heap.size cs 0 (W.alloc (.cells z t))
 apply Array.ext_getElem?
 intro k
 by_cases hk : k < W.heap.size
 ·rw [h3.block k (by simp; omega) (by simp; omega), Below.heap_alloc _ _ _ hk, Below.heap_alloc _ _ _ hk]
 ·by_cases hk2 : k = W.heap.size
  ·subst hk2
   rw [h2, blk_new]
  ·rw [Array.getElem?_eq_none (by rw [hs]; simp; omega), Array.getElem?_eq_none (by simp; omega)]
variable {P : Program} {ops : Array Oper} {rest : List Oper} {o o2 : Oper} {a : Act} {Q : Exit → Act → World → Prop}
theorem fill_event {W : World} {N x : Tmp} {cs zs : Array Value} {t : TypeId} (ho : o.op = .alloc t) (hg : o.guard = none) (_hd : o.dst = some N) (ho2 : o2.op = .store t (.tmp N) (.tmp x)) (hg2 : o2.guard = none) (hd2 : o2.dst = none)
 (hz : ∀ w, (zeroValue t).run P w = .ok (.agg zs) w) (hs : ∀ w, (Go.sizeOf t).run P w = .ok cs.size w) (hzs : zs.size = cs.size) (h1 : cs.toList.all (·.oneCell') = true)
 (hx : ∀ v, (a.put o.dst v).eval (.tmp x) = .agg cs) (hN : ∀ v, (a.put o.dst v).eval (.tmp N) = v)
 (h : ∀ g, g = W.heap.size → ∀ w1, w1.heap[g]? = some (.cells cs t (0, 0)) → Below W.heap.size W w1 → wpList P ops Q rest (a.put o.dst (.pointer (some ⟨g, 0, none⟩))) w1) :
 wpList P ops Q (o :: o2 :: rest) a W := by
 have r1 : (execOp a.eval o).run P W = .ok (.value (.pointer (some ⟨W.heap.size, 0, none⟩))) (W.alloc (.cells zs t (0, 0))) := by
  simp only [execOp, ho]
  simp [Instr.alloc, hz, Value.cells, go_sem]
 refine Kd.event_run hg r1 ?_
 have r2 : (execOp (a.put o.dst (.pointer (some ⟨W.heap.size, 0, none⟩))).eval o2).run P (W.alloc (.cells zs t)) = .ok .skip (W.alloc (.cells cs t)) := by
  have hf := run_fill P W zs t cs.toList (by simp [hzs]) (fun v hv => List.all_eq_true.1 h1 v hv)
  simp only [Array.toArray_toList] at hf
  simp only [execOp, ho2, hx, hN]
  simp [Instr.storeAt, storeVar, hs, Value.cells, hf, go_sem]
 refine store_event (t := t) (p := N) (v := .tmp x) hg2 ho2 hd2 r2 ?_
 rintro w' rfl
 exact h _ rfl _ (blk_new W _) (below_alloc (Below.refl _ _) _)
end Go.Proofs.YtiodebjjbgcbhaaGreat.Fill
namespace Go.Proofs.YtiodebjjbgcbhaaGreat.PutW
open Go.RowKit Go.Proofs YtiodebjjbgcbhaaGreatW.PrintWords YtiodebjjbgcbhaaGreat RowK Fill
theorem set_all {w : World} {g : Nat} {t : TypeId} {z : Array Value} {cs : List Value} (hb : w.heap[g]? = some (.cells z t (0, 0))) (hl : cs.length = z.size) :
 (w.setCells g 0 cs).heap[g]? = some (.cells cs.toArray t (0, 0)) ∧ (w.setCells g 0 cs).heap.size = w.heap.size ∧ w.grownBy (w.setCells g 0 cs) (some g) := by
 have h2 := heap_setCells (b := g) cs 0 w z.toList (show w.heap[g]? = some (.cells z.toList.toArray t (0, 0)) by rw [Array.toArray_toList]; exact hb) (by simp [hl])
 refine ⟨?_, setCells_size g cs 0 w, grown_setCells g cs 0 w⟩
 rw [h2]
 simp [over, hl]
theorem store_event {P : Program} {ops : Array Oper} {rest : List Oper} {op : Oper} {a : Act} {w : World} {Q : Exit → Act → World → Prop} (hgd : op.guard = none) (hd : op.dst = none) (ty : TypeId) (x y : Operand) (ho : op.op = .store ty x y)
 {g : Nat} {z cells : Array Value} {t : TypeId} (hx : a.eval x = .pointer (some ⟨g, 0, none⟩)) (hy : a.eval y = .agg cells) (hb : w.heap[g]? = some (.cells z t (0, 0))) (hz : cells.size = z.size)
 (hi : (P.info? ty).map (·.size) = some cells.size) (h1 : cells.all (·.oneCell') = true)
 (h : ∀ w1, w1.heap[g]? = some (.cells cells t (0, 0)) → w1.heap.size = w.heap.size → w.grownBy w1 (some g) → wpList P ops Q rest a w1) : wpList P ops Q (op :: rest) a w := by
 have hs := set_all (cs := cells.toList) hb (by simpa using hz)
 refine wpList_store_mid hgd ty x y ho g 0 cells hx hy (fun j hj => ?_) hi h1 ?_
 ·rw [Nat.zero_add]
  exact ⟨by rw [(blk_cell hb j).trans (Array.getElem?_eq_getElem (by omega))]; rfl, blk_frozen hb j⟩
 ·rw [hd]
  exact h _ (by simpa using hs.1) hs.2.1 hs.2.2
end Go.Proofs.YtiodebjjbgcbhaaGreat.PutW
