/- A new variable of a struct's type and the store into it, as one step: behind both the block holds what was stored. -/
import Derived.Test.YtmoecidfmgeafaaDoorWWords
import Derived.Test.YtmoecidfmgeafaaDoorRowK
namespace Go.Proofs.YtmoecidfmgeafaaDoor.Fill
open Go.RowKit Go.Proofs.YtmoecidfmgeafaaDoorW.PrintWords Go.Proofs.YtmoecidfmgeafaaDoor.RowK
theorem world_eq {a b : World} (h1 : a.heap = b.heap) (h2 : a.tape = b.tape) (h3 : a.drawn = b.drawn) (h4 : a.os = b.os) (h5 : a.output = b.output) : a = b := by
  cases a; cases b; simp only [World.mk.injEq] at *; exact ⟨h1, h2, h3, h4, h5⟩
theorem setCells_drawn (b : Nat) : ∀ (vs : List Value) (o : Nat) (w : World), (w.setCells b o vs).drawn = w.drawn
  | [], _, _ => rfl
  | v :: vs, o, w => setCells_drawn b vs (o + 1) (w.setCell ⟨b, o, none⟩ v)
theorem setCells_size (b : Nat) : ∀ (vs : List Value) (o : Nat) (w : World), (w.setCells b o vs).heap.size = w.heap.size
  | [], _, _ => rfl
  | v :: vs, o, w => (setCells_size b vs (o + 1) (w.setCell ⟨b, o, none⟩ v)).trans (by show (w.heap.modify b _).size = _; rw [Array.size_modify])
/-- The store of all cells of a new block. -/
theorem run_fill (P : Program) (W : World) (z : Array Value) (t : TypeId) (cs : List Value) (hz : z.size = cs.length) (h1 : ∀ v ∈ cs, v.oneCell' = true) :
    (storeCells ⟨W.heap.size, 0, none⟩ cs 0).run P (W.alloc (.cells z t)) = .ok () (W.alloc (.cells cs.toArray t)) := by
  have hb : (W.alloc (.cells z t)).heap[W.heap.size]? = some (.cells z.toList.toArray t (0, 0)) := by rw [Array.toArray_toList]; exact blk_new W _
  rw [row_store hb 0 cs (by simp [hz]) h1]
  congr 1
  have h2 := heap_setCells cs 0 _ _ hb (by simp [hz])
  have h3 := grown_setCells W.heap.size cs 0 (W.alloc (.cells z t))
  have e : over z.toList 0 cs = cs := by simp [over, hz]
  rw [e] at h2
  refine world_eq ?_ h3.tape (setCells_drawn _ _ _ _) h3.os h3.output
  have hs := setCells_size W.heap.size cs 0 (W.alloc (.cells z t))
  apply Array.ext_getElem?
  intro k
  by_cases hk : k < W.heap.size
  · rw [h3.block k (by simp; omega) (by simp; omega), Below.heap_alloc _ _ _ hk, Below.heap_alloc _ _ _ hk]
  · by_cases hk2 : k = W.heap.size
    · subst hk2
      rw [h2, blk_new]
    · rw [Array.getElem?_eq_none (by rw [hs]; simp; omega), Array.getElem?_eq_none (by simp; omega)]
variable {P : Program} {ops : Array Oper} {rest : List Oper} {o o2 : Oper} {a : Act} {Q : Exit → Act → World → Prop}
theorem fill_event {W : World} {N x : Tmp} {cs zs : Array Value} {t : TypeId} (ho : o.op = .alloc t) (hg : o.guard = none) (_hd : o.dst = some N) (ho2 : o2.op = .store t (.tmp N) (.tmp x)) (hg2 : o2.guard = none) (hd2 : o2.dst = none)
    (hz : ∀ w, (zeroValue t).run P w = .ok (.agg zs) w) (hs : ∀ w, (Go.sizeOf t).run P w = .ok cs.size w) (hzs : zs.size = cs.size) (h1 : cs.toList.all (·.oneCell') = true)
    (hx : ∀ v, (a.put o.dst v).eval (.tmp x) = .agg cs) (hN : ∀ v, (a.put o.dst v).eval (.tmp N) = v)
    (h : ∀ g, g = W.heap.size → ∀ w1, w1.heap[g]? = some (.cells cs t (0, 0)) → Below W.heap.size W w1 → wpList P ops Q rest (a.put o.dst (.pointer (some ⟨g, 0, none⟩))) w1) :
    wpList P ops Q (o :: o2 :: rest) a W := by
  have r1 : (execOp a.eval o).run P W = .ok (.value (.pointer (some ⟨W.heap.size, 0, none⟩))) (W.alloc (.cells zs t (0, 0))) := by
    simp only [execOp, ho]
    simp [Instr.alloc, hz, Value.cells, go_sem]
  refine Kd.event_run hg r1 ?_
  have r2 : (execOp (a.put o.dst (.pointer (some ⟨W.heap.size, 0, none⟩))).eval o2).run P (W.alloc (.cells zs t)) = .ok .skip (W.alloc (.cells cs t)) := by
    have hf := run_fill P W zs t cs.toList (by simp [hzs]) (fun v hv => List.all_eq_true.1 h1 v hv)
    simp only [Array.toArray_toList] at hf
    simp only [execOp, ho2, hx, hN]
    simp [Instr.storeAt, storeVar, hs, Value.cells, hf, go_sem]
  refine store_event (t := t) (p := N) (v := .tmp x) hg2 ho2 hd2 r2 ?_
  rintro w' rfl
  exact h _ rfl _ (blk_new W _) (below_alloc (Below.refl _ _) _)
end Go.Proofs.YtmoecidfmgeafaaDoor.Fill
