/- A whole variable in memory is written, as one step: behind it its block holds what was stored; nothing else has turned. -/
import Derived.Deep.MidRow
import Derived.Test.YtmoecidfmgeafaaDoorWWords
import Derived.Test.YtmoecidfmgeafaaDoorRowK
import Derived.Test.YtmoecidfmgeafaaDoorFill
namespace Go.Proofs.YtmoecidfmgeafaaDoor.PutW
open Go.RowKit Go.Proofs.YtmoecidfmgeafaaDoorW.PrintWords Go.Proofs.YtmoecidfmgeafaaDoor.RowK Go.Proofs.YtmoecidfmgeafaaDoor.Fill
theorem set_all {w : World} {g : Nat} {t : TypeId} {z : Array Value} {cs : List Value} (hb : w.heap[g]? = some (.cells z t (0, 0))) (hl : cs.length = z.size) :
    (w.setCells g 0 cs).heap[g]? = some (.cells cs.toArray t (0, 0)) ∧ (w.setCells g 0 cs).heap.size = w.heap.size ∧ w.grownBy (w.setCells g 0 cs) (some g) := by
  have h2 := heap_setCells (b := g) cs 0 w z.toList (show w.heap[g]? = some (.cells z.toList.toArray t (0, 0)) by rw [Array.toArray_toList]; exact hb) (by simp [hl])
  refine ⟨?_, setCells_size g cs 0 w, grown_setCells g cs 0 w⟩
  rw [h2]
  simp [over, hl]
theorem store_event {P : Program} {ops : Array Oper} {rest : List Oper} {op : Oper} {a : Act} {w : World} {Q : Exit → Act → World → Prop} (hgd : op.guard = none) (hd : op.dst = none) (ty : TypeId) (x y : Operand) (ho : op.op = .store ty x y)
    {g : Nat} {z cells : Array Value} {t : TypeId} (hx : a.eval x = .pointer (some ⟨g, 0, none⟩)) (hy : a.eval y = .agg cells) (hb : w.heap[g]? = some (.cells z t (0, 0))) (hz : cells.size = z.size)
    (hi : (P.info? ty).map (·.size) = some cells.size) (h1 : cells.all (·.oneCell') = true)
    (h : ∀ w1, w1.heap[g]? = some (.cells cells t (0, 0)) → w1.heap.size = w.heap.size → w.grownBy w1 (some g) → wpList P ops Q rest a w1) : wpList P ops Q (op :: rest) a w := by
  have hs := set_all (cs := cells.toList) hb (by simpa using hz)
  refine wpList_store_mid hgd ty x y ho g 0 cells hx hy (fun j hj => ?_) hi h1 ?_
  · rw [Nat.zero_add]
    exact ⟨by rw [(blk_cell hb j).trans (Array.getElem?_eq_getElem (by omega))]; rfl, blk_frozen hb j⟩
  · rw [hd]
    exact h _ (by simpa using hs.1) hs.2.1 hs.2.2
theorem part_event {P : Program} {ops : Array Oper} {rest : List Oper} {op : Oper} {a : Act} {w : World} {Q : Exit → Act → World → Prop} (hgd : op.guard = none) (hd : op.dst = none) (ty : TypeId) (x y : Operand) (ho : op.op = .store ty x y)
    {g o : Nat} {z cells : Array Value} {t : TypeId} (hx : a.eval x = .pointer (some ⟨g, o, none⟩)) (hy : a.eval y = .agg cells) (hb : w.heap[g]? = some (.cells z t (0, 0))) (hz : o + cells.size ≤ z.size)
    (hi : (P.info? ty).map (·.size) = some cells.size) (h1 : cells.all (·.oneCell') = true)
    (h : ∀ w1, w1.heap[g]? = some (.cells (over z.toList o cells.toList).toArray t (0, 0)) → w1.heap.size = w.heap.size → w.grownBy w1 (some g) → wpList P ops Q rest a w1) : wpList P ops Q (op :: rest) a w := by
  have h2 := heap_setCells (b := g) cells.toList o w z.toList (show w.heap[g]? = some (.cells z.toList.toArray t (0, 0)) by rw [Array.toArray_toList]; exact hb) (by simpa using hz)
  refine wpList_store_mid hgd ty x y ho g o cells hx hy (fun j hj => ?_) hi h1 ?_
  · exact ⟨by rw [(blk_cell hb (o + j)).trans (Array.getElem?_eq_getElem (by omega))]; rfl, blk_frozen hb (o + j)⟩
  · rw [hd]
    exact h _ h2 (setCells_size g cells.toList o w) (grown_setCells g cells.toList o w)
end Go.Proofs.YtmoecidfmgeafaaDoor.PutW
