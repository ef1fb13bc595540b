/- Rows of elements of many cells: a block's cells behind a store of several, the store's and the load's runs. No program in it. -/
import Derived.Test.YtmoecidfmgeafaaDoorWWords
import Derived.Lib.SliceRun
import Derived.Laws.IdiomCopy
import Derived.Laws.Cells
namespace Go.Proofs.YtmoecidfmgeafaaDoor.RowK
open Go.RowKit Go.Proofs.YtmoecidfmgeafaaDoorW.PrintWords
variable {P : Program}
/-- A list with so many of its members written over. -/
def over (l : List Value) (o : Nat) (vs : List Value) : List Value := l.take o ++ vs ++ l.drop (o + vs.length)
theorem over_len (l vs : List Value) (o : Nat) (h : o + vs.length ≤ l.length) : (over l o vs).length = l.length := by
  simp only [over, List.length_append, List.length_take, List.length_drop]; omega
theorem over_nil (l : List Value) (o : Nat) : over l o [] = l := by simp [over]
theorem over_cons (l : List Value) (o : Nat) (v : Value) (vs : List Value) (h : o + (vs.length + 1) ≤ l.length) : over (l.set o v) (o + 1) vs = over l o (v :: vs) := by
  unfold over
  apply List.ext_getElem
  · simp only [List.length_append, List.length_take, List.length_drop, List.length_set, List.length_cons]; omega
  · intro i h1 h2
    simp only [List.length_append, List.length_take, List.length_drop, List.length_set] at h1
    simp only [List.getElem_append, List.length_append, List.length_take, List.length_set, List.getElem_take, List.getElem_drop, List.getElem_set, List.length_cons, List.getElem_cons]
    have e1 : min (o + 1) l.length = o + 1 := by omega
    have e2 : min o l.length = o := by omega
    simp only [e1, e2]
    by_cases a : i < o
    · rw [dif_pos (by omega), dif_pos (by omega), if_neg (by omega), dif_pos (by omega), dif_pos a]
    · by_cases b : i = o
      · subst b
        rw [dif_pos (by omega), dif_pos (by omega), if_pos rfl, dif_pos (by omega), dif_neg (by omega), dif_pos (by omega)]
      · by_cases c : i < o + 1 + vs.length
        · rw [dif_pos (by omega), dif_neg (by omega), dif_pos (by omega), dif_neg (by omega), dif_neg (by omega)]
          congr 1
        · rw [dif_neg (by omega), dif_neg (by omega), if_neg (by omega)]
          congr 1
          omega
/-- What the block holds behind the store. -/
theorem heap_setCells {b : Nat} {t : TypeId} : ∀ (vs : List Value) (o : Nat) (w : World) (cur : List Value), w.heap[b]? = some (.cells cur.toArray t (0, 0)) → o + vs.length ≤ cur.length → (w.setCells b o vs).heap[b]? = some (.cells (over cur o vs).toArray t (0, 0))
  | [], o, w, cur, h, _ => by rw [over_nil]; exact h
  | v :: vs, o, w, cur, h, hl => by
    simp only [List.length_cons] at hl
    have h1 : (w.setCell ⟨b, o, none⟩ v).heap[b]? = some (.cells (cur.set o v).toArray t (0, 0)) := by
      obtain ⟨hlt, hk⟩ := Array.getElem?_eq_some_iff.1 h
      show (w.heap.modify b _)[b]? = _
      rw [Array.getElem?_eq_getElem (by rw [Array.size_modify]; exact hlt), Array.getElem_modify_self, hk]
      simp
    have := heap_setCells vs (o + 1) (w.setCell ⟨b, o, none⟩ v) (cur.set o v) h1 (by rw [List.length_set]; omega)
    rw [over_cons _ _ _ _ (by omega)] at this
    exact this
theorem grown_setCells (b : Nat) : ∀ (vs : List Value) (o : Nat) (w : World), w.grownBy (w.setCells b o vs) (some b)
  | [], o, w => ⟨rfl, rfl, rfl, Nat.le_refl _, fun _ _ _ => rfl⟩
  | v :: vs, o, w => by
    have h := grown_setCells b vs (o + 1) (w.setCell ⟨b, o, none⟩ v)
    have hs : (w.setCell ⟨b, o, none⟩ v).heap.size = w.heap.size := by show (w.heap.modify b _).size = _; rw [Array.size_modify]
    obtain ⟨h1, h2, h3, h4, h5⟩ := h
    refine ⟨h1, h2, h3, by rw [hs] at h4; exact h4, fun k hk hne => ?_⟩
    exact (h5 k (by rw [hs]; exact hk) hne).trans (Below.heap_setCell _ _ _ k (fun e => hne (by rw [e])))
theorem cell_of_block {w : World} {b : Nat} {t : TypeId} {cur : List Value} (h : w.heap[b]? = some (.cells cur.toArray t (0, 0))) (j : Nat) (v : Value) (hj : cur[j]? = some v) : w.cell? ⟨b, j, none⟩ = some v := by
  simp [World.cell?, h, hj]
theorem free_of_block {w : World} {b : Nat} {t : TypeId} {cur : List Value} (h : w.heap[b]? = some (.cells cur.toArray t (0, 0))) (j : Nat) : w.frozen? ⟨b, j, none⟩ = false := by
  simp [World.frozen?, h]
/-- The store of so many cells into a block. -/
theorem row_store {w : World} {b : Nat} {t : TypeId} {cur : List Value} (h : w.heap[b]? = some (.cells cur.toArray t (0, 0))) (o : Nat) (vs : List Value) (hl : o + vs.length ≤ cur.length) (h1 : ∀ v ∈ vs, v.oneCell' = true) :
    (storeCells ⟨b, o, none⟩ vs 0).run P w = .ok () (w.setCells b o vs) := by
  have := run_storeCells_cells (P := P) b o vs 0 w (fun j hj => by
    rw [Nat.add_zero, cell_of_block h (o + j) _ (List.getElem?_eq_getElem (by omega))]; rfl) (fun j _ => free_of_block h _) h1
  simpa using this
/-- The load of so many. -/
theorem row_load {w : World} {b : Nat} {t : TypeId} {cur : List Value} (h : w.heap[b]? = some (.cells cur.toArray t (0, 0))) (o n : Nat) (vs : List Value) (hn : vs.length = n) (hv : (cur.drop o).take n = vs) :
    (loadCellsFrom ⟨b, o, none⟩ 0 n #[]).run P w = .ok vs.toArray w := by
  have := run_loadCells_list (P := P) (w := w) ⟨b, o, none⟩ vs (fun j v hj => by
    rw [Addr.add_lit]
    refine cell_of_block h (o + j) v ?_
    rw [← hv] at hj
    rw [List.getElem?_take] at hj
    split at hj
    · rw [List.getElem?_drop] at hj; exact hj
    · cases hj)
  rw [hn] at this
  simpa [loadCells] using this
/-- The load of so many cells that lie wherever. -/
theorem load_at (P : Program) (W : World) (a : Addr) (cs : List Value) (k : Nat) (hk : cs.length = k) (h : ∀ j v, cs[j]? = some v → W.cell? (a.add j) = some v) :
    (loadCellsFrom a 0 k #[]).run P W = .ok cs.toArray W := by
  have := run_loadCells_list (P := P) (w := W) a cs h
  rw [hk] at this
  simpa [loadCells] using this
/-- A load of many cells, kept closed. -/
def heavy0 (a : Addr) (n : Nat) : Sem (Array Value) := loadCellsFrom a 0 n #[]
theorem hv33 (a : Addr) : loadCellsFrom a 0 33 #[] = heavy0 a 33 := rfl
end Go.Proofs.YtmoecidfmgeafaaDoor.RowK
