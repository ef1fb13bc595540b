/- Wide facts: told by a block, kept where only new blocks have come. -/
import Derived.Test.YtmoecidfmgeafaaDoorWWords
import Derived.Test.YtmoecidfmgeafaaDoorRowK
import Derived.Test.YtmoecidfmgeafaaDoorWide
namespace Go.Proofs.YtmoecidfmgeafaaDoor.Wide
open Go.RowKit Go.Proofs.YtmoecidfmgeafaaDoorW.PrintWords
/-- What stands in a block, read as so many cells. -/
theorem blk_from {w : World} {g : Nat} {t : TypeId} : ∀ (cs pre : List Value), w.heap[g]? = some (.cells (pre ++ cs).toArray t (0, 0)) → cellsFrom w ⟨g, 0, none⟩ pre.length cs.length = some cs
  | [], _, _ => rfl
  | c :: cs, pre, h => by
    have h2 := blk_from cs (pre ++ [c]) (by simpa using h)
    rw [List.length_append, List.length_singleton] at h2
    refine cf_step ?_ h2
    have h3 := Go.Proofs.YtmoecidfmgeafaaDoor.RowK.cell_of_block h pre.length c (by simp)
    rwa [show (⟨g, 0, none⟩ : Addr).add pre.length = ⟨g, pre.length, none⟩ by cases pre <;> simp [Addr.add]]
theorem cells_blk {w : World} {g : Nat} {t : TypeId} {cs : List Value} (n : Nat) (hn : cs.length = n) (h : w.heap[g]? = some (.cells cs.toArray t (0, 0))) : cellsAt w ⟨g, 0, none⟩ n = some cs := by
  subst hn
  exact blk_from cs [] h
theorem cells_below {w w1 : World} (h : Below w.heap.size w w1) {a : Addr} : ∀ (n i : Nat) (l : List Value), cellsFrom w a i n = some l → cellsFrom w1 a i n = some l
  | 0, _, _, h2 => h2
  | n + 1, i, l, h2 => by
    simp only [cellsFrom] at h2 ⊢
    obtain ⟨v, hv, h3⟩ := Option.bind_eq_some_iff.mp h2
    obtain ⟨l', hl, rfl⟩ := Option.map_eq_some_iff.mp h3
    rw [pw_cell_below h hv, Option.bind_some, cells_below h n (i + 1) l' hl]
    rfl
end Go.Proofs.YtmoecidfmgeafaaDoor.Wide
