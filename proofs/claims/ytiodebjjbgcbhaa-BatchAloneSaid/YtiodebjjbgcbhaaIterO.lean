/- slices.Values, AppendSeq, Collect at outpoints: what is collected is what the slice holds, in memory of the call's own. Turned from the library's worked texts at numbers. -/
import Derived.RangeFuncNested
import Derived.RangeFuncBound
import Derived.RangeFuncCalls
import Derived.RangeFuncLeaves
import Derived.RangeFuncBox
import Derived.Shelf.Abstract
import Derived.Shelf.RegionOpen
import Derived.WalkKit
import Derived.OwnWalkIn
import Derived.TacticsInMore
import Derived.LoopNIn
import Derived.LoopIn
import Derived.Maps.AppendAt
import Derived.Test.YtiodebjjbgcbhaaProg
import Derived.Test.YtiodebjjbgcbhaaWWords
import Derived.Test.YtiodebjjbgcbhaaPutW
namespace Go.Proofs.Ytiodebjjbgcbhaa.IterO
open Go.RowKit Go.Shelf Go.Proofs.YtiodebjjbgcbhaaW.PrintWords Go.Proofs.Ytiodebjjbgcbhaa.RowK
attribute [local go_sem] Oper.semAt_some
attribute [local go_sem ↓ high] hv33
variable {α : Type} {enc : α → List Value}
/-- The slice's elements lie in a block below n₀, from an offset on; or there are none. -/
def Lies (enc : α → List Value) (n₀ : Nat) (W : World) (A : Option Addr) (zs : List α) : Prop :=
 zs = [] ∨ ∃ b off, A = some ⟨b, off, none⟩ ∧ b < n₀ ∧ ∀ j (h : j < zs.length) i v, (enc zs[j])[i]? = some v → W.cell? ⟨b, off + j * 33 + i, none⟩ = some v
theorem Lies.below {n₀ : Nat} {A B : World} (h : Below n₀ A B) {a : Option Addr} {zs : List α} : Lies enc n₀ A a zs → Lies enc n₀ B a zs
 | .inl e => .inl e
 | .inr ⟨b, off, e, hb, hc⟩ => .inr ⟨b, off, e, hb, fun j hj i v hi => (h.cell (p := ⟨b, off + j * 33 + i, none⟩) hb).trans (hc j hj i v hi)⟩
theorem world_eq {a b : World} (h1 : a.heap = b.heap) (h2 : a.tape = b.tape) (h3 : a.drawn = b.drawn) (h4 : a.os = b.os) (h5 : a.output = b.output) : a = b := by
 cases a; cases b; simp only [World.mk.injEq] at *; exact ⟨h1, h2, h3, h4, h5⟩
theorem setCells_drawn (b : Nat) : ∀ (vs : List Value) (o : Nat) (w : World), (w.setCells b o vs).drawn = w.drawn
 | [], _, _ => rfl
 | v :: vs, o, w => setCells_drawn b vs (o + 1) (w.setCell ⟨b, o, none⟩ v)
theorem setCells_size (b : Nat) : ∀ (vs : List Value) (o : Nat) (w : World), (w.setCells b o vs).heap.size = w.heap.size
 | [], _, _ => rfl
 | v :: vs, o, w => (setCells_size b vs (o + 1) (w.setCell ⟨b, o, none⟩ v)).trans (by show (w.heap.modify b _).size = _; rw [Array.size_modify])
end Go.Proofs.Ytiodebjjbgcbhaa.IterO
