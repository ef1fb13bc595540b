/- coraclelaw17.BatchSound answers true: the walk. Written by tools/bat/mkSndB.py. -/
import Derived.Test.YtiodebjjbgcbhaaSndA
import Derived.Test.YtiodebjjbgcbhaaInpV
import Derived.Lib.QuietBelow
import Derived.Deep.LoopGhost
namespace Go.Proofs.Ytiodebjjbgcbhaa.Snd
open Go.RowKit Go.Sort Go.Lib Go.Shelf Go.Proofs.Ytiodebjjbgcbhaa Go.Proofs.Ytiodebjjbgcbhaa.Pure Go.Proofs.Ytiodebjjbgcbhaa.Inp Go.Proofs.Ytiodebjjbgcbhaa.Hand Go.Proofs.YtiodebjjbgcbhaaW.PrintWords Go.Proofs.YtiodebjjbgcbhaaW.PrintLast Go.Proofs.YtiodebjjbgcbhaaW.PrintMore Go.Proofs.Ytiodebjjbgcbhaa.RowK Go.Proofs.Ytiodebjjbgcbhaa.Fill Go.Proofs.Ytiodebjjbgcbhaa.OrdO Go.Proofs.Ytiodebjjbgcbhaa.QLef Go.Proofs.Ytiodebjjbgcbhaa.LefL
attribute [local go_sem ↓ high] Wide.hv44 Wide.hv33 Wide.hv37 Wide.hv38
set_option linter.unusedVariables false
set_option linter.unusedSectionVars false
set_option linter.unusedSimpArgs false
theorem eqPt (d : Nat) (w : World) (x y : S34) : (Op.equalIn (d + 3) 34 (.agg (encPt x).toArray) (.agg (encPt y).toArray)).run Try.prog w = .ok (oeq x y) w :=
 EqP.eqA34 d w _ _ _ _ _ _ _ _ _ _ _ _ _ _ _ _ _ _ _ _ _ _ _ _ _ _ _ _ _ _ _ _ _ _ _ _ _ _ _ _ _ _ _ _ _ _ _ _ _ _ _ _ _ _ _ _ _ _ _ _ _ _ _ _ _ _
theorem reads_pre {α : Type} {enc : α → List Value} {kk m : Nat} (hk : ∀ x, (enc x).length = kk) (hm : m ≤ kk) {w W : World} {A : Option Addr} {n : Nat} {l : List α} (hA : ReadsRow (fun x c => c = enc x) kk w A n l) (hb : Below w.heap.size w W) {ad : Addr} (e : A = some ad) {j : Nat} {x : α} (hx : l[j]? = some x) (h0 : 0 < n) : Sem.run Try.prog (Wide.heavy0 (ad.add (j * kk)) m) W = .ok ((enc x).take m).toArray W := by
 obtain ⟨ad', e', hcc⟩ := hA.2.2 h0
 have e2 : ad = ad' := Option.some.inj (e.symm.trans e')
 subst e2
 exact run_loadCellsFrom_list Try.prog _ _ ((enc x).take m) m (by rw [List.length_take, hk]; omega) (fun i v hi => by
  obtain ⟨c, _, rfl, h3⟩ := hcc j _ hx
  have hi' : i < m := by have := (List.getElem?_eq_some_iff.1 hi).1; rw [List.length_take] at this; omega
  rw [List.getElem?_take_of_lt hi'] at hi
  have h4 := h3 i v hi
  rw [Addr.add_add]
  exact (hb.cell (World.block_lt_of_cell? w _ h4)).trans h4)
theorem rowIn {w : World} {A : Option Addr} {n : Nat} {l : List S38} (h : ReadsRow (fun x c => c = encIn x) 37 w A n l) : Kd.C k38 w A n l :=
 ReadsRow.imp_ h (Below.refl _ w) (fun x c e => by subst e; exact k38_mk w x)
theorem rowOut {w : World} {A : Option Addr} {n : Nat} {l : List S64} (h : ReadsRow (fun x c => c = encOut x) 39 w A n l) : Kd.C k64 w A n l :=
 ReadsRow.imp_ h (Below.refl _ w) (fun x c e => by subst e; exact k64_mk w x)
attribute [local go_sem high] eqPt
end Go.Proofs.Ytiodebjjbgcbhaa.Snd
