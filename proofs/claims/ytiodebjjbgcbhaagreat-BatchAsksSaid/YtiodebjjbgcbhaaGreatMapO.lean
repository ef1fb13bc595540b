import Derived.Test.YtiodebjjbgcbhaaGreatProg
import Derived.WalkKit
namespace Go.Proofs.YtiodebjjbgcbhaaGreat.MapO
open Go Go.RowKit Go.ChangeMaps
theorem law : WideMaps.KeyLaw Tryz.prog 32 := deep_law (m := 3) (by decide) (by kernel_rfl) (by kernel_rfl) (by kernel_rfl)
structure At (K : List Value) (w : World) (b : Nat) (es : Array MapEntry) (clock : Nat) : Prop where
 blk : w.heap[b]? = some (.map es clock)
 keys : es.toList.map (·.key) = K
 ints : ∀ e ∈ es.toList, ∃ n, e.val = .int .i64 n
 good : ∀ k ∈ K, ∃ l, keyOf Tryz.prog 32 k = some l
variable {K : List Value} {w : World} {b clock : Nat} {es : Array MapEntry} {k : Value} {kl : Lit}
theorem At.all (h : At K w b es clock) : ∀ e ∈ es.toList, ∃ l, keyOf Tryz.prog 32 e.key = some l := fun e he => h.good _ (by rw [← h.keys]; exact List.mem_map_of_mem he)
theorem At.look (h : At K w b es clock) (hk : keyOf Tryz.prog 32 k = some kl) : ∃ n, (Instr.lookup 132 (.map (some b)) k false).run Tryz.prog w = .ok (.int .i64 n) w := by
 have hd := Tryz.underlying132
 rcases law.find w hk es.toList h.all with ⟨h1, _⟩ | ⟨j, e, h1, h2, h3⟩
 ·exact ⟨0, by simp [Instr.lookup, run_underlying hd, MapKept.run_getObj_map h.blk, law.check w _ hk, h1, Tryz.zeroValue3, Result.andThen]⟩
 ·obtain ⟨n, hn⟩ := h.ints e (List.mem_of_getElem? h2)
  exact ⟨n, by simp [Instr.lookup, run_underlying hd, MapKept.run_getObj_map h.blk, law.check w _ hk, h1, hn, Result.andThen]⟩
theorem At.turn {K' : List Value} {es' : Array MapEntry} {clock' : Nat} (h : At K w b es clock) (hk : es'.toList.map (·.key) = K') (hi : ∀ e ∈ es'.toList, ∃ n, e.val = .int .i64 n) (hg : ∀ k ∈ K', ∃ l, keyOf Tryz.prog 32 k = some l) : At K' (setBlock w b (.map es' clock')) b es' clock' :=
 ⟨heap_setBlock_same h.blk _, hk, hi, hg⟩
theorem At.entry (h : At K w b es clock) (hk : keyOf Tryz.prog 32 k = some kl) : ∃ (v : Value) (born : Nat) (es' : Array MapEntry) (clock' : Nat) (K' : List Value), (Instr.mapEntry 132 (.map (some b)) k).run Tryz.prog w = .ok (.tuple #[v, .int .i64 born]) (setBlock w b (.map es' clock')) ∧
 At K' (setBlock w b (.map es' clock')) b es' clock' ∧ (∃ e ∈ es'.toList, e.born = born) ∧ ((k ∈ K ∧ K' = K) ∨ (k ∉ K ∧ K' = K ++ [k])) := by
 have hd := Tryz.underlying132
 rcases law.find w hk es.toList h.all with ⟨h1, h2⟩ | ⟨j, e, h1, h2, h3⟩
 ·have hn : k ∉ K := fun hm => by
   rw [← h.keys] at hm
   obtain ⟨e, he, rfl⟩ := List.mem_map.1 hm
   exact h2 e he rfl
  refine ⟨.int .i64 0, clock, es.push { key := k, val := .int .i64 0, born := clock }, clock + 1, K ++ [k], ?_, ?_, ⟨{ key := k, val := .int .i64 0, born := clock }, by simp, rfl⟩, .inr ⟨hn, rfl⟩⟩
  ·simp [Instr.mapEntry, run_underlying hd, MapKept.run_getObj_map h.blk, law.check w _ hk, h1, Tryz.zeroValue3, MapKept.run_setObj_map _ h.blk, Result.andThen, setBlock, goInt]
  ·refine h.turn (by simp [h.keys]) (fun e he => ?_) (fun k' hk' => ?_)
   ·simp only [Array.toList_push, List.mem_append, List.mem_singleton] at he
    rcases he with he | rfl
    ·exact h.ints e he
    ·exact ⟨0, rfl⟩
   ·rcases List.mem_append.1 hk' with hk' | hk'
    ·exact h.good _ hk'
    ·rw [List.mem_singleton.1 hk']; exact ⟨_, hk⟩
 ·have hj : es[j]? = some e := by simpa using h2
  have hmem := List.mem_of_getElem? h2
  have hin : k ∈ K := by rw [← h.keys, ← h3]; exact List.mem_map_of_mem hmem
  have hes : (es.modify j fun e => { e with key := k }) = es := by
   apply Array.ext_getElem?
   intro i
   rw [Array.getElem?_modify]
   split
   ·rename_i hij
    subst hij
    rw [hj, ← h3]
    rfl
   ·rfl
  refine ⟨e.val, e.born, es, clock, K, ?_, ?_, ⟨e, hmem, rfl⟩, .inl ⟨hin, rfl⟩⟩
  ·have hs := law.stays w hk
   simp [Instr.mapEntry, run_underlying hd, MapKept.run_getObj_map h.blk, law.check w _ hk, h1, hj, h3, hs, MapKept.run_setObj_map _ h.blk, Result.andThen, setBlock, goInt, hes]
  ·exact h.turn h.keys h.ints h.good
theorem At.store (h : At K w b es clock) {born : Nat} (hb : ∃ e ∈ es.toList, e.born = born) (n : Int) : ∃ (es' : Array MapEntry) (clock' : Nat), (Instr.entryStore 132 (.map (some b)) (.int .i64 born) (.int .i64 n)).run Tryz.prog w = .ok () (setBlock w b (.map es' clock')) ∧ At K (setBlock w b (.map es' clock')) b es' clock' := by
 cases hf : es.findIdx? (fun e => (e.born : Int) == (born : Int)) with
 | none =>
  obtain ⟨e, he, hbe⟩ := hb
  rw [Array.findIdx?_eq_none_iff] at hf
  have := hf e (by simpa using he)
  rw [hbe] at this
  simp at this
 | some i =>
  refine ⟨es.modify i fun e => { e with val := .int .i64 n }, clock, ?_, h.turn ?_ (fun e he => ?_) h.good⟩
  ·simp [Instr.entryStore, MapKept.run_getObj_map h.blk, asInt, asIntOf, hf, MapKept.run_setObj_map _ h.blk, Result.andThen, setBlock]
  ·rw [← h.keys]
   apply List.ext_getElem?
   intro j
   rw [List.getElem?_map, List.getElem?_map, Array.getElem?_toList, Array.getElem?_toList, Array.getElem?_modify]
   split
   ·rename_i hij; subst hij; cases es[i]? <;> rfl
   ·rfl
  ·obtain ⟨j, hj⟩ := List.mem_iff_getElem?.1 he
   rw [Array.getElem?_toList, Array.getElem?_modify] at hj
   split at hj
   ·rename_i hij
    subst hij
    cases h2 : es[i]? with
    | none => rw [h2] at hj; cases hj
    | some e0 => rw [h2] at hj; cases hj; exact ⟨n, rfl⟩
   ·exact h.ints e (by rw [← Array.getElem?_toList] at hj; exact List.mem_of_getElem? hj)
theorem At.len (h : At K w b es clock) (ty : TypeId) : (Builtin.len_ #[132] ty #[.map (some b)]).run Tryz.prog w = .ok (.int .i64 K.length) w := by
 have hs : es.size = K.length := by rw [← h.keys]; simp
 simp [Builtin.len_, run_underlying Tryz.underlying132, MapKept.run_getObj_map h.blk, Result.andThen, hs, goInt]
theorem At.below {w' : World} (h : At K w b es clock) (hb : Below w.heap.size w w') : At K w' b es clock :=
 ⟨(hb.block b (Array.getElem?_eq_some_iff.1 h.blk).1).trans h.blk, h.keys, h.ints, h.good⟩
theorem At.grown (h : At K w b es clock) (es' : Array MapEntry) (clock' : Nat) : w.grownBy (setBlock w b (.map es' clock')) (some b) :=
 ⟨rfl, rfl, rfl, by simp [setBlock], fun i _ hne => heap_setBlock_other h.blk _ (fun e => hne (by rw [e]))⟩
end Go.Proofs.YtiodebjjbgcbhaaGreat.MapO
