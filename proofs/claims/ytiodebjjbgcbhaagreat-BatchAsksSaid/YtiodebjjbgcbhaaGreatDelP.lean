import Derived.Test.YtiodebjjbgcbhaaGreatProg
import Derived.Test.YtiodebjjbgcbhaaGreatPutW
import Derived.Test.YtiodebjjbgcbhaaGreatFindQ
namespace Go.Proofs.YtiodebjjbgcbhaaGreat.DelB
open Go.RowKit Go.Lib Go.Shelf Go.Proofs YtiodebjjbgcbhaaGreatW.PrintWords YtiodebjjbgcbhaaGreat RowK Fill FindQ
attribute [local go_sem ↓ high] hv5
variable {β : Type}
theorem firstOf_attach (p : β → Bool) (ys : List β) : firstOf (fun y : {y // y ∈ ys} => p y.1) ys.attach = firstOf p ys := by
 have e : ys.findIdx? p = ys.attach.findIdx? (fun y => p y.1) := by
  conv => lhs; rw [← List.attach_map_subtype_val ys]
  rw [List.findIdx?_map]
  rfl
 unfold firstOf
 rw [e]
theorem firstOf_spec (p : β → Bool) (ys : List β) : (firstOf p ys = -1 ∧ ∀ y ∈ ys, p y = false) ∨ ∃ i, ∃ h : i < ys.length, firstOf p ys = (i : Int) ∧ p ys[i] = true ∧ ∀ j (hj : j < ys.length), j < i → p ys[j] = false := by
 unfold firstOf
 cases h : ys.findIdx? p with
 | none =>
  rw [List.findIdx?_eq_none_iff] at h
  exact .inl ⟨rfl, fun y hy => by simpa using h y hy⟩
 | some i =>
  rw [List.findIdx?_eq_some_iff_getElem] at h
  obtain ⟨hi, hp, hb⟩ := h
  exact .inr ⟨i, hi, rfl, hp, fun j hj hji => by simpa using hb j hji⟩
theorem flat_len' (enc : β → List Value) (k : Nat) : ∀ ys : List β, (∀ y ∈ ys, (enc y).length = k) → (ys.flatMap enc).length = ys.length * k
 | [], _ => by simp
 | x :: xs, h => by rw [List.flatMap_cons, List.length_append, h x (by simp), flat_len' enc k xs (fun y hy => h y (by simp [hy])), List.length_cons, Nat.add_mul, Nat.one_mul, Nat.add_comm]
theorem flat_chunk (enc : β → List Value) (k : Nat) : ∀ (ys : List β), (∀ y ∈ ys, (enc y).length = k) → ∀ j (h : j < ys.length), ((ys.flatMap enc).drop (j * k)).take k = enc ys[j]
 | [], _, j, h => by simp at h
 | x :: xs, hk, 0, _ => by
  rw [Nat.zero_mul, List.drop_zero, List.flatMap_cons, List.take_append_of_le_length (by rw [hk x (by simp)]; exact Nat.le_refl _), List.take_of_length_le (by rw [hk x (by simp)]; exact Nat.le_refl _)]
  rfl
 | x :: xs, hk, j + 1, h => by
  rw [List.flatMap_cons, show (j + 1) * k = (enc x).length + j * k by rw [hk x (by simp), Nat.add_mul, Nat.one_mul, Nat.add_comm], List.drop_append]
  rw [show (enc x).length + j * k - (enc x).length = j * k by omega, List.drop_of_length_le (by omega), List.nil_append]
  exact flat_chunk enc k xs (fun y hy => hk y (by simp [hy])) j (by simpa using h)
structure Under (enc : β → List Value) (k : Nat) (p : β → Bool) (ys : List β) (cur0 cur : List Value) (i j : Nat) : Prop where
 hj : j ≤ ys.length
 hi : i = ((ys.take j).filter fun y => !p y).length
 len : cur.length = cur0.length
 kept : cur.take (i * k) = ((ys.take j).filter fun y => !p y).flatMap enc
 rest : cur.drop (j * k) = cur0.drop (j * k)
theorem Under.le {enc : β → List Value} {k : Nat} {p : β → Bool} {ys : List β} {cur0 cur : List Value} {i j : Nat} (h : Under enc k p ys cur0 cur i j) : i ≤ j := by
 rw [h.hi]
 have := List.length_filter_le (fun y => !p y) (ys.take j)
 have := List.length_take_le j ys
 omega
theorem take_succ_filter (p : β → Bool) (ys : List β) (j : Nat) (h : j < ys.length) : ((ys.take (j + 1)).filter fun y => !p y) = ((ys.take j).filter fun y => !p y) ++ if p ys[j] then [] else [ys[j]] := by
 rw [List.take_succ_eq_append_getElem h, List.filter_append]
 cases hq : p ys[j] <;> simp [hq]
theorem Under.skip {enc : β → List Value} {k : Nat} {p : β → Bool} {ys : List β} {cur0 cur : List Value} {i j : Nat} (h : Under enc k p ys cur0 cur i j) (hl : j < ys.length) (hp : p ys[j] = true) : Under enc k p ys cur0 cur i (j + 1) where
 hj := hl
 hi := by rw [take_succ_filter p ys j hl, if_pos hp, List.append_nil]; exact h.hi
 len := h.len
 kept := by rw [take_succ_filter p ys j hl, if_pos hp, List.append_nil]; exact h.kept
 rest := by
  have e : ∀ l : List Value, l.drop ((j + 1) * k) = (l.drop (j * k)).drop k := fun l => by rw [List.drop_drop]; congr 1; rw [Nat.add_mul, Nat.one_mul]
  rw [e, e, h.rest]
theorem Under.keep {enc : β → List Value} {k : Nat} {p : β → Bool} {ys : List β} {cur0 cur : List Value} {i j : Nat} (hk : ∀ y ∈ ys, (enc y).length = k) (hc : ys.length * k ≤ cur0.length) (h : Under enc k p ys cur0 cur i j) (hl : j < ys.length) (hp : p ys[j] = false) : Under enc k p ys cur0 (over cur (i * k) (enc ys[j])) (i + 1) (j + 1) := by
 have hle := h.le
 have hy := hk ys[j] (List.getElem_mem hl)
 have hb : i * k + k ≤ cur.length := by
  rw [h.len]
  have := Nat.mul_le_mul_right k (show i + 1 ≤ ys.length by omega)
  rw [Nat.add_mul, Nat.one_mul] at this
  omega
 have e1 : (i + 1) * k = i * k + k := by rw [Nat.add_mul, Nat.one_mul]
 have ht : (cur.take (i * k)).length = i * k := by rw [List.length_take]; omega
 refine ⟨hl, by rw [take_succ_filter p ys j hl, hp, h.hi]; simp, by rw [over_len _ _ _ (by rw [hy]; exact hb), h.len], ?_, ?_⟩
 ·rw [take_succ_filter p ys j hl, hp, e1]
  unfold over
  rw [List.take_left' (by rw [List.length_append, ht, hy]), h.kept]
  simp
 ·have e2 : (j + 1) * k = j * k + k := by rw [Nat.add_mul, Nat.one_mul]
  have hik : i * k ≤ j * k := Nat.mul_le_mul_right k hle
  have e3 : (over cur (i * k) (enc ys[j])).drop ((j + 1) * k) = cur.drop ((j + 1) * k) := by
   unfold over
   rw [hy, List.drop_append, List.length_append, ht, hy, List.drop_of_length_le (by rw [List.length_append, ht, hy]; omega), List.nil_append, List.drop_drop]
   congr 1
   omega
  rw [e3]
  have e : ∀ l : List Value, l.drop ((j + 1) * k) = (l.drop (j * k)).drop k := fun l => by rw [List.drop_drop, e2]
  rw [e, e, h.rest]
theorem grown_below {w W W' : World} {b : Nat} (h : w.grownBy W (some b)) (hb : Below W.heap.size W W') : w.grownBy W' (some b) :=
 ⟨hb.os.trans h.os, hb.tape.trans h.tape, hb.output.trans h.output, Nat.le_trans h.size hb.size, fun k hk hne => (hb.block k (Nat.lt_of_lt_of_le hk h.size)).trans (h.block k hk hne)⟩
theorem grown_set {w W : World} {b : Nat} (h : w.grownBy W (some b)) (o : Nat) (vs : List Value) : w.grownBy (W.setCells b o vs) (some b) := by
 have g := grown_setCells b vs o W
 exact ⟨g.os.trans h.os, g.tape.trans h.tape, g.output.trans h.output, Nat.le_trans h.size g.size, fun k hk hne => (g.block k (Nat.lt_of_lt_of_le hk h.size) hne).trans (h.block k hk hne)⟩
theorem zero_cells (z : Array Value) (k : Nat) (hz : z.size = k) (h1 : z.toList.all (·.oneCell') = true) (hk : 0 < k) (n : Nat) : (Builtin.zeroCells z n).toList.length = n * k ∧ ∀ v ∈ (Builtin.zeroCells z n).toList, v.oneCell' = true := by
 refine ⟨by simp [Builtin.zeroCells, hz], fun v hv => ?_⟩
 simp only [Builtin.zeroCells, Array.toList_map, List.mem_map] at hv
 obtain ⟨i, _, rfl⟩ := hv
 have hi : i % z.size < z.size := Nat.mod_lt _ (by omega)
 rw [getElem!_pos z _ hi]
 refine List.all_eq_true.1 h1 _ ?_
 rw [Array.mem_toList_iff]
 exact Array.getElem_mem hi
end Go.Proofs.YtiodebjjbgcbhaaGreat.DelB
