import Derived.Shelf.SlicesE.Clone
import Derived.Test.YtiodebjjbgcbhaaGreatWWords
namespace Go.Proofs.YtiodebjjbgcbhaaGreat.CloneQ
open Go.Proofs Go.Shelf Go.RowKit Go.Lib Go.Proofs YtiodebjjbgcbhaaGreatW.PrintWords
variable {P : Program} {ρ : Ren} {α : Type}
set_option maxHeartbeats 2000000 in
set_option maxRecDepth 100000 in
theorem clone_at (L : SlLaysE0.n41 P ρ) (i0 : TypeInfo) (z : Value) (size bytes : Nat) (hi : P.info? (ρ.t 23) = some i0) (hz0 : i0.zero = some z) (hz1 : i0.size = size) (hz2 : i0.bytes = bytes) (hzs : z.cells.size = size) (hsz : 0 < size)
 (z23 : ∀ w, (Go.sizeOf (ρ.t 23)).run P w = .ok size w) (ad : Addr) (n c : Nat) (news : List Value) (w : World) (hl : news.length = n * size) (hn : n ≤ maxLen) (hbig : n * bytes ≤ 140737488355328)
 (hc : ∀ j u, news[j]? = some u → w.cell? (ad.add j) = some u) (h1 : ∀ u ∈ news, u.oneCell' = true) :
 Calls P (ρ.f 41) #[.slice (some ad) n c] w fun e w' => ∃ v', e = .returned v' ∧ w'.ownsRow w.heap.size (ρ.t 23) size v' n news ∧ Below w.heap.size w w' := by
 have mixed := L.mixed; have t4 := L.t4; have a4 := L.a4; have z4 := L.z4; have v4 := L.v4; have t22 := L.t22; have a22 := L.a22; have z22 := L.z22; have v22 := L.v22
 have q22 : ∀ (w : World) (a : Option Addr) (n c n' c' : Nat), (binOp .eql (ρ.t 22) (.slice a n c) (.slice none n' c')).run P w = .ok (.bool a.isNone) w := fun w a n c n' c' => Lib.run_eql_slice_nil w _ _ a n c n' c' L.t22
 have u22 : ∀ w, Sem.run P (underlying (ρ.t 22)) w = .ok (TypeDesc.slice (ρ.t 23)) w := run_underlying t22
 have A : Aside (∀ j u, news[j]? = some u → w.cell? (ad.add j) = some u) := hc
 clear hc
 obtain ⟨_, _, FG⟩ := L.f41
 go_enter FG, SlBodyN.n41_ntmps ρ
 go_wp2_with (at_builtin; refine wpList_append_own _ rfl _ _ (ρ.t 22) rfl w.heap.size (ρ.t 23) i0 z size bytes t22 hi hz0 hz1 hz2 hzs hsz _ _ _ rfl (World.ownsRow_made w #[] 0 (Nat.le_refl _) (Nat.zero_le _) (by simp)) ad n c news rfl ?qc1 ?qc2 ?qc3 ?qc4 ?qc5 ?qc6 ?_)
 case qc1 => exact hl
 case qc2 =>
  intro j u hj
  exact Lib.cell?_alloc_some _ (A.out j u hj)
 case qc3 => exact h1
 case qc4 => rw [Nat.zero_add]; exact hn
 case qc5 => rw [Nat.zero_add]; exact hbig
 case qc6 => simp
 intro v' w1 hown hgrow hnil
 go_wp2
 go_ret
 refine ⟨v', rfl, by simpa using hown, ?_⟩
 exact ((Below.refl _ w).alloc (Nat.le_refl _) _).grown hgrow (by simp) (by intro k hk; simp [Value.ownBlock] at hk; omega)
theorem flat_len (enc : α → List Value) (size : Nat) (hk : ∀ x, (enc x).length = size) : ∀ l : List α, (l.flatMap enc).length = l.length * size
 | [] => by simp
 | x :: l => by rw [List.flatMap_cons, List.length_append, hk, flat_len enc size hk l, List.length_cons, Nat.add_mul, Nat.one_mul, Nat.add_comm]
theorem flat_get (enc : α → List Value) (size : Nat) (hk : ∀ x, (enc x).length = size) : ∀ (l : List α) (j : Nat) (u : Value), (l.flatMap enc)[j]? = some u → ∃ i x t, l[i]? = some x ∧ (enc x)[t]? = some u ∧ j = i * size + t
 | [], j, u, h => by simp at h
 | x :: l, j, u, h => by
  rw [List.flatMap_cons] at h
  by_cases hj : j < size
  ·rw [List.getElem?_append_left (by rw [hk]; exact hj)] at h
   exact ⟨0, x, j, rfl, h, by omega⟩
  ·rw [List.getElem?_append_right (by rw [hk]; omega), hk] at h
   obtain ⟨i, y, t, h1, h2, h3⟩ := flat_get enc size hk l (j - size) u h
   exact ⟨i + 1, y, t, by simpa using h1, h2, by rw [Nat.add_mul, Nat.one_mul]; omega⟩
theorem flat_reps (enc : α → List Value) (size : Nat) (hk : ∀ x, (enc x).length = size) (l : List α) : Reps (fun x c => c = enc x) size l (l.flatMap enc) := by
 refine ⟨flat_len enc size hk l, ?_⟩
 induction l with
 | nil => intro j p h; simp at h
 | cons x l ih =>
  intro j p h
  rw [List.flatMap_cons]
  cases j with
  | zero =>
   simp at h
   subst h
   rw [Nat.zero_mul, List.drop_zero, List.take_append_of_le_length (by rw [hk]; exact Nat.le_refl _), List.take_of_length_le (by rw [hk]; exact Nat.le_refl _)]
  | succ j =>
   have e : (j + 1) * size = size + j * size := by rw [Nat.add_mul, Nat.one_mul, Nat.add_comm]
   rw [e, ← List.drop_drop, List.drop_append_of_le_length (by rw [hk]; exact Nat.le_refl _), show List.drop size (enc x) = [] from List.drop_of_length_le (by rw [hk]; exact Nat.le_refl _), List.nil_append]
   exact ih j p (by simpa using h)
theorem clone_row (L : SlLaysE0.n41 P ρ) (i0 : TypeInfo) (z : Value) (size bytes : Nat) (hi : P.info? (ρ.t 23) = some i0) (hz0 : i0.zero = some z) (hz1 : i0.size = size) (hz2 : i0.bytes = bytes) (hzs : z.cells.size = size) (hsz : 0 < size)
 (z23 : ∀ w, (Go.sizeOf (ρ.t 23)).run P w = .ok size w) (enc : α → List Value) (hk : ∀ x, (enc x).length = size) (h1 : ∀ x, ∀ u ∈ enc x, u.oneCell' = true)
 (A : Option Addr) (c : Nat) (l : List α) (w : World) (hR : ReadsRow (fun x c => c = enc x) size w A l.length l) (hbig : l.length * bytes ≤ 140737488355328) (hn : l.length ≤ maxLen) :
 Calls P (ρ.f 41) #[.slice A l.length c] w fun e w' => ∃ v', e = .returned v' ∧ OwnRow (fun x c => c = enc x) (ρ.t 23) size w' w.heap.size v' l ∧ Below w.heap.size w w' := by
 cases A with
 | none =>
  have h0 : l = [] := by
   cases l with
   | nil => rfl
   | cons x l => obtain ⟨ad, e, _⟩ := hR.2.2 (by simp); cases e
  subst h0
  refine (AnyE.slices_Clone_nil L _ c w).mono ?_
  rintro e w' ⟨rfl, rfl⟩
  exact ⟨_, rfl, OwnRow.none_ _ _ _ _ _, Below.refl _ _⟩
 | some ad =>
  refine (clone_at L i0 z size bytes hi hz0 hz1 hz2 hzs hsz z23 ad l.length c (l.flatMap enc) w (flat_len enc size hk l) hn hbig ?_ ?_).mono ?_
  ·intro j u hj
   obtain ⟨i, x, t, hx, ht, rfl⟩ := flat_get enc size hk l j u hj
   have hlt : i < l.length := by
    by_cases h : i < l.length
    ·exact h
    ·rw [List.getElem?_eq_none (by omega)] at hx; cases hx
   obtain ⟨ad', e, hcc⟩ := hR.2.2 (by omega)
   cases e
   obtain ⟨c', _, rfl, h3⟩ := hcc i x hx
   exact h3 t u ht
  ·intro u hu
   obtain ⟨x, _, hx⟩ := List.mem_flatMap.mp hu
   exact h1 x u hx
  ·rintro e w' ⟨v', rfl, hown, hb⟩
   exact ⟨v', rfl, ⟨_, hown, flat_reps enc size hk l⟩, hb⟩
end Go.Proofs.YtiodebjjbgcbhaaGreat.CloneQ
