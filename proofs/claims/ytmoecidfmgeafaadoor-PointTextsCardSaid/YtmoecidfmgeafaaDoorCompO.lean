/- slices.Compact at outpoints, in a row of the caller's own: of equal ones that stand side by side the first stays. -/
import Derived.Test.YtmoecidfmgeafaaDoorFill
import Derived.Test.YtmoecidfmgeafaaDoorFindQ
import Derived.WalkKit
import Derived.Deep.LoopGhost
import Derived.Test.YtmoecidfmgeafaaDoorWLast
import Derived.Test.YtmoecidfmgeafaaDoorProg
namespace Go.Proofs.YtmoecidfmgeafaaDoor.CompO
open Go.RowKit Go.Lib Go.Shelf Go.Proofs.YtmoecidfmgeafaaDoorW.PrintWords Go.Proofs.YtmoecidfmgeafaaDoorW.PrintLast Go.Proofs.YtmoecidfmgeafaaDoor.RowK Go.Proofs.YtmoecidfmgeafaaDoor.Fill Go.Proofs.YtmoecidfmgeafaaDoor.FindQ
attribute [local go_sem ↓ high] hv33
variable {β : Type}
/-- Of equal ones side by side the first. -/
def compGo (eq : β → β → Bool) : β → List β → List β
  | _, [] => []
  | p, x :: xs => if eq x p = true then compGo eq x xs else x :: compGo eq x xs
def comp (eq : β → β → Bool) : List β → List β
  | [] => []
  | x :: xs => x :: compGo eq x xs
theorem compGo_snoc (eq : β → β → Bool) (x : β) : ∀ (l : List β) (p q : β), compGo eq p (l ++ [q, x]) = compGo eq p (l ++ [q]) ++ if eq x q = true then [] else [x]
  | [], p, q => by
    simp only [List.nil_append, compGo]
    cases h1 : eq q p <;> cases h2 : eq x q <;> simp
  | y :: l, p, q => by
    simp only [List.cons_append, compGo]
    cases h1 : eq y p
    · rw [if_neg (by decide), if_neg (by decide), compGo_snoc eq x l y q]; rfl
    · rw [if_pos rfl, if_pos rfl, compGo_snoc eq x l y q]
theorem comp_snoc (eq : β → β → Bool) (l : List β) (p x : β) : comp eq (l ++ [p, x]) = comp eq (l ++ [p]) ++ if eq x p = true then [] else [x] := by
  cases l with
  | nil => simp only [List.nil_append, comp, compGo]; cases eq x p <;> simp
  | cons y l => simp only [List.cons_append, comp]; rw [compGo_snoc]
theorem comp_take (eq : β → β → Bool) (ys : List β) (j : Nat) (h0 : 0 < j) (h : j < ys.length) : comp eq (ys.take (j + 1)) = comp eq (ys.take j) ++ if eq ys[j] ys[j - 1] = true then [] else [ys[j]] := by
  have e1 : ys.take (j + 1) = ys.take (j - 1) ++ [ys[j - 1], ys[j]] := by
    rw [List.take_succ_eq_append_getElem h]
    have : ys.take j = ys.take (j - 1) ++ [ys[j - 1]] := by
      have := List.take_succ_eq_append_getElem (l := ys) (i := j - 1) (by omega)
      rw [← this]; congr 1; omega
    rw [this, List.append_assoc]; rfl
  have e2 : ys.take j = ys.take (j - 1) ++ [ys[j - 1]] := by
    have := List.take_succ_eq_append_getElem (l := ys) (i := j - 1) (by omega)
    rw [← this]; congr 1; omega
  rw [e1, comp_snoc, ← e2]
theorem comp_len (eq : β → β → Bool) : ∀ (l : List β) (p : β), (compGo eq p l).length ≤ l.length
  | [], _ => Nat.le_refl _
  | x :: l, p => by
    have := comp_len eq l x
    simp only [compGo]
    split <;> simp <;> omega
theorem comp_le (eq : β → β → Bool) (l : List β) : (comp eq l).length ≤ l.length := by
  cases l with
  | nil => exact Nat.le_refl _
  | cons x l => have := comp_len eq l x; simp only [comp, List.length_cons]; omega
theorem flat_len' (enc : β → List Value) (k : Nat) : ∀ ys : List β, (∀ y ∈ ys, (enc y).length = k) → (ys.flatMap enc).length = ys.length * k
  | [], _ => by simp
  | x :: xs, h => by rw [List.flatMap_cons, List.length_append, h x (by simp), flat_len' enc k xs (fun y hy => h y (by simp [hy])), List.length_cons, Nat.add_mul, Nat.one_mul, Nat.add_comm]
theorem flat_chunk (enc : β → List Value) (k : Nat) : ∀ (ys : List β), (∀ y ∈ ys, (enc y).length = k) → ∀ j (h : j < ys.length), ((ys.flatMap enc).drop (j * k)).take k = enc ys[j]
  | [], _, j, h => by simp at h
  | x :: xs, hk, 0, _ => by
    rw [Nat.zero_mul, List.drop_zero, List.flatMap_cons, List.take_append_of_le_length (by rw [hk x (by simp)]; exact Nat.le_refl _), List.take_of_length_le (by rw [hk x (by simp)]; exact Nat.le_refl _)]
    rfl
  | x :: xs, hk, j + 1, h => by
    rw [List.flatMap_cons, show (j + 1) * k = (enc x).length + j * k by rw [hk x (by simp), Nat.add_mul, Nat.one_mul, Nat.add_comm], List.drop_append]
    rw [show (enc x).length + j * k - (enc x).length = j * k by omega, List.drop_of_length_le (by omega), List.nil_append]
    exact flat_chunk enc k xs (fun y hy => hk y (by simp [hy])) j (by simpa using h)
theorem grown_set {w W : World} {b : Nat} (h : w.grownBy W (some b)) (o : Nat) (vs : List Value) : w.grownBy (W.setCells b o vs) (some b) := by
  have g := grown_setCells b vs o W
  exact ⟨g.os.trans h.os, g.tape.trans h.tape, g.output.trans h.output, Nat.le_trans h.size g.size, fun k hk hne => (g.block k (Nat.lt_of_lt_of_le hk h.size) hne).trans (h.block k hk hne)⟩
theorem zero_cells (z : Array Value) (k : Nat) (hz : z.size = k) (h1 : z.toList.all (·.oneCell') = true) (hk : 0 < k) (n : Nat) : (Builtin.zeroCells z n).toList.length = n * k ∧ ∀ v ∈ (Builtin.zeroCells z n).toList, v.oneCell' = true := by
  refine ⟨by simp [Builtin.zeroCells, hz], fun v hv => ?_⟩
  simp only [Builtin.zeroCells, Array.toList_map, List.mem_map] at hv
  obtain ⟨i, _, rfl⟩ := hv
  have hi : i % z.size < z.size := Nat.mod_lt _ (by omega)
  rw [getElem!_pos z _ hi]
  refine List.all_eq_true.1 h1 _ ?_
  rw [Array.mem_toList_iff]
  exact Array.getElem_mem hi
/-- The row under way: so many are kept of those looked at; from the last one looked at on they stand as they stood. -/
structure Under (enc : β → List Value) (eq : β → β → Bool) (ys : List β) (cur0 cur : List Value) (i j : Nat) : Prop where
  h0 : 0 < j
  hj : j ≤ ys.length
  hi : i = (comp eq (ys.take j)).length
  hlt : i < j
  len : cur.length = cur0.length
  kept : cur.take (i * 33) = (comp eq (ys.take j)).flatMap enc
  rest : cur.drop ((j - 1) * 33) = cur0.drop ((j - 1) * 33)
theorem Under.drop {enc : β → List Value} {eq : β → β → Bool} {ys : List β} {cur0 cur : List Value} {i j : Nat} (h : Under enc eq ys cur0 cur i j) (m : Nat) (hm : j - 1 ≤ m) : cur.drop (m * 33) = cur0.drop (m * 33) := by
  have e : ∀ l : List Value, l.drop (m * 33) = (l.drop ((j - 1) * 33)).drop ((m - (j - 1)) * 33) := fun l => by
    rw [List.drop_drop]; congr 1; omega
  rw [e, e, h.rest]
theorem Under.skip {enc : β → List Value} {eq : β → β → Bool} {ys : List β} {cur0 cur : List Value} {i j : Nat} (h : Under enc eq ys cur0 cur i j) (hl : j < ys.length) (hp : eq ys[j] ys[j - 1] = true) : Under enc eq ys cur0 cur i (j + 1) where
  h0 := by omega
  hj := hl
  hi := by rw [comp_take eq ys j h.h0 hl, if_pos hp, List.append_nil]; exact h.hi
  hlt := by have := h.hlt; omega
  len := h.len
  kept := by rw [comp_take eq ys j h.h0 hl, if_pos hp, List.append_nil]; exact h.kept
  rest := h.drop _ (by omega)
theorem Under.keep {enc : β → List Value} {eq : β → β → Bool} {ys : List β} {cur0 cur : List Value} {i j : Nat} (hk : ∀ y ∈ ys, (enc y).length = 33) (hc : ys.length * 33 ≤ cur0.length) (h : Under enc eq ys cur0 cur i j) (hl : j < ys.length) (hp : eq ys[j] ys[j - 1] = false) : Under enc eq ys cur0 (over cur (i * 33) (enc ys[j])) (i + 1) (j + 1) := by
  have hle := h.hlt
  have hy := hk ys[j] (List.getElem_mem hl)
  have hb : i * 33 + 33 ≤ cur.length := by rw [h.len]; omega
  have ht : (cur.take (i * 33)).length = i * 33 := by rw [List.length_take]; omega
  have hn : ¬ (eq ys[j] ys[j - 1] = true) := by rw [hp]; decide
  refine ⟨by omega, hl, by rw [comp_take eq ys j h.h0 hl, if_neg hn, h.hi]; simp, by omega, by rw [over_len _ _ _ (by rw [hy]; exact hb), h.len], ?_, ?_⟩
  · rw [comp_take eq ys j h.h0 hl, if_neg hn, show (i + 1) * 33 = i * 33 + 33 by omega]
    unfold over
    rw [List.take_left' (by rw [List.length_append, ht, hy]), h.kept]
    simp
  · have e3 : (over cur (i * 33) (enc ys[j])).drop (j * 33) = cur.drop (j * 33) := by
      unfold over
      rw [hy, List.drop_append, List.length_append, ht, hy, List.drop_of_length_le (by rw [List.length_append, ht, hy]; omega), List.nil_append, List.drop_drop]
      congr 1
      omega
    rw [show j + 1 - 1 = j by omega, e3, h.drop j (by omega)]
set_option maxHeartbeats 8000000 in
set_option maxRecDepth 100000 in
theorem compact_row (eq : β → β → Bool) (enc : β → List Value) (ys : List β) (hk : ∀ y ∈ ys, (enc y).length = 33) (h1 : ∀ y ∈ ys, ∀ v ∈ enc y, v.oneCell' = true)
    (heq : ∀ x y d (W : World), (Op.equalIn (d + 3) 25 (.agg (enc x).toArray) (.agg (enc y).toArray)).run Tryd.prog W = .ok (eq x y) W)
    (b cap : Nat) (cur : List Value) (w : World) (hb : w.heap[b]? = some (.cells cur.toArray 25 (0, 0))) (hsz : cur.length = cap * 33) (hn : ys.length ≤ cap) (hcap : cap ≤ maxLen) (htake : cur.take (ys.length * 33) = ys.flatMap enc) :
    Calls Tryd.prog 32 #[.slice (some ⟨b, 0, none⟩) ys.length cap] w fun e w' => e = .returned (.slice (some ⟨b, 0, none⟩) (comp eq ys).length cap) ∧ w.grownBy w' (some b) ∧ ∃ cur' : List Value, w'.heap[b]? = some (.cells cur'.toArray 25 (0, 0)) ∧ cur'.length = cap * 33 ∧ cur'.take ((comp eq ys).length * 33) = (comp eq ys).flatMap enc := by
  unfold maxLen at hcap
  have hblt : b < w.heap.size := (Array.getElem?_eq_some_iff.1 hb).1
  have HK := Aside0.mk hk
  have H1 := Aside0.mk h1
  have HB := Aside0.mk hb
  have HT := Aside0.mk htake
  have HZ := Aside0.mk hsz
  have HE := Aside0.mk heq
  clear hk h1 hb htake hsz heq
  have hG0 : w.grownBy w (some b) := World.grownBy.refl w _
  by_cases hn2 : ys.length < 2
  · have hc : comp eq ys = ys := by
      match ys, hn2 with
      | [], _ => rfl
      | [x], _ => rfl
      | x :: y :: r, h => exact absurd h (by simp)
    have HC := Aside0.mk hc
    have HG := Aside0.mk hG0
    clear hc hG0
    have hlt : (ys.length : Int) < 2 := by omega
    go_enter Tryd.func32, Tryd.ntmps32
    go_wp2
    go_ret
    rw [HC.out]
    exact ⟨rfl, HG.out, cur, HB.out, HZ.out, HT.out⟩
  have hge : ¬ (ys.length : Int) < 2 := by omega
  have HG0 := Aside0.mk hG0
  clear hG0
  -- an element, wherever its cells still stand
  have hload : ∀ (cu : List Value) (wr : World) (m : Nat) (hm : m < ys.length), cu.drop (m * 33) = cur.drop (m * 33) → wr.heap[b]? = some (.cells cu.toArray 25 (0, 0)) → Sem.run Tryd.prog (heavy0 ⟨b, m * 33, none⟩ 33) wr = .ok (enc ys[m]).toArray wr := fun cu wr m hm hd hh => by
    refine row_load hh (m * 33) 33 _ (HK.out _ (List.getElem_mem hm)) ?_
    have h2 := flat_chunk enc 33 ys HK.out m hm
    rw [← HT.out] at h2
    rw [hd, ← h2, List.drop_take, List.take_take]
    congr 1
    omega
  have HL := Aside0.mk hload
  clear hload
  go_enter Tryd.func32, Tryd.ntmps32
  go_wp2
  go_loopg [3] ys.length (fun gg s3 wr => ∃ k : Nat, s3 = .int .i64 k ∧ 1 ≤ k ∧ k ≤ ys.length ∧ ys.length - k ≤ gg ∧ Aside0 (comp eq (ys.take k) = ys.take k) ∧ Aside0 (wr.heap[b]? = some (.cells cur.toArray 25 (0, 0))) ∧ Aside0 (w.grownBy wr (some b)))
  case atStart => exact ⟨1, rfl, by omega, by omega, by omega, ⟨by cases ys with | nil => rfl | cons x xs => rfl⟩, ⟨HB.out⟩, ⟨HG0.out⟩⟩
  case round =>
    obtain ⟨k, rfl, hk1, hkn, hgg, HC, HBr, HGr⟩ := hrel
    by_cases hlt : k < ys.length
    · have hltz : (k : Int) < (ys.length : Int) := by omega
      have hm1 : k - 1 < ys.length := by omega
      have hLX := fun (W : World) (h : W.heap[b]? = some (.cells cur.toArray 25 (0, 0))) => HL.out cur W k hlt rfl h
      have hLY := fun (W : World) (h : W.heap[b]? = some (.cells cur.toArray 25 (0, 0))) => HL.out cur W (k - 1) hm1 rfl h
      have hEQ := fun d (W : World) => HE.out ys[k] ys[k - 1] d W
      have hC := comp_take eq ys k (by omega) hlt
      have HLX := Aside0.mk hLX
      have HLY := Aside0.mk hLY
      have HCt := Aside0.mk hC
      clear hLX hLY hC
      have b1 : (0 : Int) ≤ (k : Int) - 1 := by omega
      have b2 : (k : Int) - 1 < (ys.length : Int) := by omega
      have b3 : ((k : Int) - 1).toNat = k - 1 := by omega
      have b0 : IntKind.i64.wrap ((k : Int) - 1) = (k : Int) - 1 := by rw [IntKind.wrap_i64]; omega
      have b4 : (1 : Int) ≤ (k : Int) := by omega
      obtain ⟨x, hx⟩ : ∃ x, x = ys[k] := ⟨_, rfl⟩
      obtain ⟨y, hy⟩ : ∃ y, y = ys[k - 1] := ⟨_, rfl⟩
      rw [← hx, ← hy] at hEQ HCt
      rw [← hx] at HLX
      rw [← hy] at HLY
      have HXY := Aside0.mk (show x = ys[k] ∧ y = ys[k - 1] from ⟨hx, hy⟩)
      clear hx hy
      obtain ⟨X, hX⟩ : ∃ X, X = enc x := ⟨_, rfl⟩
      obtain ⟨Y, hY⟩ : ∃ Y, Y = enc y := ⟨_, rfl⟩
      rw [← hX] at HLX
      rw [← hY] at HLY
      rw [← hX, ← hY] at hEQ
      have HXe := Aside0.mk hX
      clear hX hY
      cases hq : eq x y
      · rw [hq] at hEQ
        have HQ := Aside0.mk hq
        clear hq
        go_wp2
        refine start_ (n := 10) (S := fun w' => Sem.run Tryd.prog (heavy0 ⟨b, k * 33, none⟩ 33) w' = .ok X.toArray w' ∧ Sem.run Tryd.prog (heavy0 ⟨b, (k - 1) * 33, none⟩ 33) w' = .ok Y.toArray w') (ds := []) #[false, false, false, false, false, false, false, false, false, false] (by kernel_rfl) rfl rfl ⟨HLX.out wr.drew HBr.out, HLY.out wr.drew HBr.out⟩ (fun hHeld => ?_)
        generalize hw5 : wr.drew = w5 at hHeld
        refine pure_ (i := 0) (N := some 16) (v := ?_) (a' := ?_) #[true, false, false, false, false, false, false, false, false, false] rfl rfl (by kernel_rfl) (fun _ _ _ h => h) (Or.inl ⟨by rfl, ?_⟩) ?_ ?_
        rotate_left
        · intro w'; go_simp; with_reducible rfl
        rotate_left
        · simp only [Act.put, List.setIfInBounds_toArray, List.set_cons_zero, List.set_cons_succ]; rfl
        refine pure_ (i := 1) (N := some 17) (v := ?_) (a' := ?_) #[true, true, false, false, false, false, false, false, false, false] rfl rfl (by kernel_rfl) (fun _ _ _ h => h) (Or.inl ⟨by rfl, ?_⟩) ?_ ?_
        rotate_left
        · intro w'; go_simp; with_reducible rfl
        rotate_left
        · simp only [Act.put, List.setIfInBounds_toArray, List.set_cons_zero, List.set_cons_succ]; rfl
        refine pure_ (i := 2) (N := some 18) (v := ?_) (a' := ?_) #[true, true, true, false, false, false, false, false, false, false] rfl rfl (by kernel_rfl) (fun _ _ _ h => h) (Or.inl ⟨by rfl, ?_⟩) ?_ ?_
        rotate_left
        · intro w'; go_simp; with_reducible rfl
        rotate_left
        · simp only [Act.put, List.setIfInBounds_toArray, List.set_cons_zero, List.set_cons_succ]; rfl
        refine take_ (i := 3) (N := some 19) (v := ?_) (a' := ?_) #[true, true, true, true, false, false, false, false, false, false] rfl rfl (by kernel_rfl) (fun _ _ _ h => h) (Or.inl ⟨by rfl, ?_⟩) hHeld ?_ ?_
        rotate_left
        · rintro w' ⟨s0, s1⟩; go_simp; with_reducible rfl
        rotate_left
        · simp only [Act.put, List.setIfInBounds_toArray, List.set_cons_zero, List.set_cons_succ]; rfl
        refine pure_ (i := 4) (N := some 20) (v := ?_) (a' := ?_) #[true, true, true, true, true, false, false, false, false, false] rfl rfl (by kernel_rfl) (fun _ _ _ h => h) (Or.inl ⟨by rfl, ?_⟩) ?_ ?_
        rotate_left
        · intro w'; go_simp; with_reducible rfl
        rotate_left
        · simp only [Act.put, List.setIfInBounds_toArray, List.set_cons_zero, List.set_cons_succ]; rfl
        refine pure_ (i := 5) (N := some 21) (v := ?_) (a' := ?_) #[true, true, true, true, true, true, false, false, false, false] rfl rfl (by kernel_rfl) (fun _ _ _ h => h) (Or.inl ⟨by rfl, ?_⟩) ?_ ?_
        rotate_left
        · intro w'; go_simp; with_reducible rfl
        rotate_left
        · simp only [Act.put, List.setIfInBounds_toArray, List.set_cons_zero, List.set_cons_succ]; rfl
        refine pure_ (i := 6) (N := some 22) (v := ?_) (a' := ?_) #[true, true, true, true, true, true, true, false, false, false] rfl rfl (by kernel_rfl) (fun _ _ _ h => h) (Or.inl ⟨by rfl, ?_⟩) ?_ ?_
        rotate_left
        · intro w'; go_simp; with_reducible rfl
        rotate_left
        · simp only [Act.put, List.setIfInBounds_toArray, List.set_cons_zero, List.set_cons_succ]; rfl
        refine pure_ (i := 7) (N := some 23) (v := ?_) (a' := ?_) #[true, true, true, true, true, true, true, true, false, false] rfl rfl (by kernel_rfl) (fun _ _ _ h => h) (Or.inl ⟨by rfl, ?_⟩) ?_ ?_
        rotate_left
        · intro w'; go_simp; with_reducible rfl
        rotate_left
        · simp only [Act.put, List.setIfInBounds_toArray, List.set_cons_zero, List.set_cons_succ]; rfl
        refine take_ (i := 8) (N := some 24) (v := ?_) (a' := ?_) #[true, true, true, true, true, true, true, true, true, false] rfl rfl (by kernel_rfl) (fun _ _ _ h => h) (Or.inl ⟨by rfl, ?_⟩) hHeld ?_ ?_
        rotate_left
        · rintro w' ⟨s0, s1⟩; go_simp; with_reducible rfl
        rotate_left
        · simp only [Act.put, List.setIfInBounds_toArray, List.set_cons_zero, List.set_cons_succ]; rfl
        refine pure_ (i := 9) (N := some 25) (v := ?_) (a' := ?_) #[true, true, true, true, true, true, true, true, true, true] rfl rfl (by kernel_rfl) (fun _ _ _ h => h) (Or.inl ⟨by rfl, ?_⟩) ?_ ?_
        rotate_left
        · intro w'; go_simp; with_reducible rfl
        rotate_left
        · simp only [Act.put, List.setIfInBounds_toArray, List.set_cons_zero, List.set_cons_succ]; rfl
        refine done_ (by kernel_rfl) ?_
        clear hEQ b0 b1 b2 b3 b4
        have HBw := Aside0.mk (show w5.heap[b]? = some (.cells cur.toArray 25 (0, 0)) from by rw [← hw5]; exact HBr.out)
        have HGw := Aside0.mk (show w.grownBy w5 (some b) from by rw [← hw5]; exact ⟨HGr.out.os, HGr.out.tape, HGr.out.output, HGr.out.size, HGr.out.block⟩)
        clear hw5
        go_wp2
        go_roundg (ys.length - (k + 1))
        case measure => omega
        case rel =>
          refine ⟨k + 1, by go_num, by omega, by omega, by omega, ⟨?_⟩, ⟨HBw.out⟩, ⟨HGw.out⟩⟩
          rw [HCt.out, HC.out, HQ.out, if_neg (by decide), HXY.out.1, ← List.take_succ_eq_append_getElem hlt]
      · rw [hq] at hEQ
        have HQ := Aside0.mk hq
        clear hq
        go_wp2
        refine start_ (n := 10) (S := fun w' => Sem.run Tryd.prog (heavy0 ⟨b, k * 33, none⟩ 33) w' = .ok X.toArray w' ∧ Sem.run Tryd.prog (heavy0 ⟨b, (k - 1) * 33, none⟩ 33) w' = .ok Y.toArray w') (ds := []) #[false, false, false, false, false, false, false, false, false, false] (by kernel_rfl) rfl rfl ⟨HLX.out wr.drew HBr.out, HLY.out wr.drew HBr.out⟩ (fun hHeld => ?_)
        generalize hw5 : wr.drew = w5 at hHeld
        refine pure_ (i := 0) (N := some 16) (v := ?_) (a' := ?_) #[true, false, false, false, false, false, false, false, false, false] rfl rfl (by kernel_rfl) (fun _ _ _ h => h) (Or.inl ⟨by rfl, ?_⟩) ?_ ?_
        rotate_left
        · intro w'; go_simp; with_reducible rfl
        rotate_left
        · simp only [Act.put, List.setIfInBounds_toArray, List.set_cons_zero, List.set_cons_succ]; rfl
        refine pure_ (i := 1) (N := some 17) (v := ?_) (a' := ?_) #[true, true, false, false, false, false, false, false, false, false] rfl rfl (by kernel_rfl) (fun _ _ _ h => h) (Or.inl ⟨by rfl, ?_⟩) ?_ ?_
        rotate_left
        · intro w'; go_simp; with_reducible rfl
        rotate_left
        · simp only [Act.put, List.setIfInBounds_toArray, List.set_cons_zero, List.set_cons_succ]; rfl
        refine pure_ (i := 2) (N := some 18) (v := ?_) (a' := ?_) #[true, true, true, false, false, false, false, false, false, false] rfl rfl (by kernel_rfl) (fun _ _ _ h => h) (Or.inl ⟨by rfl, ?_⟩) ?_ ?_
        rotate_left
        · intro w'; go_simp; with_reducible rfl
        rotate_left
        · simp only [Act.put, List.setIfInBounds_toArray, List.set_cons_zero, List.set_cons_succ]; rfl
        refine take_ (i := 3) (N := some 19) (v := ?_) (a' := ?_) #[true, true, true, true, false, false, false, false, false, false] rfl rfl (by kernel_rfl) (fun _ _ _ h => h) (Or.inl ⟨by rfl, ?_⟩) hHeld ?_ ?_
        rotate_left
        · rintro w' ⟨s0, s1⟩; go_simp; with_reducible rfl
        rotate_left
        · simp only [Act.put, List.setIfInBounds_toArray, List.set_cons_zero, List.set_cons_succ]; rfl
        refine pure_ (i := 4) (N := some 20) (v := ?_) (a' := ?_) #[true, true, true, true, true, false, false, false, false, false] rfl rfl (by kernel_rfl) (fun _ _ _ h => h) (Or.inl ⟨by rfl, ?_⟩) ?_ ?_
        rotate_left
        · intro w'; go_simp; with_reducible rfl
        rotate_left
        · simp only [Act.put, List.setIfInBounds_toArray, List.set_cons_zero, List.set_cons_succ]; rfl
        refine pure_ (i := 5) (N := some 21) (v := ?_) (a' := ?_) #[true, true, true, true, true, true, false, false, false, false] rfl rfl (by kernel_rfl) (fun _ _ _ h => h) (Or.inl ⟨by rfl, ?_⟩) ?_ ?_
        rotate_left
        · intro w'; go_simp; with_reducible rfl
        rotate_left
        · simp only [Act.put, List.setIfInBounds_toArray, List.set_cons_zero, List.set_cons_succ]; rfl
        refine pure_ (i := 6) (N := some 22) (v := ?_) (a' := ?_) #[true, true, true, true, true, true, true, false, false, false] rfl rfl (by kernel_rfl) (fun _ _ _ h => h) (Or.inl ⟨by rfl, ?_⟩) ?_ ?_
        rotate_left
        · intro w'; go_simp; with_reducible rfl
        rotate_left
        · simp only [Act.put, List.setIfInBounds_toArray, List.set_cons_zero, List.set_cons_succ]; rfl
        refine pure_ (i := 7) (N := some 23) (v := ?_) (a' := ?_) #[true, true, true, true, true, true, true, true, false, false] rfl rfl (by kernel_rfl) (fun _ _ _ h => h) (Or.inl ⟨by rfl, ?_⟩) ?_ ?_
        rotate_left
        · intro w'; go_simp; with_reducible rfl
        rotate_left
        · simp only [Act.put, List.setIfInBounds_toArray, List.set_cons_zero, List.set_cons_succ]; rfl
        refine take_ (i := 8) (N := some 24) (v := ?_) (a' := ?_) #[true, true, true, true, true, true, true, true, true, false] rfl rfl (by kernel_rfl) (fun _ _ _ h => h) (Or.inl ⟨by rfl, ?_⟩) hHeld ?_ ?_
        rotate_left
        · rintro w' ⟨s0, s1⟩; go_simp; with_reducible rfl
        rotate_left
        · simp only [Act.put, List.setIfInBounds_toArray, List.set_cons_zero, List.set_cons_succ]; rfl
        refine pure_ (i := 9) (N := some 25) (v := ?_) (a' := ?_) #[true, true, true, true, true, true, true, true, true, true] rfl rfl (by kernel_rfl) (fun _ _ _ h => h) (Or.inl ⟨by rfl, ?_⟩) ?_ ?_
        rotate_left
        · intro w'; go_simp; with_reducible rfl
        rotate_left
        · simp only [Act.put, List.setIfInBounds_toArray, List.set_cons_zero, List.set_cons_succ]; rfl
        refine done_ (by kernel_rfl) ?_
        clear hEQ b0 b1 b2 b3 b4
        have HBw := Aside0.mk (show w5.heap[b]? = some (.cells cur.toArray 25 (0, 0)) from by rw [← hw5]; exact HBr.out)
        have HGw := Aside0.mk (show w.grownBy w5 (some b) from by rw [← hw5]; exact ⟨HGr.out.os, HGr.out.tape, HGr.out.output, HGr.out.size, HGr.out.block⟩)
        clear hw5
        have HU0 : Aside0 (Under enc eq ys cur cur k (k + 1)) := ⟨by omega, by omega, by rw [HCt.out, HC.out, HQ.out, if_pos rfl, List.append_nil, List.length_take]; omega, by omega, rfl, by
          rw [HCt.out, HC.out, HQ.out, if_pos rfl, List.append_nil]
          have e : ys.flatMap enc = (ys.take k).flatMap enc ++ (ys.drop k).flatMap enc := by rw [← List.flatMap_append, List.take_append_drop]
          have : cur.take (k * 33) = (cur.take (ys.length * 33)).take (k * 33) := by rw [List.take_take]; congr 1; omega
          rw [this, HT.out, e, List.take_left' (by rw [flat_len' enc 33 _ (fun y hy => HK.out y (List.mem_of_mem_take hy)), List.length_take]; congr 1; omega)], rfl⟩
        clear HLX HLY HCt HC HBr HGr HXY HXe HQ
        have c1 : (k : Int) ≤ (ys.length : Int) := by omega
        have c2 : (0 : Int) ≤ (k : Int) := by omega
        have c3 : (k : Int) ≤ (cap : Int) := by omega
        obtain ⟨z2, hz2⟩ : ∃ z2, ys.length - k = z2 := ⟨_, rfl⟩
        go_wp2
        have HZ2 := Aside0.mk hz2
        go_loopg [3, 5] ys.length (fun gg s3 s5 wr => ∃ (i q : Nat) (cu : List Value), s3 = .int .i64 i ∧ s5 = .int .i64 q ∧ 1 ≤ q ∧ k + q ≤ ys.length ∧ ys.length - (k + q) ≤ gg ∧ Aside0 (Under enc eq ys cur cu i (k + q)) ∧ Aside0 (wr.heap[b]? = some (.cells cu.toArray 25 (0, 0))) ∧ Aside0 (w.grownBy wr (some b)))
        case atStart => exact ⟨k, 1, cur, rfl, by go_num, by omega, by omega, by omega, HU0, HBw, HGw⟩
        case round =>
          obtain ⟨i, q, cu, rfl, rfl, hq1, hqn, hgg2, HU, HBr, HGr⟩ := hrel
          by_cases hlt2 : k + q < ys.length
          · have hz : q < z2 := by omega
            have hltz2 : (q : Int) < (z2 : Int) := by omega
            have hm1 : k + q - 1 < ys.length := by omega
            have hLX := fun (W : World) (h : W.heap[b]? = some (.cells cu.toArray 25 (0, 0))) => HL.out cu W (k + q) hlt2 (HU.out.drop _ (by omega)) h
            have hLY := fun (W : World) (h : W.heap[b]? = some (.cells cu.toArray 25 (0, 0))) => HL.out cu W (k + q - 1) hm1 (HU.out.drop _ (by omega)) h
            have hEQ := fun d (W : World) => HE.out ys[k + q] ys[k + q - 1] d W
            rw [show (k + q) * 33 = k * 33 + q * 33 by omega] at hLX
            rw [show (k + q - 1) * 33 = k * 33 + (q - 1) * 33 by omega] at hLY
            have HLX := Aside0.mk hLX
            have HLY := Aside0.mk hLY
            clear hLX hLY
            have b1 : (0 : Int) ≤ (q : Int) - 1 := by omega
            have b2 : (q : Int) - 1 < (z2 : Int) := by omega
            have b3 : ((q : Int) - 1).toNat = q - 1 := by omega
            have b4 : (1 : Int) ≤ (q : Int) := by omega
            have b0 : IntKind.i64.wrap ((q : Int) - 1) = (q : Int) - 1 := by rw [IntKind.wrap_i64]; omega
            have HS := Aside0.mk (show (eq ys[k + q] ys[k + q - 1] = true → Under enc eq ys cur cu i (k + q + 1)) ∧ (eq ys[k + q] ys[k + q - 1] = false → Under enc eq ys cur (over cu (i * 33) (enc ys[k + q])) (i + 1) (k + q + 1)) from ⟨fun h => HU.out.skip hlt2 h, fun h => HU.out.keep HK.out (by rw [HZ.out]; omega) hlt2 h⟩)
            have HX1 := Aside0.mk (show (enc ys[k + q]).length = 33 ∧ ∀ v ∈ enc ys[k + q], v.oneCell' = true from ⟨HK.out _ (List.getElem_mem hlt2), H1.out _ (List.getElem_mem hlt2)⟩)
            obtain ⟨x, hx⟩ : ∃ x, x = ys[k + q] := ⟨_, rfl⟩
            obtain ⟨y, hy⟩ : ∃ y, y = ys[k + q - 1] := ⟨_, rfl⟩
            rw [← hx, ← hy] at hEQ HS
            rw [← hx] at HLX HX1
            rw [← hy] at HLY
            clear hx hy
            obtain ⟨X, hX⟩ : ∃ X, X = enc x := ⟨_, rfl⟩
            obtain ⟨Y, hY⟩ : ∃ Y, Y = enc y := ⟨_, rfl⟩
            rw [← hX] at HLX HS HX1
            rw [← hY] at HLY
            rw [← hX, ← hY] at hEQ
            clear hX hY
            cases hq : eq x y
            · rw [hq] at hEQ
              have HU1 := Aside0.mk (HS.out.2 hq)
              clear hq HS
              have hroom : i * 33 + X.length ≤ cu.length := by
                rw [HX1.out.1, HU.out.len, HZ.out]
                have := HU.out.hlt
                omega
              have HRM := Aside0.mk hroom
              have i1 : (i : Int) < (ys.length : Int) := by have := HU.out.hlt; omega
              clear hroom
              go_wp2
              refine start_ (n := 10) (S := fun w' => Sem.run Tryd.prog (heavy0 ⟨b, k * 33 + q * 33, none⟩ 33) w' = .ok X.toArray w' ∧ Sem.run Tryd.prog (heavy0 ⟨b, k * 33 + (q - 1) * 33, none⟩ 33) w' = .ok Y.toArray w') (ds := []) #[false, false, false, false, false, false, false, false, false, false] (by kernel_rfl) rfl rfl ⟨HLX.out wr.drew HBr.out, HLY.out wr.drew HBr.out⟩ (fun hHeld => ?_)
              generalize hw5 : wr.drew = w5 at hHeld
              refine pure_ (i := 0) (N := some 35) (v := ?_) (a' := ?_) #[true, false, false, false, false, false, false, false, false, false] rfl rfl (by kernel_rfl) (fun _ _ _ h => h) (Or.inl ⟨by rfl, ?_⟩) ?_ ?_
              rotate_left
              · intro w'; go_simp; with_reducible rfl
              rotate_left
              · simp only [Act.put, List.setIfInBounds_toArray, List.set_cons_zero, List.set_cons_succ]; rfl
              refine pure_ (i := 1) (N := some 36) (v := ?_) (a' := ?_) #[true, true, false, false, false, false, false, false, false, false] rfl rfl (by kernel_rfl) (fun _ _ _ h => h) (Or.inl ⟨by rfl, ?_⟩) ?_ ?_
              rotate_left
              · intro w'; go_simp; with_reducible rfl
              rotate_left
              · simp only [Act.put, List.setIfInBounds_toArray, List.set_cons_zero, List.set_cons_succ]; rfl
              refine pure_ (i := 2) (N := some 37) (v := ?_) (a' := ?_) #[true, true, true, false, false, false, false, false, false, false] rfl rfl (by kernel_rfl) (fun _ _ _ h => h) (Or.inl ⟨by rfl, ?_⟩) ?_ ?_
              rotate_left
              · intro w'; go_simp; with_reducible rfl
              rotate_left
              · simp only [Act.put, List.setIfInBounds_toArray, List.set_cons_zero, List.set_cons_succ]; rfl
              refine take_ (i := 3) (N := some 38) (v := ?_) (a' := ?_) #[true, true, true, true, false, false, false, false, false, false] rfl rfl (by kernel_rfl) (fun _ _ _ h => h) (Or.inl ⟨by rfl, ?_⟩) hHeld ?_ ?_
              rotate_left
              · rintro w' ⟨s0, s1⟩; go_simp; with_reducible rfl
              rotate_left
              · simp only [Act.put, List.setIfInBounds_toArray, List.set_cons_zero, List.set_cons_succ]; rfl
              refine pure_ (i := 4) (N := some 39) (v := ?_) (a' := ?_) #[true, true, true, true, true, false, false, false, false, false] rfl rfl (by kernel_rfl) (fun _ _ _ h => h) (Or.inl ⟨by rfl, ?_⟩) ?_ ?_
              rotate_left
              · intro w'; go_simp; with_reducible rfl
              rotate_left
              · simp only [Act.put, List.setIfInBounds_toArray, List.set_cons_zero, List.set_cons_succ]; rfl
              refine pure_ (i := 5) (N := some 40) (v := ?_) (a' := ?_) #[true, true, true, true, true, true, false, false, false, false] rfl rfl (by kernel_rfl) (fun _ _ _ h => h) (Or.inl ⟨by rfl, ?_⟩) ?_ ?_
              rotate_left
              · intro w'; go_simp; with_reducible rfl
              rotate_left
              · simp only [Act.put, List.setIfInBounds_toArray, List.set_cons_zero, List.set_cons_succ]; rfl
              refine pure_ (i := 6) (N := some 41) (v := ?_) (a' := ?_) #[true, true, true, true, true, true, true, false, false, false] rfl rfl (by kernel_rfl) (fun _ _ _ h => h) (Or.inl ⟨by rfl, ?_⟩) ?_ ?_
              rotate_left
              · intro w'; go_simp; with_reducible rfl
              rotate_left
              · simp only [Act.put, List.setIfInBounds_toArray, List.set_cons_zero, List.set_cons_succ]; rfl
              refine pure_ (i := 7) (N := some 42) (v := ?_) (a' := ?_) #[true, true, true, true, true, true, true, true, false, false] rfl rfl (by kernel_rfl) (fun _ _ _ h => h) (Or.inl ⟨by rfl, ?_⟩) ?_ ?_
              rotate_left
              · intro w'; go_simp; with_reducible rfl
              rotate_left
              · simp only [Act.put, List.setIfInBounds_toArray, List.set_cons_zero, List.set_cons_succ]; rfl
              refine take_ (i := 8) (N := some 43) (v := ?_) (a' := ?_) #[true, true, true, true, true, true, true, true, true, false] rfl rfl (by kernel_rfl) (fun _ _ _ h => h) (Or.inl ⟨by rfl, ?_⟩) hHeld ?_ ?_
              rotate_left
              · rintro w' ⟨s0, s1⟩; go_simp; with_reducible rfl
              rotate_left
              · simp only [Act.put, List.setIfInBounds_toArray, List.set_cons_zero, List.set_cons_succ]; rfl
              refine pure_ (i := 9) (N := some 44) (v := ?_) (a' := ?_) #[true, true, true, true, true, true, true, true, true, true] rfl rfl (by kernel_rfl) (fun _ _ _ h => h) (Or.inl ⟨by rfl, ?_⟩) ?_ ?_
              rotate_left
              · intro w'; go_simp; with_reducible rfl
              rotate_left
              · simp only [Act.put, List.setIfInBounds_toArray, List.set_cons_zero, List.set_cons_succ]; rfl
              refine done_ (by kernel_rfl) ?_
              clear hEQ b0 b1 b2 b3
              have HBw2 := Aside0.mk (show w5.heap[b]? = some (.cells cu.toArray 25 (0, 0)) from by rw [← hw5]; exact HBr.out)
              have HGw2 := Aside0.mk (show w.grownBy w5 (some b) from by rw [← hw5]; exact ⟨HGr.out.os, HGr.out.tape, HGr.out.output, HGr.out.size, HGr.out.block⟩)
              clear hw5
              have hlx : X.length = 33 := HX1.out.1
              have hld := HLX.out w5 HBw2.out
              have hst := row_store (P := Tryd.prog) HBw2.out (i * 33) X HRM.out HX1.out.2
              go_wp2
              go_roundg (ys.length - (k + (q + 1)))
              case measure => omega
              case rel =>
                exact ⟨i + 1, q + 1, over cu (i * 33) X, by go_num, by go_num, by omega, by omega, by omega, HU1, ⟨heap_setCells X (i * 33) w5 cu HBw2.out HRM.out⟩, ⟨grown_set HGw2.out _ _⟩⟩
            · rw [hq] at hEQ
              have HU1 := Aside0.mk (HS.out.1 hq)
              clear hq HS
              go_wp2
              refine start_ (n := 10) (S := fun w' => Sem.run Tryd.prog (heavy0 ⟨b, k * 33 + q * 33, none⟩ 33) w' = .ok X.toArray w' ∧ Sem.run Tryd.prog (heavy0 ⟨b, k * 33 + (q - 1) * 33, none⟩ 33) w' = .ok Y.toArray w') (ds := []) #[false, false, false, false, false, false, false, false, false, false] (by kernel_rfl) rfl rfl ⟨HLX.out wr.drew HBr.out, HLY.out wr.drew HBr.out⟩ (fun hHeld => ?_)
              generalize hw5 : wr.drew = w5 at hHeld
              refine pure_ (i := 0) (N := some 35) (v := ?_) (a' := ?_) #[true, false, false, false, false, false, false, false, false, false] rfl rfl (by kernel_rfl) (fun _ _ _ h => h) (Or.inl ⟨by rfl, ?_⟩) ?_ ?_
              rotate_left
              · intro w'; go_simp; with_reducible rfl
              rotate_left
              · simp only [Act.put, List.setIfInBounds_toArray, List.set_cons_zero, List.set_cons_succ]; rfl
              refine pure_ (i := 1) (N := some 36) (v := ?_) (a' := ?_) #[true, true, false, false, false, false, false, false, false, false] rfl rfl (by kernel_rfl) (fun _ _ _ h => h) (Or.inl ⟨by rfl, ?_⟩) ?_ ?_
              rotate_left
              · intro w'; go_simp; with_reducible rfl
              rotate_left
              · simp only [Act.put, List.setIfInBounds_toArray, List.set_cons_zero, List.set_cons_succ]; rfl
              refine pure_ (i := 2) (N := some 37) (v := ?_) (a' := ?_) #[true, true, true, false, false, false, false, false, false, false] rfl rfl (by kernel_rfl) (fun _ _ _ h => h) (Or.inl ⟨by rfl, ?_⟩) ?_ ?_
              rotate_left
              · intro w'; go_simp; with_reducible rfl
              rotate_left
              · simp only [Act.put, List.setIfInBounds_toArray, List.set_cons_zero, List.set_cons_succ]; rfl
              refine take_ (i := 3) (N := some 38) (v := ?_) (a' := ?_) #[true, true, true, true, false, false, false, false, false, false] rfl rfl (by kernel_rfl) (fun _ _ _ h => h) (Or.inl ⟨by rfl, ?_⟩) hHeld ?_ ?_
              rotate_left
              · rintro w' ⟨s0, s1⟩; go_simp; with_reducible rfl
              rotate_left
              · simp only [Act.put, List.setIfInBounds_toArray, List.set_cons_zero, List.set_cons_succ]; rfl
              refine pure_ (i := 4) (N := some 39) (v := ?_) (a' := ?_) #[true, true, true, true, true, false, false, false, false, false] rfl rfl (by kernel_rfl) (fun _ _ _ h => h) (Or.inl ⟨by rfl, ?_⟩) ?_ ?_
              rotate_left
              · intro w'; go_simp; with_reducible rfl
              rotate_left
              · simp only [Act.put, List.setIfInBounds_toArray, List.set_cons_zero, List.set_cons_succ]; rfl
              refine pure_ (i := 5) (N := some 40) (v := ?_) (a' := ?_) #[true, true, true, true, true, true, false, false, false, false] rfl rfl (by kernel_rfl) (fun _ _ _ h => h) (Or.inl ⟨by rfl, ?_⟩) ?_ ?_
              rotate_left
              · intro w'; go_simp; with_reducible rfl
              rotate_left
              · simp only [Act.put, List.setIfInBounds_toArray, List.set_cons_zero, List.set_cons_succ]; rfl
              refine pure_ (i := 6) (N := some 41) (v := ?_) (a' := ?_) #[true, true, true, true, true, true, true, false, false, false] rfl rfl (by kernel_rfl) (fun _ _ _ h => h) (Or.inl ⟨by rfl, ?_⟩) ?_ ?_
              rotate_left
              · intro w'; go_simp; with_reducible rfl
              rotate_left
              · simp only [Act.put, List.setIfInBounds_toArray, List.set_cons_zero, List.set_cons_succ]; rfl
              refine pure_ (i := 7) (N := some 42) (v := ?_) (a' := ?_) #[true, true, true, true, true, true, true, true, false, false] rfl rfl (by kernel_rfl) (fun _ _ _ h => h) (Or.inl ⟨by rfl, ?_⟩) ?_ ?_
              rotate_left
              · intro w'; go_simp; with_reducible rfl
              rotate_left
              · simp only [Act.put, List.setIfInBounds_toArray, List.set_cons_zero, List.set_cons_succ]; rfl
              refine take_ (i := 8) (N := some 43) (v := ?_) (a' := ?_) #[true, true, true, true, true, true, true, true, true, false] rfl rfl (by kernel_rfl) (fun _ _ _ h => h) (Or.inl ⟨by rfl, ?_⟩) hHeld ?_ ?_
              rotate_left
              · rintro w' ⟨s0, s1⟩; go_simp; with_reducible rfl
              rotate_left
              · simp only [Act.put, List.setIfInBounds_toArray, List.set_cons_zero, List.set_cons_succ]; rfl
              refine pure_ (i := 9) (N := some 44) (v := ?_) (a' := ?_) #[true, true, true, true, true, true, true, true, true, true] rfl rfl (by kernel_rfl) (fun _ _ _ h => h) (Or.inl ⟨by rfl, ?_⟩) ?_ ?_
              rotate_left
              · intro w'; go_simp; with_reducible rfl
              rotate_left
              · simp only [Act.put, List.setIfInBounds_toArray, List.set_cons_zero, List.set_cons_succ]; rfl
              refine done_ (by kernel_rfl) ?_
              clear hEQ b0 b1 b2 b3
              have HBw2 := Aside0.mk (show w5.heap[b]? = some (.cells cu.toArray 25 (0, 0)) from by rw [← hw5]; exact HBr.out)
              have HGw2 := Aside0.mk (show w.grownBy w5 (some b) from by rw [← hw5]; exact ⟨HGr.out.os, HGr.out.tape, HGr.out.output, HGr.out.size, HGr.out.block⟩)
              clear hw5
              go_wp2
              go_roundg (ys.length - (k + (q + 1)))
              case measure => omega
              case rel =>
                exact ⟨i, q + 1, cu, rfl, by go_num, by omega, by omega, by omega, HU1, HBw2, HGw2⟩
          · have hz : ¬ q < z2 := by omega
            have hltz2 : ¬ (q : Int) < (z2 : Int) := by omega
            have hkq : k + q = ys.length := by omega
            have HU2 := Aside0.mk (show Under enc eq ys cur cu i ys.length from hkq ▸ HU.out)
            have i0 : i < ys.length := HU2.out.hlt
            have i1 : (i : Int) ≤ (ys.length : Int) := by omega
            have i2 : (0 : Int) ≤ (i : Int) := by omega
            have i3 : (i : Int) ≤ (cap : Int) := by omega
            obtain ⟨m, hm⟩ : ∃ m, ys.length - i = m + 1 := ⟨ys.length - i - 1, by omega⟩
            have hz := zero_cells #[Value.int IntKind.u8 0, Value.int IntKind.u8 0, Value.int IntKind.u8 0, Value.int IntKind.u8 0, Value.int IntKind.u8 0, Value.int IntKind.u8 0, Value.int IntKind.u8 0, Value.int IntKind.u8 0, Value.int IntKind.u8 0, Value.int IntKind.u8 0, Value.int IntKind.u8 0, Value.int IntKind.u8 0, Value.int IntKind.u8 0, Value.int IntKind.u8 0, Value.int IntKind.u8 0, Value.int IntKind.u8 0, Value.int IntKind.u8 0, Value.int IntKind.u8 0, Value.int IntKind.u8 0, Value.int IntKind.u8 0, Value.int IntKind.u8 0, Value.int IntKind.u8 0, Value.int IntKind.u8 0, Value.int IntKind.u8 0, Value.int IntKind.u8 0, Value.int IntKind.u8 0, Value.int IntKind.u8 0, Value.int IntKind.u8 0, Value.int IntKind.u8 0, Value.int IntKind.u8 0, Value.int IntKind.u8 0, Value.int IntKind.u8 0, Value.int IntKind.i64 0] 33 rfl rfl (by omega) (m + 1)
            have hroom : i * 33 + (m + 1) * 33 ≤ cu.length := by
              rw [HU2.out.len, HZ.out]
              omega
            have hcl : ∀ ty, (Builtin.clear_ #[31] ty #[.slice (some ⟨b, i * 33, none⟩) (ys.length - i) (cap - i)]).run Tryd.prog wr = .ok (.tuple #[]) (wr.setCells b (i * 33) (Builtin.zeroCells #[Value.int IntKind.u8 0, Value.int IntKind.u8 0, Value.int IntKind.u8 0, Value.int IntKind.u8 0, Value.int IntKind.u8 0, Value.int IntKind.u8 0, Value.int IntKind.u8 0, Value.int IntKind.u8 0, Value.int IntKind.u8 0, Value.int IntKind.u8 0, Value.int IntKind.u8 0, Value.int IntKind.u8 0, Value.int IntKind.u8 0, Value.int IntKind.u8 0, Value.int IntKind.u8 0, Value.int IntKind.u8 0, Value.int IntKind.u8 0, Value.int IntKind.u8 0, Value.int IntKind.u8 0, Value.int IntKind.u8 0, Value.int IntKind.u8 0, Value.int IntKind.u8 0, Value.int IntKind.u8 0, Value.int IntKind.u8 0, Value.int IntKind.u8 0, Value.int IntKind.u8 0, Value.int IntKind.u8 0, Value.int IntKind.u8 0, Value.int IntKind.u8 0, Value.int IntKind.u8 0, Value.int IntKind.u8 0, Value.int IntKind.u8 0, Value.int IntKind.i64 0] (m + 1)).toList) := fun ty => by
              rw [hm]
              have hs := row_store (P := Tryd.prog) HBr.out (i * 33) (Builtin.zeroCells #[Value.int IntKind.u8 0, Value.int IntKind.u8 0, Value.int IntKind.u8 0, Value.int IntKind.u8 0, Value.int IntKind.u8 0, Value.int IntKind.u8 0, Value.int IntKind.u8 0, Value.int IntKind.u8 0, Value.int IntKind.u8 0, Value.int IntKind.u8 0, Value.int IntKind.u8 0, Value.int IntKind.u8 0, Value.int IntKind.u8 0, Value.int IntKind.u8 0, Value.int IntKind.u8 0, Value.int IntKind.u8 0, Value.int IntKind.u8 0, Value.int IntKind.u8 0, Value.int IntKind.u8 0, Value.int IntKind.u8 0, Value.int IntKind.u8 0, Value.int IntKind.u8 0, Value.int IntKind.u8 0, Value.int IntKind.u8 0, Value.int IntKind.u8 0, Value.int IntKind.u8 0, Value.int IntKind.u8 0, Value.int IntKind.u8 0, Value.int IntKind.u8 0, Value.int IntKind.u8 0, Value.int IntKind.u8 0, Value.int IntKind.u8 0, Value.int IntKind.i64 0] (m + 1)).toList (by rw [hz.1]; exact hroom) hz.2
              simp [Builtin.clear_, run_underlying Tryd.underlying31, Tryd.zeroValue25, Value.cells, hs]
            clear hm
            go_wp2
            go_ret
            have hfi : (comp eq ys).length = i := by have := HU2.out.hi; rw [List.take_of_length_le (Nat.le_refl _)] at this; exact this.symm
            have hzl : i * 33 + (Builtin.zeroCells #[Value.int IntKind.u8 0, Value.int IntKind.u8 0, Value.int IntKind.u8 0, Value.int IntKind.u8 0, Value.int IntKind.u8 0, Value.int IntKind.u8 0, Value.int IntKind.u8 0, Value.int IntKind.u8 0, Value.int IntKind.u8 0, Value.int IntKind.u8 0, Value.int IntKind.u8 0, Value.int IntKind.u8 0, Value.int IntKind.u8 0, Value.int IntKind.u8 0, Value.int IntKind.u8 0, Value.int IntKind.u8 0, Value.int IntKind.u8 0, Value.int IntKind.u8 0, Value.int IntKind.u8 0, Value.int IntKind.u8 0, Value.int IntKind.u8 0, Value.int IntKind.u8 0, Value.int IntKind.u8 0, Value.int IntKind.u8 0, Value.int IntKind.u8 0, Value.int IntKind.u8 0, Value.int IntKind.u8 0, Value.int IntKind.u8 0, Value.int IntKind.u8 0, Value.int IntKind.u8 0, Value.int IntKind.u8 0, Value.int IntKind.u8 0, Value.int IntKind.i64 0] (m + 1)).toList.length ≤ cu.length := by rw [hz.1]; exact hroom
            refine ⟨by rw [hfi]; rfl, grown_set HGr.out _ _, over cu (i * 33) (Builtin.zeroCells #[Value.int IntKind.u8 0, Value.int IntKind.u8 0, Value.int IntKind.u8 0, Value.int IntKind.u8 0, Value.int IntKind.u8 0, Value.int IntKind.u8 0, Value.int IntKind.u8 0, Value.int IntKind.u8 0, Value.int IntKind.u8 0, Value.int IntKind.u8 0, Value.int IntKind.u8 0, Value.int IntKind.u8 0, Value.int IntKind.u8 0, Value.int IntKind.u8 0, Value.int IntKind.u8 0, Value.int IntKind.u8 0, Value.int IntKind.u8 0, Value.int IntKind.u8 0, Value.int IntKind.u8 0, Value.int IntKind.u8 0, Value.int IntKind.u8 0, Value.int IntKind.u8 0, Value.int IntKind.u8 0, Value.int IntKind.u8 0, Value.int IntKind.u8 0, Value.int IntKind.u8 0, Value.int IntKind.u8 0, Value.int IntKind.u8 0, Value.int IntKind.u8 0, Value.int IntKind.u8 0, Value.int IntKind.u8 0, Value.int IntKind.u8 0, Value.int IntKind.i64 0] (m + 1)).toList, heap_setCells _ (i * 33) wr cu HBr.out hzl, by rw [over_len _ _ _ hzl, HU2.out.len, HZ.out], ?_⟩
            rw [hfi]
            have hkept := HU2.out.kept
            rw [List.take_of_length_le (Nat.le_refl _)] at hkept
            unfold over
            rw [List.append_assoc, List.take_append_of_le_length (by rw [List.length_take]; omega), List.take_of_length_le (by rw [List.length_take]; omega)]
            exact hkept
    · obtain rfl : k = ys.length := by omega
      have hltz : ¬ (ys.length : Int) < (ys.length : Int) := by omega
      go_wp2
      go_ret
      have hc : comp eq ys = ys := by have := HC.out; rwa [List.take_of_length_le (Nat.le_refl _)] at this
      rw [hc]
      exact ⟨rfl, HGr.out, cur, HBr.out, HZ.out, HT.out⟩
end Go.Proofs.YtmoecidfmgeafaaDoor.CompO
