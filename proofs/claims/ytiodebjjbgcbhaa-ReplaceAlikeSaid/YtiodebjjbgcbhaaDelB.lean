/- slices.DeleteFunc at elements of several cells, in a row of the caller's own: what the predicate does not strike stays, in its order. -/
import Derived.Test.YtiodebjjbgcbhaaFill
import Derived.Test.YtiodebjjbgcbhaaFindQ
import Derived.Test.YtiodebjjbgcbhaaLayD
import Derived.WalkKit
import Derived.Deep.LoopGhost
import Derived.Test.YtiodebjjbgcbhaaProg
namespace Go.Proofs.Ytiodebjjbgcbhaa.DelB
open Go.RowKit Go.Lib Go.Shelf Go.Proofs.YtiodebjjbgcbhaaW.PrintWords Go.Proofs.Ytiodebjjbgcbhaa.RowK Go.Proofs.Ytiodebjjbgcbhaa.Fill Go.Proofs.Ytiodebjjbgcbhaa.FindQ
attribute [local go_sem ↓ high] hv5
variable {β : Type}
theorem firstOf_attach (p : β → Bool) (ys : List β) : firstOf (fun y : {y // y ∈ ys} => p y.1) ys.attach = firstOf p ys := by
  have e : ys.findIdx? p = ys.attach.findIdx? (fun y => p y.1) := by
    conv => lhs; rw [← List.attach_map_subtype_val ys]
    rw [List.findIdx?_map]
    rfl
  unfold firstOf
  rw [e]
theorem firstOf_spec (p : β → Bool) (ys : List β) : (firstOf p ys = -1 ∧ ∀ y ∈ ys, p y = false) ∨ ∃ i, ∃ h : i < ys.length, firstOf p ys = (i : Int) ∧ p ys[i] = true ∧ ∀ j (hj : j < ys.length), j < i → p ys[j] = false := by
  unfold firstOf
  cases h : ys.findIdx? p with
  | none =>
    rw [List.findIdx?_eq_none_iff] at h
    exact .inl ⟨rfl, fun y hy => by simpa using h y hy⟩
  | some i =>
    rw [List.findIdx?_eq_some_iff_getElem] at h
    obtain ⟨hi, hp, hb⟩ := h
    exact .inr ⟨i, hi, rfl, hp, fun j hj hji => by simpa using hb j hji⟩
theorem flat_len' (enc : β → List Value) (k : Nat) : ∀ ys : List β, (∀ y ∈ ys, (enc y).length = k) → (ys.flatMap enc).length = ys.length * k
  | [], _ => by simp
  | x :: xs, h => by rw [List.flatMap_cons, List.length_append, h x (by simp), flat_len' enc k xs (fun y hy => h y (by simp [hy])), List.length_cons, Nat.add_mul, Nat.one_mul, Nat.add_comm]
theorem flat_chunk (enc : β → List Value) (k : Nat) : ∀ (ys : List β), (∀ y ∈ ys, (enc y).length = k) → ∀ j (h : j < ys.length), ((ys.flatMap enc).drop (j * k)).take k = enc ys[j]
  | [], _, j, h => by simp at h
  | x :: xs, hk, 0, _ => by
    rw [Nat.zero_mul, List.drop_zero, List.flatMap_cons, List.take_append_of_le_length (by rw [hk x (by simp)]; exact Nat.le_refl _), List.take_of_length_le (by rw [hk x (by simp)]; exact Nat.le_refl _)]
    rfl
  | x :: xs, hk, j + 1, h => by
    rw [List.flatMap_cons, show (j + 1) * k = (enc x).length + j * k by rw [hk x (by simp), Nat.add_mul, Nat.one_mul, Nat.add_comm], List.drop_append]
    rw [show (enc x).length + j * k - (enc x).length = j * k by omega, List.drop_of_length_le (by omega), List.nil_append]
    exact flat_chunk enc k xs (fun y hy => hk y (by simp [hy])) j (by simpa using h)
/-- The row under way: so many are kept, so many looked at, the others stand as they stood. -/
structure Under (enc : β → List Value) (k : Nat) (p : β → Bool) (ys : List β) (cur0 cur : List Value) (i j : Nat) : Prop where
  hj : j ≤ ys.length
  hi : i = ((ys.take j).filter fun y => !p y).length
  len : cur.length = cur0.length
  kept : cur.take (i * k) = ((ys.take j).filter fun y => !p y).flatMap enc
  rest : cur.drop (j * k) = cur0.drop (j * k)
theorem Under.le {enc : β → List Value} {k : Nat} {p : β → Bool} {ys : List β} {cur0 cur : List Value} {i j : Nat} (h : Under enc k p ys cur0 cur i j) : i ≤ j := by
  rw [h.hi]
  have := List.length_filter_le (fun y => !p y) (ys.take j)
  have := List.length_take_le j ys
  omega
theorem take_succ_filter (p : β → Bool) (ys : List β) (j : Nat) (h : j < ys.length) : ((ys.take (j + 1)).filter fun y => !p y) = ((ys.take j).filter fun y => !p y) ++ if p ys[j] then [] else [ys[j]] := by
  rw [List.take_succ_eq_append_getElem h, List.filter_append]
  cases hq : p ys[j] <;> simp [hq]
theorem Under.skip {enc : β → List Value} {k : Nat} {p : β → Bool} {ys : List β} {cur0 cur : List Value} {i j : Nat} (h : Under enc k p ys cur0 cur i j) (hl : j < ys.length) (hp : p ys[j] = true) : Under enc k p ys cur0 cur i (j + 1) where
  hj := hl
  hi := by rw [take_succ_filter p ys j hl, if_pos hp, List.append_nil]; exact h.hi
  len := h.len
  kept := by rw [take_succ_filter p ys j hl, if_pos hp, List.append_nil]; exact h.kept
  rest := by
    have e : ∀ l : List Value, l.drop ((j + 1) * k) = (l.drop (j * k)).drop k := fun l => by rw [List.drop_drop]; congr 1; rw [Nat.add_mul, Nat.one_mul]
    rw [e, e, h.rest]
theorem Under.keep {enc : β → List Value} {k : Nat} {p : β → Bool} {ys : List β} {cur0 cur : List Value} {i j : Nat} (hk : ∀ y ∈ ys, (enc y).length = k) (hc : ys.length * k ≤ cur0.length) (h : Under enc k p ys cur0 cur i j) (hl : j < ys.length) (hp : p ys[j] = false) : Under enc k p ys cur0 (over cur (i * k) (enc ys[j])) (i + 1) (j + 1) := by
  have hle := h.le
  have hy := hk ys[j] (List.getElem_mem hl)
  have hb : i * k + k ≤ cur.length := by
    rw [h.len]
    have := Nat.mul_le_mul_right k (show i + 1 ≤ ys.length by omega)
    rw [Nat.add_mul, Nat.one_mul] at this
    omega
  have e1 : (i + 1) * k = i * k + k := by rw [Nat.add_mul, Nat.one_mul]
  have ht : (cur.take (i * k)).length = i * k := by rw [List.length_take]; omega
  refine ⟨hl, by rw [take_succ_filter p ys j hl, hp, h.hi]; simp, by rw [over_len _ _ _ (by rw [hy]; exact hb), h.len], ?_, ?_⟩
  · rw [take_succ_filter p ys j hl, hp, e1]
    unfold over
    rw [List.take_left' (by rw [List.length_append, ht, hy]), h.kept]
    simp
  · have e2 : (j + 1) * k = j * k + k := by rw [Nat.add_mul, Nat.one_mul]
    have hik : i * k ≤ j * k := Nat.mul_le_mul_right k hle
    have e3 : (over cur (i * k) (enc ys[j])).drop ((j + 1) * k) = cur.drop ((j + 1) * k) := by
      unfold over
      rw [hy, List.drop_append, List.length_append, ht, hy, List.drop_of_length_le (by rw [List.length_append, ht, hy]; omega), List.nil_append, List.drop_drop]
      congr 1
      omega
    rw [e3]
    have e : ∀ l : List Value, l.drop ((j + 1) * k) = (l.drop (j * k)).drop k := fun l => by rw [List.drop_drop, e2]
    rw [e, e, h.rest]
theorem grown_below {w W W' : World} {b : Nat} (h : w.grownBy W (some b)) (hb : Below W.heap.size W W') : w.grownBy W' (some b) :=
  ⟨hb.os.trans h.os, hb.tape.trans h.tape, hb.output.trans h.output, Nat.le_trans h.size hb.size, fun k hk hne => (hb.block k (Nat.lt_of_lt_of_le hk h.size)).trans (h.block k hk hne)⟩
theorem grown_set {w W : World} {b : Nat} (h : w.grownBy W (some b)) (o : Nat) (vs : List Value) : w.grownBy (W.setCells b o vs) (some b) := by
  have g := grown_setCells b vs o W
  exact ⟨g.os.trans h.os, g.tape.trans h.tape, g.output.trans h.output, Nat.le_trans h.size g.size, fun k hk hne => (g.block k (Nat.lt_of_lt_of_le hk h.size) hne).trans (h.block k hk hne)⟩
theorem zero_cells (z : Array Value) (k : Nat) (hz : z.size = k) (h1 : z.toList.all (·.oneCell') = true) (hk : 0 < k) (n : Nat) : (Builtin.zeroCells z n).toList.length = n * k ∧ ∀ v ∈ (Builtin.zeroCells z n).toList, v.oneCell' = true := by
  refine ⟨by simp [Builtin.zeroCells, hz], fun v hv => ?_⟩
  simp only [Builtin.zeroCells, Array.toList_map, List.mem_map] at hv
  obtain ⟨i, _, rfl⟩ := hv
  have hi : i % z.size < z.size := Nat.mod_lt _ (by omega)
  rw [getElem!_pos z _ hi]
  refine List.all_eq_true.1 h1 _ ?_
  rw [Array.mem_toList_iff]
  exact Array.getElem_mem hi
set_option maxHeartbeats 4000000 in
set_option maxRecDepth 100000 in
theorem del_row (g : Nat) (lb : Array Value) (eg : ∀ args w, (callFunc g args).run Try.prog w = .ok (.enter g args) w) (p : β → Bool) (enc : β → List Value) (ys : List β) (hk : ∀ y ∈ ys, (enc y).length = 5) (h1 : ∀ y ∈ ys, ∀ v ∈ enc y, v.oneCell' = true)
    (b cap : Nat) (cur : List Value) (w : World) (hb : w.heap[b]? = some (.cells cur.toArray 39 (0, 0))) (hsz : cur.length = cap * 5) (hn : ys.length ≤ cap) (hcap : cap ≤ maxLen) (htake : cur.take (ys.length * 5) = ys.flatMap enc)
    (hp : ∀ W y, y ∈ ys → w.grownBy W (some b) → Calls Try.prog g (#[.agg (enc y).toArray] ++ lb) W fun e w' => e = .returned (.bool (p y)) ∧ Below W.heap.size W w') :
    Calls Try.prog 33 #[.slice (some ⟨b, 0, none⟩) ys.length cap, .func (.func g) #[] lb] w fun e w' => e = .returned (.slice (some ⟨b, 0, none⟩) (ys.filter fun y => !p y).length cap) ∧ w.grownBy w' (some b) ∧ ∃ cur' : List Value, w'.heap[b]? = some (.cells cur'.toArray 39 (0, 0)) ∧ cur'.length = cap * 5 ∧ cur'.take ((ys.filter fun y => !p y).length * 5) = (ys.filter fun y => !p y).flatMap enc := by
  unfold maxLen at hcap
  have hblt : b < w.heap.size := (Array.getElem?_eq_some_iff.1 hb).1
  -- the search
  have hIF : Calls Try.prog 62 #[.slice (some ⟨b, 0, none⟩) ys.length cap, .func (.func g) #[] lb] w fun e w' => e = .returned (.int .i64 (firstOf p ys)) ∧ Below w.heap.size w w' := by
    have h := index_row (α := {y // y ∈ ys}) LayD.indexBatch 5 Try.isAgg39 Try.sizeOf39 (fun y => enc y.1) (fun y => hk y.1 y.2) (fun y => p y.1) g lb eg (some ⟨b, 0, none⟩) cap ys.attach w
      (fun W x hB => (hp W x.1 x.2 ⟨hB.os, hB.tape, hB.output, hB.size, fun k hk _ => hB.block k hk⟩).mono fun e w' ⟨he, hb'⟩ => ⟨he, ⟨hb'.os.trans hB.os |>.trans rfl |> fun h => h, hb'.tape.trans hB.tape, hb'.output.trans hB.output, Nat.le_trans hB.size hb'.size, fun k hk => (hb'.block k (Nat.lt_of_lt_of_le hk hB.size)).trans (hB.block k hk)⟩⟩)
      ⟨rfl, by rw [List.length_attach]; omega, fun _ => ⟨⟨b, 0, none⟩, rfl, fun j x hx => ⟨enc x.1, hk x.1 x.2, rfl, fun i u hu => by
        rw [Addr.add_lit, Nat.zero_add]
        have hj : j < ys.length := by have := (List.getElem?_eq_some_iff.1 hx).1; rwa [List.length_attach] at this
        have hxj : ys[j] = x.1 := by
          have := (List.getElem?_eq_some_iff.1 hx).2
          rw [List.getElem_attach] at this
          rw [← this]
        have hch := flat_chunk enc 5 ys hk j hj
        rw [← htake, hxj] at hch
        have hi : i < 5 := by have := (List.getElem?_eq_some_iff.1 hu).1; rwa [hk x.1 x.2] at this
        rw [← hch, List.getElem?_take_of_lt hi, List.getElem?_drop, List.getElem?_take_of_lt (by omega)] at hu
        exact cell_of_block hb _ _ hu⟩⟩⟩
    rwa [List.length_attach, firstOf_attach] at h
  have HP := Aside0.mk hp
  have HK := Aside0.mk hk
  have H1 := Aside0.mk h1
  have HB := Aside0.mk hb
  have HT := Aside0.mk htake
  have HZ := Aside0.mk hsz
  rcases firstOf_spec p ys with ⟨e1, hall⟩ | ⟨i0, hi0, e1, ht0, hbef⟩
  · have hfil : (ys.filter fun y => !p y) = ys := List.filter_eq_self.2 fun y hy => by rw [hall y hy]; rfl
    rw [e1] at hIF
    have HI := Aside0.mk hIF
    clear hIF hp hk h1 hb htake e1 hsz
    have HF := Aside0.mk hfil
    clear hfil
    go_enter Try.func33, Try.ntmps33
    go_wp2_with (go_at_call 62; refine HI.out.mono ?_; rintro e w' ⟨rfl, hB⟩)
    go_ret
    rw [HF.out]
    exact ⟨rfl, ⟨hB.os, hB.tape, hB.output, hB.size, fun k hk _ => hB.block k hk⟩, cur, (hB.block b hblt).trans HB.out, HZ.out, HT.out⟩
  · rw [e1] at hIF
    have HI := Aside0.mk hIF
    have hU0 : Under enc 5 p ys cur cur i0 (i0 + 1) := by
      have hall : ((ys.take i0).filter fun y => !p y) = ys.take i0 := List.filter_eq_self.2 fun y hy => by
        obtain ⟨j, hj, rfl⟩ := List.mem_iff_getElem.1 hy
        rw [List.getElem_take]
        rw [hbef j (by rw [List.length_take] at hj; omega) (by rw [List.length_take] at hj; omega)]; rfl
      refine Under.skip ⟨by omega, by rw [hall, List.length_take]; omega, rfl, ?_, rfl⟩ hi0 ht0
      rw [hall]
      have : cur.take (i0 * 5) = (cur.take (ys.length * 5)).take (i0 * 5) := by rw [List.take_take]; congr 1; omega
      rw [this, htake]
      have e : ys.flatMap enc = (ys.take i0).flatMap enc ++ (ys.drop i0).flatMap enc := by rw [← List.flatMap_append, List.take_append_drop]
      rw [e, List.take_left' (by rw [flat_len' enc 5 _ (fun y hy => hk y (List.mem_of_mem_take hy)), List.length_take]; omega)]
    have HU0 := Aside0.mk hU0
    clear hIF hp hk h1 hb htake e1 ht0 hbef hU0 hsz
    go_enter Try.func33, Try.ntmps33
    go_wp2_with (go_at_call 62; refine HI.out.mono ?_; rintro e w' ⟨rfl, hB⟩; have GB := Aside0.mk hB; clear hB)
    go_loopg [5, 6, 7] ys.length (fun gg s5 s6 _ wr => ∃ (i j : Nat) (cu : List Value), s5 = .int .i64 i ∧ s6 = .int .i64 j ∧ ys.length - j ≤ gg ∧ j ≤ ys.length ∧ i < j ∧ Aside0 (Under enc 5 p ys cur cu i j) ∧ Aside0 (wr.heap[b]? = some (.cells cu.toArray 39 (0, 0))) ∧ Aside0 (w.grownBy wr (some b)))
    case atStart => exact ⟨i0, i0 + 1, cur, rfl, by go_num, by omega, by omega, by omega, HU0, ⟨(GB.out.block b hblt).trans HB.out⟩, ⟨⟨GB.out.os, GB.out.tape, GB.out.output, GB.out.size, fun k hk _ => GB.out.block k hk⟩⟩⟩
    case round =>
      obtain ⟨i, j, cu, rfl, rfl, hgg, hjn, hij, HU, HC, HG⟩ := hrel
      by_cases hlt : j < ys.length
      · have hltz : (j : Int) < (ys.length : Int) := by omega
        have hmem := List.getElem_mem hlt
        have hch : (cu.drop (j * 5)).take 5 = enc ys[j] := by
          have h2 := flat_chunk enc 5 ys HK.out j hlt
          rw [← HT.out] at h2
          rw [HU.out.rest, ← h2, List.drop_take, List.take_take]
          congr 1
          omega
        have hld : Sem.run Try.prog (heavy0 ⟨b, j * 5, none⟩ 5) wr = .ok (enc ys[j]).toArray wr := row_load HC.out (j * 5) 5 _ (HK.out _ hmem) hch
        have hst := run_fill Try.prog wr #[Value.slice none 0 0, Value.slice none 0 0, Value.int IntKind.i64 0, Value.int IntKind.i64 0, Value.int IntKind.i64 0] 39 (enc ys[j]) (by simp [HK.out _ hmem]) (H1.out _ hmem)
        have hblt2 : b < wr.heap.size := (Array.getElem?_eq_some_iff.1 HC.out).1
        have hnew := blk_new wr (.cells (enc ys[j]).toArray 39)
        have hld2 : Sem.run Try.prog (heavy0 ⟨wr.heap.size, 0, none⟩ 5) (wr.alloc (.cells (enc ys[j]).toArray 39)) = .ok (enc ys[j]).toArray (wr.alloc (.cells (enc ys[j]).toArray 39)) := row_load hnew 0 5 _ (HK.out _ hmem) (by rw [List.drop_zero, List.take_of_length_le (by rw [HK.out _ hmem]; exact Nat.le_refl _)])
        have hg2 : w.grownBy (wr.alloc (.cells (enc ys[j]).toArray 39)) (some b) := ⟨HG.out.os, HG.out.tape, HG.out.output, Nat.le_trans HG.out.size (by simp), fun k hk hne => (Below.heap_alloc _ _ k (Nat.lt_of_lt_of_le hk HG.out.size)).trans (HG.out.block k hk hne)⟩
        have HCall := Aside0.mk (HP.out _ ys[j] hmem hg2)
        have hc2 : (wr.alloc (.cells (enc ys[j]).toArray 39)).heap[b]? = some (.cells cu.toArray 39 (0, 0)) := (Below.heap_alloc _ _ b hblt2).trans HC.out
        have HC2 := Aside0.mk hc2
        have HNEW := Aside0.mk hnew
        have HG2 := Aside0.mk hg2
        have hly := HK.out _ hmem
        have HLY := Aside0.mk hly
        have H1Y := Aside0.mk (H1.out _ hmem)
        have HJ := Aside0.mk (show j < ys.length ∧ (p ys[j] = true → Under enc 5 p ys cur cu i (j + 1)) ∧ (p ys[j] = false → Under enc 5 p ys cur (over cu (i * 5) (enc ys[j])) (i + 1) (j + 1)) from ⟨hlt, fun h => HU.out.skip hlt h, fun h => HU.out.keep HK.out (by rw [HZ.out]; exact Nat.mul_le_mul_right _ hn) hlt h⟩)
        clear hch hc2 hnew hg2 hmem
        generalize ys[j] = y at hld hst hld2 HCall HC2 HNEW HG2 hly HLY H1Y HJ
        generalize enc y = cs at hld hst hld2 HCall HC2 HNEW HG2 hly HLY H1Y HJ
        cases hq : p y with
        | false =>
          rw [hq] at HCall
          have hroom : i * 5 + cs.length ≤ cu.length := by
            rw [HLY.out, HU.out.len, HZ.out]
            have := Nat.mul_le_mul_right 5 (show i + 1 ≤ cap by omega)
            omega
          go_wp2_with (go_at_fn g; refine HCall.out.mono ?_; rintro e w' ⟨rfl, hb'⟩; have BW := Aside0.mk hb'; have hld3 : Sem.run Try.prog (heavy0 ⟨wr.heap.size, 0, none⟩ 5) w' = .ok cs.toArray w' := row_load ((hb'.block _ (by simp)).trans HNEW.out) 0 5 cs HLY.out (by rw [List.drop_zero, List.take_of_length_le (by rw [HLY.out]; exact Nat.le_refl _)]); have hst3 : Sem.run Try.prog (storeCells ⟨b, i * 5, none⟩ cs 0) w' = .ok () (w'.setCells b (i * 5) cs) := row_store ((hb'.block b (by simp; omega)).trans HC2.out) (i * 5) cs hroom H1Y.out; clear hld hst hld2 hb')
          go_roundg (ys.length - (j + 1))
          case measure => omega
          case rel =>
            exact ⟨i + 1, j + 1, over cu (i * 5) cs, by go_num, by go_num, by omega, by omega, by omega, ⟨HJ.out.2.2 hq⟩, ⟨heap_setCells cs (i * 5) w' cu ((BW.out.block b (by simp; omega)).trans HC2.out) hroom⟩, ⟨grown_set (grown_below HG2.out BW.out) _ _⟩⟩
        | true =>
          rw [hq] at HCall
          go_wp2_with (go_at_fn g; refine HCall.out.mono ?_; rintro e w' ⟨rfl, hb'⟩; have BW := Aside0.mk hb'; clear hld hst hld2 hb')
          go_roundg (ys.length - (j + 1))
          case measure => omega
          case rel =>
            exact ⟨i, j + 1, cu, rfl, by go_num, by omega, by omega, by omega, ⟨HJ.out.2.1 hq⟩, ⟨(BW.out.block b (by simp; omega)).trans HC2.out⟩, ⟨grown_below HG2.out BW.out⟩⟩
      · obtain rfl : j = ys.length := by omega
        have hltz : ¬ (ys.length : Int) < (ys.length : Int) := by omega
        obtain ⟨m, hm⟩ : ∃ m, ys.length - i = m + 1 := ⟨ys.length - i - 1, by omega⟩
        have hz := zero_cells #[Value.slice none 0 0, Value.slice none 0 0, Value.int IntKind.i64 0, Value.int IntKind.i64 0, Value.int IntKind.i64 0] 5 rfl rfl (by omega) (m + 1)
        have hroom : i * 5 + (m + 1) * 5 ≤ cu.length := by
          rw [HU.out.len, HZ.out]
          have := Nat.mul_le_mul_right 5 (show i + (m + 1) ≤ cap by omega)
          rw [Nat.add_mul] at this
          omega
        have hcl : ∀ ty, (Builtin.clear_ #[24] ty #[.slice (some ⟨b, i * 5, none⟩) (ys.length - i) (cap - i)]).run Try.prog wr = .ok (.tuple #[]) (wr.setCells b (i * 5) (Builtin.zeroCells #[Value.slice none 0 0, Value.slice none 0 0, Value.int IntKind.i64 0, Value.int IntKind.i64 0, Value.int IntKind.i64 0] (m + 1)).toList) := fun ty => by
          rw [hm]
          have hs := row_store (P := Try.prog) HC.out (i * 5) (Builtin.zeroCells #[Value.slice none 0 0, Value.slice none 0 0, Value.int IntKind.i64 0, Value.int IntKind.i64 0, Value.int IntKind.i64 0] (m + 1)).toList (by rw [hz.1]; exact hroom) hz.2
          simp [Builtin.clear_, run_underlying Try.underlying24, Try.zeroValue39, Value.cells, hs]
        clear hm
        go_wp2
        go_ret
        have hfi : (ys.filter fun y => !p y).length = i := by have := HU.out.hi; rw [List.take_of_length_le (Nat.le_refl _)] at this; exact this.symm
        have hzl : i * 5 + (Builtin.zeroCells #[Value.slice none 0 0, Value.slice none 0 0, Value.int IntKind.i64 0, Value.int IntKind.i64 0, Value.int IntKind.i64 0] (m + 1)).toList.length ≤ cu.length := by rw [hz.1]; exact hroom
        refine ⟨by rw [hfi]; rfl, grown_set HG.out _ _, over cu (i * 5) (Builtin.zeroCells #[Value.slice none 0 0, Value.slice none 0 0, Value.int IntKind.i64 0, Value.int IntKind.i64 0, Value.int IntKind.i64 0] (m + 1)).toList, heap_setCells _ (i * 5) wr cu HC.out hzl, by rw [over_len _ _ _ hzl, HU.out.len, HZ.out], ?_⟩
        rw [hfi]
        have hkept := HU.out.kept
        rw [List.take_of_length_le (Nat.le_refl _)] at hkept
        unfold over
        rw [List.append_assoc, List.take_append_of_le_length (by rw [List.length_take]; omega), List.take_of_length_le (by rw [List.length_take]; omega)]
        exact hkept
set_option maxHeartbeats 1000000 in
/-- .. at no slice: nothing. -/
theorem del_none (g : Nat) (lb : Array Value) (eg : ∀ args w, (callFunc g args).run Try.prog w = .ok (.enter g args) w) (w : World) :
    Calls Try.prog 33 #[.slice none 0 0, .func (.func g) #[] lb] w fun e w' => e = .returned (.slice none 0 0) ∧ Below w.heap.size w w' := by
  have h := index_row (α := Empty) LayD.indexBatch 5 Try.isAgg39 Try.sizeOf39 (fun y => nomatch y) (fun y => nomatch y) (fun y => nomatch y) g lb eg none 0 [] w (fun _ y => nomatch y) ⟨rfl, by simp, fun h => absurd h (by simp)⟩
  have HI := Aside0.mk (show Calls Try.prog 62 #[.slice none 0 0, .func (.func g) #[] lb] w fun e w' => e = .returned (.int .i64 (-1)) ∧ Below w.heap.size w w' from h)
  clear h
  go_enter Try.func33, Try.ntmps33
  go_wp2_with (go_at_call 62; refine HI.out.mono ?_; rintro e w' ⟨rfl, hB⟩)
  go_ret
  exact ⟨rfl, hB⟩
end Go.Proofs.Ytiodebjjbgcbhaa.DelB
