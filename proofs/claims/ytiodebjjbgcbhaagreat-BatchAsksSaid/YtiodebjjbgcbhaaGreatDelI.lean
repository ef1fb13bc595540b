import Derived.Test.YtiodebjjbgcbhaaGreatDelP
import Derived.Test.YtiodebjjbgcbhaaGreatWGuard
import Derived.Test.YtiodebjjbgcbhaaGreatLayI
namespace Go.Proofs.YtiodebjjbgcbhaaGreat.DelI
open Go.RowKit Go.Lib Go.Shelf Go.Proofs YtiodebjjbgcbhaaGreatW.PrintWords YtiodebjjbgcbhaaGreat RowK Fill FindQ DelB
attribute [local go_sem ↓ high] Wide.hv44
variable {β : Type}
set_option maxHeartbeats 4000000 in
set_option maxRecDepth 100000 in
theorem del_row (g : Nat) (lb : Array Value) (eg : ∀ args w, (callFunc g args).run Tryz.prog w = .ok (.enter g args) w) (p : β → Bool) (enc : β → List Value) (ys : List β) (hk : ∀ y ∈ ys, (enc y).length = 44) (h1 : ∀ y ∈ ys, ∀ v ∈ enc y, v.oneCell' = true)
 (b cap : Nat) (cur : List Value) (w : World) (hb : w.heap[b]? = some (.cells cur.toArray 38 (0, 0))) (hsz : cur.length = cap * 44) (hn : ys.length ≤ cap) (hcap : cap ≤ maxLen) (htake : cur.take (ys.length * 44) = ys.flatMap enc)
 (hp : ∀ W y, y ∈ ys → w.grownBy W (some b) → Calls Tryz.prog g (#[.agg (enc y).toArray] ++ lb) W fun e w' => e = .returned (.bool (p y)) ∧ Below W.heap.size W w') :
 Calls Tryz.prog 43 #[.slice (some ⟨b, 0, none⟩) ys.length cap, .func (.func g) #[] lb] w fun e w' => e = .returned (.slice (some ⟨b, 0, none⟩) (ys.filter fun y => !p y).length cap) ∧ w.grownBy w' (some b) ∧ ∃ cur' : List Value, w'.heap[b]? = some (.cells cur'.toArray 38 (0, 0)) ∧ cur'.length = cap * 44 ∧ cur'.take ((ys.filter fun y => !p y).length * 44) = (ys.filter fun y => !p y).flatMap enc := by
 unfold maxLen at hcap
 have hblt : b < w.heap.size := (Array.getElem?_eq_some_iff.1 hb).1
 have hIF : Calls Tryz.prog 73 #[.slice (some ⟨b, 0, none⟩) ys.length cap, .func (.func g) #[] lb] w fun e w' => e = .returned (.int .i64 (firstOf p ys)) ∧ Below w.heap.size w w' := by
  have h := index_row (α := {y // y ∈ ys}) LayI.indexInput 44 Tryz.isAgg38 Tryz.sizeOf38 (fun y => enc y.1) (fun y => hk y.1 y.2) (fun y => p y.1) g lb eg (some ⟨b, 0, none⟩) cap ys.attach w
   (fun W x hB => (hp W x.1 x.2 ⟨hB.os, hB.tape, hB.output, hB.size, fun k hk _ => hB.block k hk⟩).mono fun e w' ⟨he, hb'⟩ => ⟨he, ⟨hb'.os.trans hB.os |>.trans rfl |> fun h => h, hb'.tape.trans hB.tape, hb'.output.trans hB.output, Nat.le_trans hB.size hb'.size, fun k hk => (hb'.block k (Nat.lt_of_lt_of_le hk hB.size)).trans (hB.block k hk)⟩⟩)
   ⟨rfl, by rw [List.length_attach]; omega, fun _ => ⟨⟨b, 0, none⟩, rfl, fun j x hx => ⟨enc x.1, hk x.1 x.2, rfl, fun i u hu => by
    rw [Addr.add_lit, Nat.zero_add]
    have hj : j < ys.length := by have := (List.getElem?_eq_some_iff.1 hx).1; rwa [List.length_attach] at this
    have hxj : ys[j] = x.1 := by
     have := (List.getElem?_eq_some_iff.1 hx).2
     rw [List.getElem_attach] at this
     rw [← this]
    have hch := flat_chunk enc 44 ys hk j hj
    rw [← htake, hxj] at hch
    have hi : i < 44 := by have := (List.getElem?_eq_some_iff.1 hu).1; rwa [hk x.1 x.2] at this
    rw [← hch, List.getElem?_take_of_lt hi, List.getElem?_drop, List.getElem?_take_of_lt (by omega)] at hu
    exact cell_of_block hb _ _ hu⟩⟩⟩
  rwa [List.length_attach, firstOf_attach] at h
 have HP := Ak hp
 have HK := Ak hk
 have H1 := Ak h1
 have HB := Ak hb
 have HT := Ak htake
 have HZ := Ak hsz
 rcases firstOf_spec p ys with ⟨e1, hall⟩ | ⟨i0, hi0, e1, ht0, hbef⟩
 ·have hfil : (ys.filter fun y => !p y) = ys := List.filter_eq_self.2 fun y hy => by rw [hall y hy]; rfl
  rw [e1] at hIF
  have HI := Ak hIF
  clear hIF hp hk h1 hb htake e1 hsz
  have HF := Ak hfil
  clear hfil
  go_enter Tryz.func43, Tryz.ntmps43
  go_wp2_with (go_at_call 73; refine HI.1.mono ?_; rintro e w' ⟨rfl, hB⟩)
  go_ret
  rw [HF.1]
  exact ⟨rfl, ⟨hB.os, hB.tape, hB.output, hB.size, fun k hk _ => hB.block k hk⟩, cur, (hB.block b hblt).trans HB.1, HZ.1, HT.1⟩
 ·rw [e1] at hIF
  have HI := Ak hIF
  have hU0 : Under enc 44 p ys cur cur i0 (i0 + 1) := by
   have hall : ((ys.take i0).filter fun y => !p y) = ys.take i0 := List.filter_eq_self.2 fun y hy => by
    obtain ⟨j, hj, rfl⟩ := List.mem_iff_getElem.1 hy
    rw [List.getElem_take]
    rw [hbef j (by rw [List.length_take] at hj; omega) (by rw [List.length_take] at hj; omega)]; rfl
   refine Under.skip ⟨by omega, by rw [hall, List.length_take]; omega, rfl, ?_, rfl⟩ hi0 ht0
   rw [hall]
   have : cur.take (i0 * 44) = (cur.take (ys.length * 44)).take (i0 * 44) := by rw [List.take_take]; congr 1; omega
   rw [this, htake]
   have e : ys.flatMap enc = (ys.take i0).flatMap enc ++ (ys.drop i0).flatMap enc := by rw [← List.flatMap_append, List.take_append_drop]
   rw [e, List.take_left' (by rw [flat_len' enc 44 _ (fun y hy => hk y (List.mem_of_mem_take hy)), List.length_take]; omega)]
  have HU0 := Ak hU0
  clear hIF hp hk h1 hb htake e1 ht0 hbef hU0 hsz
  go_enter Tryz.func43, Tryz.ntmps43
  go_wp2_with (go_at_call 73; refine HI.1.mono ?_; rintro e w' ⟨rfl, hB⟩; have GB := Ak hB; clear hB)
  go_loopg [5, 6, 7] ys.length (fun gg s5 s6 _ wr => ∃ (i j : Nat) (cu : List Value), s5 = .int .i64 i ∧ s6 = .int .i64 j ∧ ys.length - j ≤ gg ∧ j ≤ ys.length ∧ i < j ∧ Aside0 (Under enc 44 p ys cur cu i j) ∧ Aside0 (wr.heap[b]? = some (.cells cu.toArray 38 (0, 0))) ∧ Aside0 (w.grownBy wr (some b)))
  case atStart => exact ⟨i0, i0 + 1, cur, rfl, by go_num, by omega, by omega, by omega, HU0, ⟨(GB.1.block b hblt).trans HB.1⟩, ⟨⟨GB.1.os, GB.1.tape, GB.1.output, GB.1.size, fun k hk _ => GB.1.block k hk⟩⟩⟩
  case round =>
   obtain ⟨i, j, cu, rfl, rfl, hgg, hjn, hij, HU, HC, HG⟩ := hrel
   by_cases hlt : j < ys.length
   ·have hltz : (j : Int) < (ys.length : Int) := by omega
    have hmem := List.getElem_mem hlt
    have hch : (cu.drop (j * 44)).take 44 = enc ys[j] := by
     have h2 := flat_chunk enc 44 ys HK.1 j hlt
     rw [← HT.1] at h2
     rw [HU.out.rest, ← h2, List.drop_take, List.take_take]
     congr 1
     omega
    have hld : Sem.run Tryz.prog (Wide.heavy0 ⟨b, j * 44, none⟩ 44) wr = .ok (enc ys[j]).toArray wr := row_load HC.out (j * 44) 44 _ (HK.1 _ hmem) hch
    have hst := run_fill Tryz.prog wr #[Value.int .u8 0, Value.int .u8 0, Value.int .u8 0, Value.int .u8 0, Value.int .u8 0, Value.int .u8 0, Value.int .u8 0, Value.int .u8 0, Value.int .u8 0, Value.int .u8 0, Value.int .u8 0, Value.int .u8 0, Value.int .u8 0, Value.int .u8 0, Value.int .u8 0, Value.int .u8 0, Value.int .u8 0, Value.int .u8 0, Value.int .u8 0, Value.int .u8 0, Value.int .u8 0, Value.int .u8 0, Value.int .u8 0, Value.int .u8 0, Value.int .u8 0, Value.int .u8 0, Value.int .u8 0, Value.int .u8 0, Value.int .u8 0, Value.int .u8 0, Value.int .u8 0, Value.int .u8 0, Value.int .i64 0, Value.int .i64 0, Value.int .i64 0, Value.int .i64 0, Value.string { data := #[] }, Value.int .i64 0, Value.int .i64 0, Value.int .i64 0, Value.int .i64 0, Value.int .i64 0, Value.int .i64 0, Value.int .i64 0] 38 (enc ys[j]) (by simp [HK.1 _ hmem]) (H1.1 _ hmem)
    have hblt2 : b < wr.heap.size := (Array.getElem?_eq_some_iff.1 HC.out).1
    have hnew := blk_new wr (.cells (enc ys[j]).toArray 38)
    have hld2 : Sem.run Tryz.prog (Wide.heavy0 ⟨wr.heap.size, 0, none⟩ 44) (wr.alloc (.cells (enc ys[j]).toArray 38)) = .ok (enc ys[j]).toArray (wr.alloc (.cells (enc ys[j]).toArray 38)) := row_load hnew 0 44 _ (HK.1 _ hmem) (by rw [List.drop_zero, List.take_of_length_le (by rw [HK.1 _ hmem]; exact Nat.le_refl _)])
    have hg2 : w.grownBy (wr.alloc (.cells (enc ys[j]).toArray 38)) (some b) := ⟨HG.out.os, HG.out.tape, HG.out.output, Nat.le_trans HG.out.size (by simp), fun k hk hne => (Below.heap_alloc _ _ k (Nat.lt_of_lt_of_le hk HG.out.size)).trans (HG.out.block k hk hne)⟩
    have HCall := Ak (HP.1 _ ys[j] hmem hg2)
    have hc2 : (wr.alloc (.cells (enc ys[j]).toArray 38)).heap[b]? = some (.cells cu.toArray 38 (0, 0)) := (Below.heap_alloc _ _ b hblt2).trans HC.out
    have HC2 := Ak hc2
    have HNEW := Ak hnew
    have HG2 := Ak hg2
    have hly := HK.1 _ hmem
    have HLY := Ak hly
    have H1Y := Ak (H1.1 _ hmem)
    have HJ := Ak (show j < ys.length ∧ (p ys[j] = true → Under enc 44 p ys cur cu i (j + 1)) ∧ (p ys[j] = false → Under enc 44 p ys cur (over cu (i * 44) (enc ys[j])) (i + 1) (j + 1)) from ⟨hlt, fun h => HU.out.skip hlt h, fun h => HU.out.keep HK.1 (by rw [HZ.1]; exact Nat.mul_le_mul_right _ hn) hlt h⟩)
    clear hch hc2 hnew hg2 hmem
    generalize ys[j] = y at hld hst hld2 HCall HC2 HNEW HG2 hly HLY H1Y HJ
    generalize enc y = cs at hld hst hld2 HCall HC2 HNEW HG2 hly HLY H1Y HJ
    cases hq : p y with
    | false =>
     rw [hq] at HCall
     have hroom : i * 44 + cs.length ≤ cu.length := by
      rw [HLY.1, HU.out.len, HZ.1]
      have := Nat.mul_le_mul_right 44 (show i + 1 ≤ cap by omega)
      omega
     go_wp2_with (go_at_fn g; refine HCall.1.mono ?_; rintro e w' ⟨rfl, hb'⟩; have BW := Ak hb'; have hld3 : Sem.run Tryz.prog (Wide.heavy0 ⟨wr.heap.size, 0, none⟩ 44) w' = .ok cs.toArray w' := row_load ((hb'.block _ (by simp)).trans HNEW.1) 0 44 cs HLY.1 (by rw [List.drop_zero, List.take_of_length_le (by rw [HLY.1]; exact Nat.le_refl _)]); have hst3 : Sem.run Tryz.prog (storeCells ⟨b, i * 44, none⟩ cs 0) w' = .ok () (w'.setCells b (i * 44) cs) := row_store ((hb'.block b (by simp; omega)).trans HC2.1) (i * 44) cs hroom H1Y.1; clear hld hst hld2 hb')
     go_roundg (ys.length - (j + 1))
     case measure => omega
     case rel =>
      exact ⟨i + 1, j + 1, over cu (i * 44) cs, by go_num, by go_num, by omega, by omega, by omega, ⟨HJ.1.2.2 hq⟩, ⟨heap_setCells cs (i * 44) w' cu ((BW.1.block b (by simp; omega)).trans HC2.1) hroom⟩, ⟨grown_set (grown_below HG2.1 BW.1) _ _⟩⟩
    | true =>
     rw [hq] at HCall
     go_wp2_with (go_at_fn g; refine HCall.1.mono ?_; rintro e w' ⟨rfl, hb'⟩; have BW := Ak hb'; clear hld hst hld2 hb')
     go_roundg (ys.length - (j + 1))
     case measure => omega
     case rel =>
      exact ⟨i, j + 1, cu, rfl, by go_num, by omega, by omega, by omega, ⟨HJ.1.2.1 hq⟩, ⟨(BW.1.block b (by simp; omega)).trans HC2.1⟩, ⟨grown_below HG2.1 BW.1⟩⟩
   ·obtain rfl : j = ys.length := by omega
    have hltz : ¬ (ys.length : Int) < (ys.length : Int) := by omega
    obtain ⟨m, hm⟩ : ∃ m, ys.length - i = m + 1 := ⟨ys.length - i - 1, by omega⟩
    have hz := zero_cells #[Value.int .u8 0, Value.int .u8 0, Value.int .u8 0, Value.int .u8 0, Value.int .u8 0, Value.int .u8 0, Value.int .u8 0, Value.int .u8 0, Value.int .u8 0, Value.int .u8 0, Value.int .u8 0, Value.int .u8 0, Value.int .u8 0, Value.int .u8 0, Value.int .u8 0, Value.int .u8 0, Value.int .u8 0, Value.int .u8 0, Value.int .u8 0, Value.int .u8 0, Value.int .u8 0, Value.int .u8 0, Value.int .u8 0, Value.int .u8 0, Value.int .u8 0, Value.int .u8 0, Value.int .u8 0, Value.int .u8 0, Value.int .u8 0, Value.int .u8 0, Value.int .u8 0, Value.int .u8 0, Value.int .i64 0, Value.int .i64 0, Value.int .i64 0, Value.int .i64 0, Value.string { data := #[] }, Value.int .i64 0, Value.int .i64 0, Value.int .i64 0, Value.int .i64 0, Value.int .i64 0, Value.int .i64 0, Value.int .i64 0] 44 rfl rfl (by omega) (m + 1)
    have hroom : i * 44 + (m + 1) * 44 ≤ cu.length := by
     rw [HU.out.len, HZ.1]
     have := Nat.mul_le_mul_right 44 (show i + (m + 1) ≤ cap by omega)
     rw [Nat.add_mul] at this
     omega
    have hcl : ∀ ty, (Builtin.clear_ #[25] ty #[.slice (some ⟨b, i * 44, none⟩) (ys.length - i) (cap - i)]).run Tryz.prog wr = .ok (.tuple #[]) (wr.setCells b (i * 44) (Builtin.zeroCells #[Value.int .u8 0, Value.int .u8 0, Value.int .u8 0, Value.int .u8 0, Value.int .u8 0, Value.int .u8 0, Value.int .u8 0, Value.int .u8 0, Value.int .u8 0, Value.int .u8 0, Value.int .u8 0, Value.int .u8 0, Value.int .u8 0, Value.int .u8 0, Value.int .u8 0, Value.int .u8 0, Value.int .u8 0, Value.int .u8 0, Value.int .u8 0, Value.int .u8 0, Value.int .u8 0, Value.int .u8 0, Value.int .u8 0, Value.int .u8 0, Value.int .u8 0, Value.int .u8 0, Value.int .u8 0, Value.int .u8 0, Value.int .u8 0, Value.int .u8 0, Value.int .u8 0, Value.int .u8 0, Value.int .i64 0, Value.int .i64 0, Value.int .i64 0, Value.int .i64 0, Value.string { data := #[] }, Value.int .i64 0, Value.int .i64 0, Value.int .i64 0, Value.int .i64 0, Value.int .i64 0, Value.int .i64 0, Value.int .i64 0] (m + 1)).toList) := fun ty => by
     rw [hm]
     have hs := row_store (P := Tryz.prog) HC.out (i * 44) (Builtin.zeroCells #[Value.int .u8 0, Value.int .u8 0, Value.int .u8 0, Value.int .u8 0, Value.int .u8 0, Value.int .u8 0, Value.int .u8 0, Value.int .u8 0, Value.int .u8 0, Value.int .u8 0, Value.int .u8 0, Value.int .u8 0, Value.int .u8 0, Value.int .u8 0, Value.int .u8 0, Value.int .u8 0, Value.int .u8 0, Value.int .u8 0, Value.int .u8 0, Value.int .u8 0, Value.int .u8 0, Value.int .u8 0, Value.int .u8 0, Value.int .u8 0, Value.int .u8 0, Value.int .u8 0, Value.int .u8 0, Value.int .u8 0, Value.int .u8 0, Value.int .u8 0, Value.int .u8 0, Value.int .u8 0, Value.int .i64 0, Value.int .i64 0, Value.int .i64 0, Value.int .i64 0, Value.string { data := #[] }, Value.int .i64 0, Value.int .i64 0, Value.int .i64 0, Value.int .i64 0, Value.int .i64 0, Value.int .i64 0, Value.int .i64 0] (m + 1)).toList (by rw [hz.1]; exact hroom) hz.2
     simp [Builtin.clear_, run_underlying Tryz.underlying25, Tryz.zeroValue38, Value.cells, hs]
    clear hm
    go_wp2
    go_ret
    have hfi : (ys.filter fun y => !p y).length = i := by have := HU.out.hi; rw [List.take_of_length_le (Nat.le_refl _)] at this; exact this.symm
    have hzl : i * 44 + (Builtin.zeroCells #[Value.int .u8 0, Value.int .u8 0, Value.int .u8 0, Value.int .u8 0, Value.int .u8 0, Value.int .u8 0, Value.int .u8 0, Value.int .u8 0, Value.int .u8 0, Value.int .u8 0, Value.int .u8 0, Value.int .u8 0, Value.int .u8 0, Value.int .u8 0, Value.int .u8 0, Value.int .u8 0, Value.int .u8 0, Value.int .u8 0, Value.int .u8 0, Value.int .u8 0, Value.int .u8 0, Value.int .u8 0, Value.int .u8 0, Value.int .u8 0, Value.int .u8 0, Value.int .u8 0, Value.int .u8 0, Value.int .u8 0, Value.int .u8 0, Value.int .u8 0, Value.int .u8 0, Value.int .u8 0, Value.int .i64 0, Value.int .i64 0, Value.int .i64 0, Value.int .i64 0, Value.string { data := #[] }, Value.int .i64 0, Value.int .i64 0, Value.int .i64 0, Value.int .i64 0, Value.int .i64 0, Value.int .i64 0, Value.int .i64 0] (m + 1)).toList.length ≤ cu.length := by rw [hz.1]; exact hroom
    refine ⟨by rw [hfi]; rfl, grown_set HG.out _ _, over cu (i * 44) (Builtin.zeroCells #[Value.int .u8 0, Value.int .u8 0, Value.int .u8 0, Value.int .u8 0, Value.int .u8 0, Value.int .u8 0, Value.int .u8 0, Value.int .u8 0, Value.int .u8 0, Value.int .u8 0, Value.int .u8 0, Value.int .u8 0, Value.int .u8 0, Value.int .u8 0, Value.int .u8 0, Value.int .u8 0, Value.int .u8 0, Value.int .u8 0, Value.int .u8 0, Value.int .u8 0, Value.int .u8 0, Value.int .u8 0, Value.int .u8 0, Value.int .u8 0, Value.int .u8 0, Value.int .u8 0, Value.int .u8 0, Value.int .u8 0, Value.int .u8 0, Value.int .u8 0, Value.int .u8 0, Value.int .u8 0, Value.int .i64 0, Value.int .i64 0, Value.int .i64 0, Value.int .i64 0, Value.string { data := #[] }, Value.int .i64 0, Value.int .i64 0, Value.int .i64 0, Value.int .i64 0, Value.int .i64 0, Value.int .i64 0, Value.int .i64 0] (m + 1)).toList, heap_setCells _ (i * 44) wr cu HC.out hzl, by rw [over_len _ _ _ hzl, HU.out.len, HZ.1], ?_⟩
    rw [hfi]
    have hkept := HU.out.kept
    rw [List.take_of_length_le (Nat.le_refl _)] at hkept
    unfold over
    rw [List.append_assoc, List.take_append_of_le_length (by rw [List.length_take]; omega), List.take_of_length_le (by rw [List.length_take]; omega)]
    exact hkept
set_option maxHeartbeats 1000000 in
theorem del_none (g : Nat) (lb : Array Value) (eg : ∀ args w, (callFunc g args).run Tryz.prog w = .ok (.enter g args) w) (w : World) :
 Calls Tryz.prog 43 #[.slice none 0 0, .func (.func g) #[] lb] w fun e w' => e = .returned (.slice none 0 0) ∧ Below w.heap.size w w' := by
 have h := index_row (α := Empty) LayI.indexInput 44 Tryz.isAgg38 Tryz.sizeOf38 (fun y => nomatch y) (fun y => nomatch y) (fun y => nomatch y) g lb eg none 0 [] w (fun _ y => nomatch y) ⟨rfl, by simp, fun h => absurd h (by simp)⟩
 have HI := Ak (show Calls Tryz.prog 73 #[.slice none 0 0, .func (.func g) #[] lb] w fun e w' => e = .returned (.int .i64 (-1)) ∧ Below w.heap.size w w' from h)
 clear h
 go_enter Tryz.func43, Tryz.ntmps43
 go_wp2_with (go_at_call 73; refine HI.1.mono ?_; rintro e w' ⟨rfl, hB⟩)
 go_ret
 exact ⟨rfl, hB⟩
end Go.Proofs.YtiodebjjbgcbhaaGreat.DelI
