/- slices.DeleteFunc at inputs (44 cells), in a row of the caller's own. -/
import Derived.Test.YtiodebjjbgcbhaaDelB
import Derived.Test.YtiodebjjbgcbhaaWGuard
import Derived.Test.YtiodebjjbgcbhaaLayI
namespace Go.Proofs.Ytiodebjjbgcbhaa.DelI
open Go.RowKit Go.Lib Go.Shelf Go.Proofs.YtiodebjjbgcbhaaW.PrintWords Go.Proofs.Ytiodebjjbgcbhaa.RowK Go.Proofs.Ytiodebjjbgcbhaa.Fill Go.Proofs.Ytiodebjjbgcbhaa.FindQ Go.Proofs.Ytiodebjjbgcbhaa.DelB
attribute [local go_sem ↓ high] Wide.hv44
variable {β : Type}
set_option maxHeartbeats 4000000 in
set_option maxRecDepth 100000 in
theorem del_row (g : Nat) (lb : Array Value) (eg : ∀ args w, (callFunc g args).run Try.prog w = .ok (.enter g args) w) (p : β → Bool) (enc : β → List Value) (ys : List β) (hk : ∀ y ∈ ys, (enc y).length = 44) (h1 : ∀ y ∈ ys, ∀ v ∈ enc y, v.oneCell' = true)
 (b cap : Nat) (cur : List Value) (w : World) (hb : w.heap[b]? = some (.cells cur.toArray 90 (0, 0))) (hsz : cur.length = cap * 44) (hn : ys.length ≤ cap) (hcap : cap ≤ maxLen) (htake : cur.take (ys.length * 44) = ys.flatMap enc)
 (hp : ∀ W y, y ∈ ys → w.grownBy W (some b) → Calls Try.prog g (#[.agg (enc y).toArray] ++ lb) W fun e w' => e = .returned (.bool (p y)) ∧ Below W.heap.size W w') :
 Calls Try.prog 51 #[.slice (some ⟨b, 0, none⟩) ys.length cap, .func (.func g) #[] lb] w fun e w' => e = .returned (.slice (some ⟨b, 0, none⟩) (ys.filter fun y => !p y).length cap) ∧ w.grownBy w' (some b) ∧ ∃ cur' : List Value, w'.heap[b]? = some (.cells cur'.toArray 90 (0, 0)) ∧ cur'.length = cap * 44 ∧ cur'.take ((ys.filter fun y => !p y).length * 44) = (ys.filter fun y => !p y).flatMap enc := by
 unfold maxLen at hcap
 have hblt : b < w.heap.size := (Array.getElem?_eq_some_iff.1 hb).1
 -- the search
 have hIF : Calls Try.prog 74 #[.slice (some ⟨b, 0, none⟩) ys.length cap, .func (.func g) #[] lb] w fun e w' => e = .returned (.int .i64 (firstOf p ys)) ∧ Below w.heap.size w w' := by
  have h := index_row (α := {y // y ∈ ys}) LayI.indexInput 44 Try.isAgg90 Try.sizeOf90 (fun y => enc y.1) (fun y => hk y.1 y.2) (fun y => p y.1) g lb eg (some ⟨b, 0, none⟩) cap ys.attach w
   (fun W x hB => (hp W x.1 x.2 ⟨hB.os, hB.tape, hB.output, hB.size, fun k hk _ => hB.block k hk⟩).mono fun e w' ⟨he, hb'⟩ => ⟨he, ⟨hb'.os.trans hB.os |>.trans rfl |> fun h => h, hb'.tape.trans hB.tape, hb'.output.trans hB.output, Nat.le_trans hB.size hb'.size, fun k hk => (hb'.block k (Nat.lt_of_lt_of_le hk hB.size)).trans (hB.block k hk)⟩⟩)
   ⟨rfl, by rw [List.length_attach]; omega, fun _ => ⟨⟨b, 0, none⟩, rfl, fun j x hx => ⟨enc x.1, hk x.1 x.2, rfl, fun i u hu => by
    rw [Addr.add_lit, Nat.zero_add]
    have hj : j < ys.length := by have := (List.getElem?_eq_some_iff.1 hx).1; rwa [List.length_attach] at this
    have hxj : ys[j] = x.1 := by
     have := (List.getElem?_eq_some_iff.1 hx).2
     rw [List.getElem_attach] at this
     rw [← this]
    have hch := flat_chunk enc 44 ys hk j hj
    rw [← htake, hxj] at hch
    have hi : i < 44 := by have := (List.getElem?_eq_some_iff.1 hu).1; rwa [hk x.1 x.2] at this
    rw [← hch, List.getElem?_take_of_lt hi, List.getElem?_drop, List.getElem?_take_of_lt (by omega)] at hu
    exact cell_of_block hb _ _ hu⟩⟩⟩
  rwa [List.length_attach, firstOf_attach] at h
 have HP := Aside0.mk hp
 have HK := Aside0.mk hk
 have H1 := Aside0.mk h1
 have HB := Aside0.mk hb
 have HT := Aside0.mk htake
 have HZ := Aside0.mk hsz
 rcases firstOf_spec p ys with ⟨e1, hall⟩ | ⟨i0, hi0, e1, ht0, hbef⟩
 ·have hfil : (ys.filter fun y => !p y) = ys := List.filter_eq_self.2 fun y hy => by rw [hall y hy]; rfl
  rw [e1] at hIF
  have HI := Aside0.mk hIF
  clear hIF hp hk h1 hb htake e1 hsz
  have HF := Aside0.mk hfil
  clear hfil
  go_enter Try.func51, Try.ntmps51
  go_wp2_with (go_at_call 74; refine HI.out.mono ?_; rintro e w' ⟨rfl, hB⟩)
  go_ret
  rw [HF.out]
  exact ⟨rfl, ⟨hB.os, hB.tape, hB.output, hB.size, fun k hk _ => hB.block k hk⟩, cur, (hB.block b hblt).trans HB.out, HZ.out, HT.out⟩
 ·rw [e1] at hIF
  have HI := Aside0.mk hIF
  have hU0 : Under enc 44 p ys cur cur i0 (i0 + 1) := by
   have hall : ((ys.take i0).filter fun y => !p y) = ys.take i0 := List.filter_eq_self.2 fun y hy => by
    obtain ⟨j, hj, rfl⟩ := List.mem_iff_getElem.1 hy
    rw [List.getElem_take]
    rw [hbef j (by rw [List.length_take] at hj; omega) (by rw [List.length_take] at hj; omega)]; rfl
   refine Under.skip ⟨by omega, by rw [hall, List.length_take]; omega, rfl, ?_, rfl⟩ hi0 ht0
   rw [hall]
   have : cur.take (i0 * 44) = (cur.take (ys.length * 44)).take (i0 * 44) := by rw [List.take_take]; congr 1; omega
   rw [this, htake]
   have e : ys.flatMap enc = (ys.take i0).flatMap enc ++ (ys.drop i0).flatMap enc := by rw [← List.flatMap_append, List.take_append_drop]
   rw [e, List.take_left' (by rw [flat_len' enc 44 _ (fun y hy => hk y (List.mem_of_mem_take hy)), List.length_take]; omega)]
  have HU0 := Aside0.mk hU0
  clear hIF hp hk h1 hb htake e1 ht0 hbef hU0 hsz
  go_enter Try.func51, Try.ntmps51
  go_wp2_with (go_at_call 74; refine HI.out.mono ?_; rintro e w' ⟨rfl, hB⟩; have GB := Aside0.mk hB; clear hB)
  go_loopg [5, 6, 7] ys.length (fun gg s5 s6 _ wr => ∃ (i j : Nat) (cu : List Value), s5 = .int .i64 i ∧ s6 = .int .i64 j ∧ ys.length - j ≤ gg ∧ j ≤ ys.length ∧ i < j ∧ Aside0 (Under enc 44 p ys cur cu i j) ∧ Aside0 (wr.heap[b]? = some (.cells cu.toArray 90 (0, 0))) ∧ Aside0 (w.grownBy wr (some b)))
  case atStart => exact ⟨i0, i0 + 1, cur, rfl, by go_num, by omega, by omega, by omega, HU0, ⟨(GB.out.block b hblt).trans HB.out⟩, ⟨⟨GB.out.os, GB.out.tape, GB.out.output, GB.out.size, fun k hk _ => GB.out.block k hk⟩⟩⟩
  case round =>
   obtain ⟨i, j, cu, rfl, rfl, hgg, hjn, hij, HU, HC, HG⟩ := hrel
   by_cases hlt : j < ys.length
   ·have hltz : (j : Int) < (ys.length : Int) := by omega
    have hmem := List.getElem_mem hlt
    have hch : (cu.drop (j * 44)).take 44 = enc ys[j] := by
     have h2 := flat_chunk enc 44 ys HK.out j hlt
     rw [← HT.out] at h2
     rw [HU.out.rest, ← h2, List.drop_take, List.take_take]
     congr 1
     omega
    have hld : Sem.run Try.prog (Wide.heavy0 ⟨b, j * 44, none⟩ 44) wr = .ok (enc ys[j]).toArray wr := row_load HC.out (j * 44) 44 _ (HK.out _ hmem) hch
    have hst := run_fill Try.prog wr #[Value.int IntKind.u8 0, Value.int IntKind.u8 0, Value.int IntKind.u8 0, Value.int IntKind.u8 0, Value.int IntKind.u8 0, Value.int IntKind.u8 0, Value.int IntKind.u8 0, Value.int IntKind.u8 0, Value.int IntKind.u8 0, Value.int IntKind.u8 0, Value.int IntKind.u8 0, Value.int IntKind.u8 0, Value.int IntKind.u8 0, Value.int IntKind.u8 0, Value.int IntKind.u8 0, Value.int IntKind.u8 0, Value.int IntKind.u8 0, Value.int IntKind.u8 0, Value.int IntKind.u8 0, Value.int IntKind.u8 0, Value.int IntKind.u8 0, Value.int IntKind.u8 0, Value.int IntKind.u8 0, Value.int IntKind.u8 0, Value.int IntKind.u8 0, Value.int IntKind.u8 0, Value.int IntKind.u8 0, Value.int IntKind.u8 0, Value.int IntKind.u8 0, Value.int IntKind.u8 0, Value.int IntKind.u8 0, Value.int IntKind.u8 0, Value.int IntKind.i64 0, Value.int IntKind.i64 0, Value.int IntKind.i64 0, Value.int IntKind.i64 0, Value.string { data := #[] }, Value.int IntKind.i64 0, Value.int IntKind.i64 0, Value.int IntKind.i64 0, Value.int IntKind.i64 0, Value.int IntKind.i64 0, Value.int IntKind.i64 0, Value.int IntKind.i64 0] 90 (enc ys[j]) (by simp [HK.out _ hmem]) (H1.out _ hmem)
    have hblt2 : b < wr.heap.size := (Array.getElem?_eq_some_iff.1 HC.out).1
    have hnew := blk_new wr (.cells (enc ys[j]).toArray 90)
    have hld2 : Sem.run Try.prog (Wide.heavy0 ⟨wr.heap.size, 0, none⟩ 44) (wr.alloc (.cells (enc ys[j]).toArray 90)) = .ok (enc ys[j]).toArray (wr.alloc (.cells (enc ys[j]).toArray 90)) := row_load hnew 0 44 _ (HK.out _ hmem) (by rw [List.drop_zero, List.take_of_length_le (by rw [HK.out _ hmem]; exact Nat.le_refl _)])
    have hg2 : w.grownBy (wr.alloc (.cells (enc ys[j]).toArray 90)) (some b) := ⟨HG.out.os, HG.out.tape, HG.out.output, Nat.le_trans HG.out.size (by simp), fun k hk hne => (Below.heap_alloc _ _ k (Nat.lt_of_lt_of_le hk HG.out.size)).trans (HG.out.block k hk hne)⟩
    have HCall := Aside0.mk (HP.out _ ys[j] hmem hg2)
    have hc2 : (wr.alloc (.cells (enc ys[j]).toArray 90)).heap[b]? = some (.cells cu.toArray 90 (0, 0)) := (Below.heap_alloc _ _ b hblt2).trans HC.out
    have HC2 := Aside0.mk hc2
    have HNEW := Aside0.mk hnew
    have HG2 := Aside0.mk hg2
    have hly := HK.out _ hmem
    have HLY := Aside0.mk hly
    have H1Y := Aside0.mk (H1.out _ hmem)
    have HJ := Aside0.mk (show j < ys.length ∧ (p ys[j] = true → Under enc 44 p ys cur cu i (j + 1)) ∧ (p ys[j] = false → Under enc 44 p ys cur (over cu (i * 44) (enc ys[j])) (i + 1) (j + 1)) from ⟨hlt, fun h => HU.out.skip hlt h, fun h => HU.out.keep HK.out (by rw [HZ.out]; exact Nat.mul_le_mul_right _ hn) hlt h⟩)
    clear hch hc2 hnew hg2 hmem
    generalize ys[j] = y at hld hst hld2 HCall HC2 HNEW HG2 hly HLY H1Y HJ
    generalize enc y = cs at hld hst hld2 HCall HC2 HNEW HG2 hly HLY H1Y HJ
    cases hq : p y with
    | false =>
     rw [hq] at HCall
     have hroom : i * 44 + cs.length ≤ cu.length := by
      rw [HLY.out, HU.out.len, HZ.out]
      have := Nat.mul_le_mul_right 44 (show i + 1 ≤ cap by omega)
      omega
     go_wp2_with (go_at_fn g; refine HCall.out.mono ?_; rintro e w' ⟨rfl, hb'⟩; have BW := Aside0.mk hb'; have hld3 : Sem.run Try.prog (Wide.heavy0 ⟨wr.heap.size, 0, none⟩ 44) w' = .ok cs.toArray w' := row_load ((hb'.block _ (by simp)).trans HNEW.out) 0 44 cs HLY.out (by rw [List.drop_zero, List.take_of_length_le (by rw [HLY.out]; exact Nat.le_refl _)]); have hst3 : Sem.run Try.prog (storeCells ⟨b, i * 44, none⟩ cs 0) w' = .ok () (w'.setCells b (i * 44) cs) := row_store ((hb'.block b (by simp; omega)).trans HC2.out) (i * 44) cs hroom H1Y.out; clear hld hst hld2 hb')
     go_roundg (ys.length - (j + 1))
     case measure => omega
     case rel =>
      exact ⟨i + 1, j + 1, over cu (i * 44) cs, by go_num, by go_num, by omega, by omega, by omega, ⟨HJ.out.2.2 hq⟩, ⟨heap_setCells cs (i * 44) w' cu ((BW.out.block b (by simp; omega)).trans HC2.out) hroom⟩, ⟨grown_set (grown_below HG2.out BW.out) _ _⟩⟩
    | true =>
     rw [hq] at HCall
     go_wp2_with (go_at_fn g; refine HCall.out.mono ?_; rintro e w' ⟨rfl, hb'⟩; have BW := Aside0.mk hb'; clear hld hst hld2 hb')
     go_roundg (ys.length - (j + 1))
     case measure => omega
     case rel =>
      exact ⟨i, j + 1, cu, rfl, by go_num, by omega, by omega, by omega, ⟨HJ.out.2.1 hq⟩, ⟨(BW.out.block b (by simp; omega)).trans HC2.out⟩, ⟨grown_below HG2.out BW.out⟩⟩
   ·obtain rfl : j = ys.length := by omega
    have hltz : ¬ (ys.length : Int) < (ys.length : Int) := by omega
    obtain ⟨m, hm⟩ : ∃ m, ys.length - i = m + 1 := ⟨ys.length - i - 1, by omega⟩
    have hz := zero_cells #[Value.int IntKind.u8 0, Value.int IntKind.u8 0, Value.int IntKind.u8 0, Value.int IntKind.u8 0, Value.int IntKind.u8 0, Value.int IntKind.u8 0, Value.int IntKind.u8 0, Value.int IntKind.u8 0, Value.int IntKind.u8 0, Value.int IntKind.u8 0, Value.int IntKind.u8 0, Value.int IntKind.u8 0, Value.int IntKind.u8 0, Value.int IntKind.u8 0, Value.int IntKind.u8 0, Value.int IntKind.u8 0, Value.int IntKind.u8 0, Value.int IntKind.u8 0, Value.int IntKind.u8 0, Value.int IntKind.u8 0, Value.int IntKind.u8 0, Value.int IntKind.u8 0, Value.int IntKind.u8 0, Value.int IntKind.u8 0, Value.int IntKind.u8 0, Value.int IntKind.u8 0, Value.int IntKind.u8 0, Value.int IntKind.u8 0, Value.int IntKind.u8 0, Value.int IntKind.u8 0, Value.int IntKind.u8 0, Value.int IntKind.u8 0, Value.int IntKind.i64 0, Value.int IntKind.i64 0, Value.int IntKind.i64 0, Value.int IntKind.i64 0, Value.string { data := #[] }, Value.int IntKind.i64 0, Value.int IntKind.i64 0, Value.int IntKind.i64 0, Value.int IntKind.i64 0, Value.int IntKind.i64 0, Value.int IntKind.i64 0, Value.int IntKind.i64 0] 44 rfl rfl (by omega) (m + 1)
    have hroom : i * 44 + (m + 1) * 44 ≤ cu.length := by
     rw [HU.out.len, HZ.out]
     have := Nat.mul_le_mul_right 44 (show i + (m + 1) ≤ cap by omega)
     rw [Nat.add_mul] at this
     omega
    have hcl : ∀ ty, (Builtin.clear_ #[57] ty #[.slice (some ⟨b, i * 44, none⟩) (ys.length - i) (cap - i)]).run Try.prog wr = .ok (.tuple #[]) (wr.setCells b (i * 44) (Builtin.zeroCells #[Value.int IntKind.u8 0, Value.int IntKind.u8 0, Value.int IntKind.u8 0, Value.int IntKind.u8 0, Value.int IntKind.u8 0, Value.int IntKind.u8 0, Value.int IntKind.u8 0, Value.int IntKind.u8 0, Value.int IntKind.u8 0, Value.int IntKind.u8 0, Value.int IntKind.u8 0, Value.int IntKind.u8 0, Value.int IntKind.u8 0, Value.int IntKind.u8 0, Value.int IntKind.u8 0, Value.int IntKind.u8 0, Value.int IntKind.u8 0, Value.int IntKind.u8 0, Value.int IntKind.u8 0, Value.int IntKind.u8 0, Value.int IntKind.u8 0, Value.int IntKind.u8 0, Value.int IntKind.u8 0, Value.int IntKind.u8 0, Value.int IntKind.u8 0, Value.int IntKind.u8 0, Value.int IntKind.u8 0, Value.int IntKind.u8 0, Value.int IntKind.u8 0, Value.int IntKind.u8 0, Value.int IntKind.u8 0, Value.int IntKind.u8 0, Value.int IntKind.i64 0, Value.int IntKind.i64 0, Value.int IntKind.i64 0, Value.int IntKind.i64 0, Value.string { data := #[] }, Value.int IntKind.i64 0, Value.int IntKind.i64 0, Value.int IntKind.i64 0, Value.int IntKind.i64 0, Value.int IntKind.i64 0, Value.int IntKind.i64 0, Value.int IntKind.i64 0] (m + 1)).toList) := fun ty => by
     rw [hm]
     have hs := row_store (P := Try.prog) HC.out (i * 44) (Builtin.zeroCells #[Value.int IntKind.u8 0, Value.int IntKind.u8 0, Value.int IntKind.u8 0, Value.int IntKind.u8 0, Value.int IntKind.u8 0, Value.int IntKind.u8 0, Value.int IntKind.u8 0, Value.int IntKind.u8 0, Value.int IntKind.u8 0, Value.int IntKind.u8 0, Value.int IntKind.u8 0, Value.int IntKind.u8 0, Value.int IntKind.u8 0, Value.int IntKind.u8 0, Value.int IntKind.u8 0, Value.int IntKind.u8 0, Value.int IntKind.u8 0, Value.int IntKind.u8 0, Value.int IntKind.u8 0, Value.int IntKind.u8 0, Value.int IntKind.u8 0, Value.int IntKind.u8 0, Value.int IntKind.u8 0, Value.int IntKind.u8 0, Value.int IntKind.u8 0, Value.int IntKind.u8 0, Value.int IntKind.u8 0, Value.int IntKind.u8 0, Value.int IntKind.u8 0, Value.int IntKind.u8 0, Value.int IntKind.u8 0, Value.int IntKind.u8 0, Value.int IntKind.i64 0, Value.int IntKind.i64 0, Value.int IntKind.i64 0, Value.int IntKind.i64 0, Value.string { data := #[] }, Value.int IntKind.i64 0, Value.int IntKind.i64 0, Value.int IntKind.i64 0, Value.int IntKind.i64 0, Value.int IntKind.i64 0, Value.int IntKind.i64 0, Value.int IntKind.i64 0] (m + 1)).toList (by rw [hz.1]; exact hroom) hz.2
     simp [Builtin.clear_, run_underlying Try.underlying57, Try.zeroValue90, Value.cells, hs]
    clear hm
    go_wp2
    go_ret
    have hfi : (ys.filter fun y => !p y).length = i := by have := HU.out.hi; rw [List.take_of_length_le (Nat.le_refl _)] at this; exact this.symm
    have hzl : i * 44 + (Builtin.zeroCells #[Value.int IntKind.u8 0, Value.int IntKind.u8 0, Value.int IntKind.u8 0, Value.int IntKind.u8 0, Value.int IntKind.u8 0, Value.int IntKind.u8 0, Value.int IntKind.u8 0, Value.int IntKind.u8 0, Value.int IntKind.u8 0, Value.int IntKind.u8 0, Value.int IntKind.u8 0, Value.int IntKind.u8 0, Value.int IntKind.u8 0, Value.int IntKind.u8 0, Value.int IntKind.u8 0, Value.int IntKind.u8 0, Value.int IntKind.u8 0, Value.int IntKind.u8 0, Value.int IntKind.u8 0, Value.int IntKind.u8 0, Value.int IntKind.u8 0, Value.int IntKind.u8 0, Value.int IntKind.u8 0, Value.int IntKind.u8 0, Value.int IntKind.u8 0, Value.int IntKind.u8 0, Value.int IntKind.u8 0, Value.int IntKind.u8 0, Value.int IntKind.u8 0, Value.int IntKind.u8 0, Value.int IntKind.u8 0, Value.int IntKind.u8 0, Value.int IntKind.i64 0, Value.int IntKind.i64 0, Value.int IntKind.i64 0, Value.int IntKind.i64 0, Value.string { data := #[] }, Value.int IntKind.i64 0, Value.int IntKind.i64 0, Value.int IntKind.i64 0, Value.int IntKind.i64 0, Value.int IntKind.i64 0, Value.int IntKind.i64 0, Value.int IntKind.i64 0] (m + 1)).toList.length ≤ cu.length := by rw [hz.1]; exact hroom
    refine ⟨by rw [hfi]; rfl, grown_set HG.out _ _, over cu (i * 44) (Builtin.zeroCells #[Value.int IntKind.u8 0, Value.int IntKind.u8 0, Value.int IntKind.u8 0, Value.int IntKind.u8 0, Value.int IntKind.u8 0, Value.int IntKind.u8 0, Value.int IntKind.u8 0, Value.int IntKind.u8 0, Value.int IntKind.u8 0, Value.int IntKind.u8 0, Value.int IntKind.u8 0, Value.int IntKind.u8 0, Value.int IntKind.u8 0, Value.int IntKind.u8 0, Value.int IntKind.u8 0, Value.int IntKind.u8 0, Value.int IntKind.u8 0, Value.int IntKind.u8 0, Value.int IntKind.u8 0, Value.int IntKind.u8 0, Value.int IntKind.u8 0, Value.int IntKind.u8 0, Value.int IntKind.u8 0, Value.int IntKind.u8 0, Value.int IntKind.u8 0, Value.int IntKind.u8 0, Value.int IntKind.u8 0, Value.int IntKind.u8 0, Value.int IntKind.u8 0, Value.int IntKind.u8 0, Value.int IntKind.u8 0, Value.int IntKind.u8 0, Value.int IntKind.i64 0, Value.int IntKind.i64 0, Value.int IntKind.i64 0, Value.int IntKind.i64 0, Value.string { data := #[] }, Value.int IntKind.i64 0, Value.int IntKind.i64 0, Value.int IntKind.i64 0, Value.int IntKind.i64 0, Value.int IntKind.i64 0, Value.int IntKind.i64 0, Value.int IntKind.i64 0] (m + 1)).toList, heap_setCells _ (i * 44) wr cu HC.out hzl, by rw [over_len _ _ _ hzl, HU.out.len, HZ.out], ?_⟩
    rw [hfi]
    have hkept := HU.out.kept
    rw [List.take_of_length_le (Nat.le_refl _)] at hkept
    unfold over
    rw [List.append_assoc, List.take_append_of_le_length (by rw [List.length_take]; omega), List.take_of_length_le (by rw [List.length_take]; omega)]
    exact hkept
set_option maxHeartbeats 1000000 in
/-- .. at no slice: nothing. -/
theorem del_none (g : Nat) (lb : Array Value) (eg : ∀ args w, (callFunc g args).run Try.prog w = .ok (.enter g args) w) (w : World) :
 Calls Try.prog 51 #[.slice none 0 0, .func (.func g) #[] lb] w fun e w' => e = .returned (.slice none 0 0) ∧ Below w.heap.size w w' := by
 have h := index_row (α := Empty) LayI.indexInput 44 Try.isAgg90 Try.sizeOf90 (fun y => nomatch y) (fun y => nomatch y) (fun y => nomatch y) g lb eg none 0 [] w (fun _ y => nomatch y) ⟨rfl, by simp, fun h => absurd h (by simp)⟩
 have HI := Aside0.mk (show Calls Try.prog 74 #[.slice none 0 0, .func (.func g) #[] lb] w fun e w' => e = .returned (.int .i64 (-1)) ∧ Below w.heap.size w w' from h)
 clear h
 go_enter Try.func51, Try.ntmps51
 go_wp2_with (go_at_call 74; refine HI.out.mono ?_; rintro e w' ⟨rfl, hB⟩)
 go_ret
 exact ⟨rfl, hB⟩
end Go.Proofs.Ytiodebjjbgcbhaa.DelI
