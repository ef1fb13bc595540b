/- slices.Values, AppendSeq, Collect at outpoints: what is collected is what the slice holds, in memory of the call's own. Turned from the library's worked texts at numbers. -/
import Derived.RangeFuncNested
import Derived.RangeFuncBound
import Derived.RangeFuncCalls
import Derived.RangeFuncLeaves
import Derived.RangeFuncBox
import Derived.Shelf.Abstract
import Derived.Shelf.RegionOpen
import Derived.WalkKit
import Derived.OwnWalkIn
import Derived.TacticsInMore
import Derived.LoopNIn
import Derived.LoopIn
import Derived.Maps.AppendAt
import Derived.Test.YtmoecidfmgeafaaDoorWWords
import Derived.Test.YtmoecidfmgeafaaDoorProg
import Derived.Test.YtmoecidfmgeafaaDoorRowK
namespace Go.Proofs.YtmoecidfmgeafaaDoor.IterO
open Go.RowKit Go.Shelf Go.Proofs.YtmoecidfmgeafaaDoorW.PrintWords Go.Proofs.YtmoecidfmgeafaaDoor.RowK
attribute [local go_sem] Oper.semAt_some
attribute [local go_sem ↓ high] hv33
variable {α : Type} {enc : α → List Value}
/-- The slice's elements lie in a block below n₀, from an offset on; or there are none. -/
def Lies (enc : α → List Value) (n₀ : Nat) (W : World) (A : Option Addr) (zs : List α) : Prop :=
  zs = [] ∨ ∃ b off, A = some ⟨b, off, none⟩ ∧ b < n₀ ∧ ∀ j (h : j < zs.length) i v, (enc zs[j])[i]? = some v → W.cell? ⟨b, off + j * 33 + i, none⟩ = some v
theorem Lies.below {n₀ : Nat} {A B : World} (h : Below n₀ A B) {a : Option Addr} {zs : List α} : Lies enc n₀ A a zs → Lies enc n₀ B a zs
  | .inl e => .inl e
  | .inr ⟨b, off, e, hb, hc⟩ => .inr ⟨b, off, e, hb, fun j hj i v hi => (h.cell (p := ⟨b, off + j * 33 + i, none⟩) hb).trans (hc j hj i v hi)⟩
theorem take_snoc' (zs : List α) (k : Nat) (h : k < zs.length) : zs.take (k + 1) = zs.take k ++ [zs[k]] := by
  rw [List.take_succ_eq_append_getElem h]
theorem fold_fill : ∀ (cs : List Value) (z : List Value) (k : Nat), k + cs.length ≤ z.length → (cs.zipIdx k).foldl (fun (a : Array Value) x => a.setIfInBounds x.2 x.1) z.toArray = (over z k cs).toArray
  | [], z, k, _ => by rw [over_nil]; rfl
  | c :: cs, z, k, h => by
    simp only [List.length_cons] at h
    rw [List.zipIdx_cons, List.foldl_cons]
    show List.foldl _ (z.toArray.setIfInBounds k c) _ = _
    rw [show z.toArray.setIfInBounds k c = (z.set k c).toArray by simp, fold_fill cs (z.set k c) (k + 1) (by rw [List.length_set]; omega), over_cons _ _ _ _ (by omega)]
theorem fold_all (cs : List Value) (z : Array Value) (h : z.size = cs.length) : cs.zipIdx.foldl (fun (a : Array Value) x => a.setIfInBounds x.2 x.1) z = cs.toArray := by
  have := fold_fill cs z.toList 0 (by simp [h])
  rw [Array.toArray_toList] at this
  rw [this]
  congr 1
  simp [over, h]
theorem world_eq {a b : World} (h1 : a.heap = b.heap) (h2 : a.tape = b.tape) (h3 : a.drawn = b.drawn) (h4 : a.os = b.os) (h5 : a.output = b.output) : a = b := by
  cases a; cases b; simp only [World.mk.injEq] at *; exact ⟨h1, h2, h3, h4, h5⟩
theorem setCells_drawn (b : Nat) : ∀ (vs : List Value) (o : Nat) (w : World), (w.setCells b o vs).drawn = w.drawn
  | [], _, _ => rfl
  | v :: vs, o, w => setCells_drawn b vs (o + 1) (w.setCell ⟨b, o, none⟩ v)
theorem setCells_size (b : Nat) : ∀ (vs : List Value) (o : Nat) (w : World), (w.setCells b o vs).heap.size = w.heap.size
  | [], _, _ => rfl
  | v :: vs, o, w => (setCells_size b vs (o + 1) (w.setCell ⟨b, o, none⟩ v)).trans (by show (w.heap.modify b _).size = _; rw [Array.size_modify])
theorem run_fill (P : Program) (W : World) (z : Array Value) (t : TypeId) (cs : List Value) (hz : z.size = cs.length) (h1 : ∀ v ∈ cs, v.oneCell' = true) :
    (storeCells ⟨W.heap.size, 0, none⟩ cs 0).run P (W.alloc (.cells z t)) = .ok () (W.alloc (.cells cs.toArray t)) := by
  have hb : (W.alloc (.cells z t)).heap[W.heap.size]? = some (.cells z.toList.toArray t (0, 0)) := by rw [Array.toArray_toList]; exact World.alloc_heap_new W _
  rw [row_store hb 0 cs (by simp [hz]) h1]
  congr 1
  have h2 := heap_setCells cs 0 _ _ hb (by simp [hz])
  have h3 := grown_setCells W.heap.size cs 0 (W.alloc (.cells z t))
  have e : over z.toList 0 cs = cs := by simp [over, hz]
  rw [e] at h2
  refine world_eq ?_ h3.tape (setCells_drawn _ _ _ _) h3.os h3.output
  have hs := setCells_size W.heap.size cs 0 (W.alloc (.cells z t))
  apply Array.ext_getElem?
  intro k
  by_cases hk : k < W.heap.size
  · rw [h3.block k (by simp; omega) (by simp; omega), Below.heap_alloc _ _ _ hk, Below.heap_alloc _ _ _ hk]
  · by_cases hk2 : k = W.heap.size
    · subst hk2
      rw [h2, World.alloc_heap_new]
    · rw [Array.getElem?_eq_none (by rw [hs]; simp; omega), Array.getElem?_eq_none (by simp; omega)]
set_option maxRecDepth 100000 in
set_option maxHeartbeats 4000000 in
/-- slices.Values' closure, for every loop body that keeps what lay below n₀. -/
theorem values1 (hk : ∀ x, (enc x).length = 33) (h1 : ∀ x, ∀ v ∈ enc x, v.oneCell' = true) (F : Fence) (n : Nat) (hf : F.fn 48) (hro : F.round = none) (hn : 1 ≤ n) (l Bs n₀ b off cap : Nat) (zs : List α) (hlen : zs.length ≤ 4611686018427387904) (hb : b < n₀) (J Jx : List α → World → Prop)
    (W : World) (hn₀ : n₀ ≤ W.heap.size) (hJ : AbidesFrom W.heap.size J)
    (hY : ∀ pre x W, J pre W → pre.length < zs.length → YieldAt F (n - 1) Tryd.prog l #[.agg (enc x).toArray] W fun e W' =>
      (e = .returned (.bool true) ∧ J (pre ++ [x]) W' ∧ Below n₀ W W') ∨ (e = .returned (.bool false) ∧ Jx (pre ++ [x]) W'))
    (hBs : W.cell? ⟨Bs, 0, none⟩ = some (.slice (some ⟨b, off, none⟩) zs.length cap)) (hc : ∀ j (h : j < zs.length) i v, (enc zs[j])[i]? = some v → W.cell? ⟨b, off + j * 33 + i, none⟩ = some v) (h0 : J [] W) :
    CallsIn F n Tryd.prog 48 #[.func (.yield l) #[] #[], .pointer (some ⟨Bs, 0, none⟩)] W fun e W' => (∃ v, e = .returned v) ∧ (J zs W' ∨ ∃ pre, pre <+: zs ∧ Jx pre W') := by
  refine callsIn_of_wp Tryd.func48 rfl hf ?_ hro
  simp only [Tryd.ntmps48, List.size_toArray, List.length_cons, List.length_nil, Nat.reduceAdd, Nat.reduceSub, Array.replicate_succ, Array.replicate_zero, List.push_toArray, List.append_toArray, List.nil_append, List.cons_append]
  gi_wp2
  gi_loopw [7] (fun i wr => ∃ k : Nat, k ≤ zs.length ∧ i = .int .i64 k ∧ J (zs.take k) wr ∧ Below n₀ W wr ∧ W.heap.size ≤ wr.heap.size)
    (fun i _ => zs.length - (intOf i).toNat)
  case atStart => exact ⟨0, Nat.zero_le _, rfl, by simpa using h0, Below.refl _ _, Nat.le_refl _⟩
  case round =>
    obtain ⟨k, hk', rfl, hJs, hnx, hsz⟩ := hrel
    by_cases hlt : k < zs.length
    · have hld : Sem.run Tryd.prog (heavy0 ⟨b, off + k * 33, none⟩ 33) wr = .ok (enc zs[k]).toArray wr :=
        load_at _ _ _ _ 33 (hk _) (fun i v hi => by rw [Addr.add_lit]; exact (hnx.cell (p := ⟨b, off + k * 33 + i, none⟩) hb).trans (hc k hlt i v hi))
      have hst := run_fill Tryd.prog wr #[Value.int IntKind.u8 0, Value.int IntKind.u8 0, Value.int IntKind.u8 0, Value.int IntKind.u8 0, Value.int IntKind.u8 0, Value.int IntKind.u8 0, Value.int IntKind.u8 0, Value.int IntKind.u8 0, Value.int IntKind.u8 0, Value.int IntKind.u8 0, Value.int IntKind.u8 0, Value.int IntKind.u8 0, Value.int IntKind.u8 0, Value.int IntKind.u8 0, Value.int IntKind.u8 0, Value.int IntKind.u8 0, Value.int IntKind.u8 0, Value.int IntKind.u8 0, Value.int IntKind.u8 0, Value.int IntKind.u8 0, Value.int IntKind.u8 0, Value.int IntKind.u8 0, Value.int IntKind.u8 0, Value.int IntKind.u8 0, Value.int IntKind.u8 0, Value.int IntKind.u8 0, Value.int IntKind.u8 0, Value.int IntKind.u8 0, Value.int IntKind.u8 0, Value.int IntKind.u8 0, Value.int IntKind.u8 0, Value.int IntKind.u8 0, Value.int IntKind.i64 0] 25 (enc zs[k]) (by simp [hk]) (h1 _)
      have hJ2 : J (zs.take k) (wr.alloc (.cells (enc zs[k]).toArray 25)) := hJ _ wr _ none hJs (World.grownBy_alloc wr _ none) (by simp)
      have hld2 : Sem.run Tryd.prog (heavy0 ⟨wr.heap.size, 0, none⟩ 33) (wr.alloc (.cells (enc zs[k]).toArray 25)) = .ok (enc zs[k]).toArray (wr.alloc (.cells (enc zs[k]).toArray 25)) := row_load (World.alloc_heap_new wr _) 0 33 _ (hk _) (by rw [List.drop_zero, List.take_of_length_le (by rw [hk]; exact Nat.le_refl _)])
      obtain ⟨fn, tmps, assign, body, hy, hR⟩ := hY _ zs[k] _ hJ2 (by simp; omega)
      have hkk := hk zs[k]
      have B : Aside (zs.take (k + 1) = zs.take k ++ [zs[k]]) := take_snoc' zs k hlt
      generalize zs[k] = x at *
      clear hc hJs hJ2 hJ hY
      gi_wp2
      refine hR.mono ?_
      rintro e W3 (⟨rfl, hJ3, hk3⟩ | ⟨rfl, hJx3⟩)
      · gi_wp2
        go_roundw
        case rel => exact ⟨k + 1, by omega, by simp, by rw [B.out]; exact hJ3, (hnx.alloc (Nat.le_trans hn₀ hsz) _).trans hk3, by have := hk3.size; simp at this; omega⟩
        case measure => simp [intOf]; omega
      · gi_wp2
        refine bodyPost_ret (results_none rfl _ _ _) rfl ?_
        exact ⟨⟨_, rfl⟩, .inr ⟨_, by rw [← B.out]; exact List.take_prefix _ _, hJx3⟩⟩
    · obtain rfl : k = zs.length := by omega
      gi_wp2
      go_end0
      exact ⟨⟨_, rfl⟩, .inl (by rw [List.take_of_length_le (Nat.le_refl _)] at hJs; exact hJs)⟩
set_option maxRecDepth 100000 in
set_option maxHeartbeats 4000000 in
/-- .. at no element: no round. -/
theorem values1_none (F : Fence) (n : Nat) (hf : F.fn 48) (hro : F.round = none) (l Bs : Nat) (A : Option Addr) (cap : Nat) (J : List α → World → Prop) (W : World) (hBs : W.cell? ⟨Bs, 0, none⟩ = some (.slice A 0 cap)) (h0 : J [] W) :
    CallsIn F n Tryd.prog 48 #[.func (.yield l) #[] #[], .pointer (some ⟨Bs, 0, none⟩)] W fun e W' => (∃ v, e = .returned v) ∧ J [] W' := by
  refine callsIn_of_wp Tryd.func48 rfl hf ?_ hro
  simp only [Tryd.ntmps48, List.size_toArray, List.length_cons, List.length_nil, Nat.reduceAdd, Nat.reduceSub, Array.replicate_succ, Array.replicate_zero, List.push_toArray, List.append_toArray, List.nil_append, List.cons_append]
  gi_wp2
  gi_loopw [7] (fun i wr => i = .int .i64 0 ∧ J [] wr) (fun _ _ => 0)
  case atStart => exact ⟨rfl, h0⟩
  case round =>
    obtain ⟨rfl, hJs⟩ := hrel
    gi_wp2
    go_end0
    exact ⟨⟨_, rfl⟩, hJs⟩
set_option maxHeartbeats 1000000 in
/-- slices.Values: the slice value is boxed; the function value captures the box. -/
theorem values (F : Fence) (n : Nat) (hf : F.fn 34) (hro : F.round = none) (a : Option Addr) (len cap : Nat) (w : World) :
    CallsIn F n Tryd.prog 34 #[.slice a len cap] w fun e w' => e = .returned (.func (.func 48) #[] #[.pointer (some ⟨w.heap.size, 0, none⟩)]) ∧ w' = w.alloc (.cells #[.slice a len cap] 31) := by
  refine callsIn_of_wp Tryd.func34 rfl hf ?_ hro
  simp only [Tryd.ntmps34, List.size_toArray, List.length_cons, List.length_nil, Nat.reduceAdd, Nat.reduceSub, Array.replicate_succ, Array.replicate_zero, List.push_toArray, List.append_toArray, List.nil_append, List.cons_append]
  gi_wp2
  go_ret
  exact ⟨rfl, rfl⟩
/-- slices.Values gives all of zs, in order; or the first ones. -/
theorem values_stops (hk : ∀ x, (enc x).length = 33) (h1 : ∀ x, ∀ v ∈ enc x, v.oneCell' = true) (F : Fence) (n : Nat) (hf : F.fn 48) (hro : F.round = none) (hn : 1 ≤ n) (Bs n₀ : Nat) (A : Option Addr) (cap : Nat) (zs : List α) (hlen : zs.length ≤ 4611686018427387904) (w : World) (hBs : Bs < w.heap.size) (hn₀ : n₀ ≤ w.heap.size)
    (hc : w.cell? ⟨Bs, 0, none⟩ = some (.slice A zs.length cap)) (hI : Lies enc n₀ w A zs) :
    SeqStopsK F n Tryd.prog 48 #[.pointer (some ⟨Bs, 0, none⟩)] (fun x : α => #[Value.agg (enc x).toArray]) (Below n₀) (fun ys => ys = zs) (fun pre => pre <+: zs) zs.length w := fun l J Jx W hW hJ _ hY h0 => by
  have hc' := (hW.cell (p := ⟨Bs, 0, none⟩) hBs).trans hc
  rcases hI.below (hW.mono hn₀) with rfl | ⟨b, off, rfl, hb, hcs⟩
  · exact (values1_none F n hf hro l Bs A cap J W hc' h0).mono fun e W' ⟨he, hj⟩ => ⟨he, .inl ⟨_, rfl, hj⟩⟩
  · refine (values1 hk h1 F n hf hro hn l Bs n₀ b off cap zs hlen hb J Jx W (Nat.le_trans hn₀ hW.size) hJ hY hc' hcs h0).mono ?_
    rintro e W' ⟨he, hj | ⟨pre, hp, hj⟩⟩
    · exact ⟨he, .inl ⟨_, rfl, hj⟩⟩
    · exact ⟨he, .inr ⟨_, hp, hj⟩⟩
set_option maxRecDepth 100000 in
set_option maxHeartbeats 4000000 in
/-- slices.AppendSeq onto nil, of slices.Values: the same elements in memory of the call's own. -/
theorem appendSeq (hk : ∀ x, (enc x).length = 33) (h1 : ∀ x, ∀ v ∈ enc x, v.oneCell' = true) (F : Fence) (n : Nat) (hf : F.fn 48) (hfa : F.fn 62) (hro : F.round = none) (hn : 3 ≤ n) (Bs : Nat) (A : Option Addr) (cap : Nat) (zs : List α) (hlen : zs.length * 40 ≤ 140737488355328) (w : World) (hBs : Bs < w.heap.size)
    (hc : w.cell? ⟨Bs, 0, none⟩ = some (.slice A zs.length cap)) (hI : Lies enc w.heap.size w A zs) :
    CallsIn F n Tryd.prog 62 #[.slice none 0 0, .func (.func 48) #[] #[.pointer (some ⟨Bs, 0, none⟩)]] w fun e w' => ∃ v, e = .returned v ∧ w'.ownsRow w.heap.size 25 33 v zs.length (zs.flatMap enc) ∧ Below w.heap.size w w' := by
  have h1n : 1 ≤ n := by omega
  obtain ⟨i0, hi, hz0, hz1, hz2⟩ := info_parts (show (Tryd.prog.info? 25).map (fun i => (i.zero, i.size, i.bytes)) = some (some (.agg #[Value.int IntKind.u8 0, Value.int IntKind.u8 0, Value.int IntKind.u8 0, Value.int IntKind.u8 0, Value.int IntKind.u8 0, Value.int IntKind.u8 0, Value.int IntKind.u8 0, Value.int IntKind.u8 0, Value.int IntKind.u8 0, Value.int IntKind.u8 0, Value.int IntKind.u8 0, Value.int IntKind.u8 0, Value.int IntKind.u8 0, Value.int IntKind.u8 0, Value.int IntKind.u8 0, Value.int IntKind.u8 0, Value.int IntKind.u8 0, Value.int IntKind.u8 0, Value.int IntKind.u8 0, Value.int IntKind.u8 0, Value.int IntKind.u8 0, Value.int IntKind.u8 0, Value.int IntKind.u8 0, Value.int IntKind.u8 0, Value.int IntKind.u8 0, Value.int IntKind.u8 0, Value.int IntKind.u8 0, Value.int IntKind.u8 0, Value.int IntKind.u8 0, Value.int IntKind.u8 0, Value.int IntKind.u8 0, Value.int IntKind.u8 0, Value.int IntKind.i64 0]), 33, 40) by kernel_rfl)
  refine callsIn_of_wp_marks Tryd.func62 rfl hfa ?_ hro
  simp only [Tryd.ntmps62, List.size_toArray, List.length_cons, List.length_nil, Nat.reduceAdd, Nat.reduceSub, Array.replicate_succ, Array.replicate_zero, List.push_toArray, List.append_toArray, List.nil_append, List.cons_append]
  gi_wp2
  have bS := Boxed.new w 31 (.slice none 0 0)
  have hB0 : Below w.heap.size w (w.alloc (.cells #[.slice none 0 0] 31)) := (Below.refl _ w).alloc (Nat.le_refl _) _
  have hsz : (w.alloc (.cells #[.slice none 0 0] 31)).heap.size = w.heap.size + 1 := by simp
  have hcB := (hB0.cell (p := ⟨Bs, 0, none⟩) hBs).trans hc
  have hI' := hI.below hB0
  obtain ⟨W0, hW0⟩ : ∃ W0, w.alloc (.cells #[.slice none 0 0] 31) = W0 := ⟨_, rfl⟩
  rw [hW0] at bS hB0 hsz hcB hI' ⊢
  clear hW0
  refine wpIn_rangeFunc_ownH hro h1n (gf := 48) (lb := #[.pointer (some ⟨Bs, 0, none⟩)]) rfl hf (enters_of Tryd.func48 (by kernel_rfl) rfl)
    (values_stops hk h1 F (n - 1) hf hro (by omega) Bs w.heap.size A cap zs (by omega) W0 (by omega) (by omega) hcB hI') belowK_t (belowK_b (by omega)) (Below.refl _ _) (fun _ => rfl)
    (fun pre W => (∃ v, Boxed W w.heap.size 31 v ∧ W.ownsRow w.heap.size 25 33 v pre.length (pre.flatMap enc) ∧ True) ∧ Below w.heap.size w W)
    (fun _ _ _ => False)
    (OwnFrom.and (Own.from (holdsRow_own w.heap.size w.heap.size _ _ 33 (fun pre : List α => pre.length) (fun pre => pre.flatMap enc) (fun _ _ => True)) _) (ownFrom_below (Nat.le_refl _) (by omega)))
    (fun _ _ _ _ _ hs _ _ => hs)
    ⟨⟨_, bS, World.ownsRow_nil _ _ _ _, trivial⟩, hB0⟩
    (fun x a' W => ∃ Bx, w.heap.size < Bx ∧ W.heap[Bx]? = some (.cells (enc x).toArray 25 (0, 0)) ∧ a' = { tmps := #[.slice none 0 0, .func (.func 48) #[] #[.pointer (some ⟨Bs, 0, none⟩)], .pointer (some ⟨w.heap.size, 0, none⟩), undef, .slice none 0 0, .pointer (some ⟨Bx, 0, none⟩), .func (.func 48) #[] #[.pointer (some ⟨Bs, 0, none⟩)], .agg (enc x).toArray, undef, undef, undef, undef, undef], defers := [] })
    (fun x a' _ X Y row hs hg hr => by
      obtain ⟨Bx, g1, g2, g3⟩ := hs
      refine ⟨Bx, g1, (hg.block Bx (Array.getElem?_eq_some_iff.1 g2).1 (fun e => ?_)).trans g2, g3⟩
      obtain ⟨_, o, ho, hcel⟩ := hr Bx e.symm
      rw [g2] at ho; cases ho; cases hcel)
    ?assign ?body ?done ?stop
  case assign =>
    rintro l pre x W K ⟨⟨v, bV, hrow, _⟩, hB1⟩ hK
    have hst := run_fill Tryd.prog W #[Value.int IntKind.u8 0, Value.int IntKind.u8 0, Value.int IntKind.u8 0, Value.int IntKind.u8 0, Value.int IntKind.u8 0, Value.int IntKind.u8 0, Value.int IntKind.u8 0, Value.int IntKind.u8 0, Value.int IntKind.u8 0, Value.int IntKind.u8 0, Value.int IntKind.u8 0, Value.int IntKind.u8 0, Value.int IntKind.u8 0, Value.int IntKind.u8 0, Value.int IntKind.u8 0, Value.int IntKind.u8 0, Value.int IntKind.u8 0, Value.int IntKind.u8 0, Value.int IntKind.u8 0, Value.int IntKind.u8 0, Value.int IntKind.u8 0, Value.int IntKind.u8 0, Value.int IntKind.u8 0, Value.int IntKind.u8 0, Value.int IntKind.u8 0, Value.int IntKind.u8 0, Value.int IntKind.u8 0, Value.int IntKind.u8 0, Value.int IntKind.u8 0, Value.int IntKind.u8 0, Value.int IntKind.u8 0, Value.int IntKind.u8 0, Value.int IntKind.i64 0] 25 (enc x) (by simp [hk]) (h1 x)
    have hkx := hk x
    gi_wp2
    exact hK _ _ ((KeepsOthers.alloc _ _).from _) ((Below.refl _ W).alloc hB1.size _) ⟨⟨v, bV.alloc _, hrow.alloc _, trivial⟩, hB1.alloc hB1.size _⟩ ⟨W.heap.size, bV.lt, World.alloc_heap_new W _, rfl⟩
  case body =>
    rintro l pre x a' W hl ⟨r, hr⟩ ⟨⟨v, bV, hrow, _⟩, hB1⟩ ⟨Bx, hBx, bX, rfl⟩ hlt
    have cV := bV.cell
    have hld : Sem.run Tryd.prog (heavy0 ⟨Bx, 0, none⟩ 33) W = .ok (enc x).toArray W := row_load bX 0 33 _ (hk _) (by rw [List.drop_zero, List.take_of_length_le (by rw [hk]; exact Nat.le_refl _)])
    have hkx := hk x
    have hfo := fold_all (enc x) #[Value.int IntKind.u8 0, Value.int IntKind.u8 0, Value.int IntKind.u8 0, Value.int IntKind.u8 0, Value.int IntKind.u8 0, Value.int IntKind.u8 0, Value.int IntKind.u8 0, Value.int IntKind.u8 0, Value.int IntKind.u8 0, Value.int IntKind.u8 0, Value.int IntKind.u8 0, Value.int IntKind.u8 0, Value.int IntKind.u8 0, Value.int IntKind.u8 0, Value.int IntKind.u8 0, Value.int IntKind.u8 0, Value.int IntKind.u8 0, Value.int IntKind.u8 0, Value.int IntKind.u8 0, Value.int IntKind.u8 0, Value.int IntKind.u8 0, Value.int IntKind.u8 0, Value.int IntKind.u8 0, Value.int IntKind.u8 0, Value.int IntKind.u8 0, Value.int IntKind.u8 0, Value.int IntKind.u8 0, Value.int IntKind.u8 0, Value.int IntKind.u8 0, Value.int IntKind.u8 0, Value.int IntKind.u8 0, Value.int IntKind.u8 0, Value.int IntKind.i64 0] (by simp [hk])
    have bn : (W.alloc (.cells (enc x).toArray 25)).heap[W.heap.size]? = some (.cells (enc x).toArray 25 (0, 0)) := World.alloc_heap_new W _
    gi_wp2_with (gi_at_builtin; refine wpListIn_append_own _ rfl _ _ 31 rfl w.heap.size 25 i0 (.agg #[Value.int IntKind.u8 0, Value.int IntKind.u8 0, Value.int IntKind.u8 0, Value.int IntKind.u8 0, Value.int IntKind.u8 0, Value.int IntKind.u8 0, Value.int IntKind.u8 0, Value.int IntKind.u8 0, Value.int IntKind.u8 0, Value.int IntKind.u8 0, Value.int IntKind.u8 0, Value.int IntKind.u8 0, Value.int IntKind.u8 0, Value.int IntKind.u8 0, Value.int IntKind.u8 0, Value.int IntKind.u8 0, Value.int IntKind.u8 0, Value.int IntKind.u8 0, Value.int IntKind.u8 0, Value.int IntKind.u8 0, Value.int IntKind.u8 0, Value.int IntKind.u8 0, Value.int IntKind.u8 0, Value.int IntKind.u8 0, Value.int IntKind.u8 0, Value.int IntKind.u8 0, Value.int IntKind.u8 0, Value.int IntKind.u8 0, Value.int IntKind.u8 0, Value.int IntKind.u8 0, Value.int IntKind.u8 0, Value.int IntKind.u8 0, Value.int IntKind.i64 0]) 33 40 Tryd.underlying31 hi hz0 hz1 hz2 rfl (by decide) _ _ _ rfl (hrow.alloc _) ⟨W.heap.size, 0, none⟩ 1 1 (enc x) rfl ?qc1 ?qc2 ?qc3 ?qc4 ?qc5 ?qc6 ?_)
    case qc3 => exact h1 x
    case qc4 => unfold maxLen; omega
    case qc5 => omega
    case qc6 => have := hB1.size; simp; omega
    intro v' w1 hown' hgrow _
    obtain ⟨g', cap', rfl⟩ := ownsRow_succ hown'
    obtain ⟨hv1, hv2, hr2, hk2, hb2⟩ := bV.appended (by decide) hrow hB1.size (Nat.le_refl _) hown' hgrow
    have hc1 := hv1.cell
    have hf1 := hv1.frozen
    clear hld hfo
    gi_wp2
    exact ⟨hk2.from _, hb2, ⟨_, hv2, by simpa using hr2, trivial⟩, hB1.trans hb2⟩
  case done =>
    rintro D ys W hD rfl ⟨⟨v, bV, hrow, _⟩, hB1⟩ hK
    have cV := bV.cell
    gi_wp2
    refine ⟨by simp, .inl ⟨_, _, rfl, run_takeDeferred hK, ?_⟩⟩
    exact ⟨_, results_tmp rfl _ _ _, _, rfl, ownsRow_putObj hrow _ hK rfl, hB1.trans (belowK_b (w := w) (Nat.le_refl _) W D _ _ (by omega) hK rfl rfl)⟩
  case stop =>
    rintro D c pre W _ _ h _
    exact h.elim
end Go.Proofs.YtmoecidfmgeafaaDoor.IterO
