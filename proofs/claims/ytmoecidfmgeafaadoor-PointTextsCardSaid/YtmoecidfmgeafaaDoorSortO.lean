/- slices.SortedFunc over slices.Values at outpoints, by point.order: the sorted row, in memory of the call's own. -/
import Derived.Shelf.SlSortCmp.NoneTotal
import Derived.Test.YtmoecidfmgeafaaDoorIterO
import Derived.Test.YtmoecidfmgeafaaDoorOrdO
import Derived.Test.YtmoecidfmgeafaaDoorLayO
namespace Go.Proofs.YtmoecidfmgeafaaDoor.SortO
open Go.RowKit Go.Sort Go.Shelf Go.Lib Go.Proofs.YtmoecidfmgeafaaDoorW.PrintWords Go.Proofs.YtmoecidfmgeafaaDoor.RowK Go.Proofs.YtmoecidfmgeafaaDoor.OrdO
theorem cmp3_flip (x y : Int) : cmp3 y x = - cmp3 x y := by unfold cmp3; repeat' split <;> omega
theorem cmp3_zero {x y : Int} (h : cmp3 x y = 0) : x = y := by
  unfold cmp3 at h
  by_cases a : x < y
  · rw [if_pos a] at h; omega
  · rw [if_neg a] at h
    by_cases b : y < x
    · rw [if_pos b] at h; omega
    · omega
theorem cmp3_self (x : Int) : cmp3 x x = 0 := by unfold cmp3; rw [if_neg (by omega), if_neg (by omega)]
theorem cmp3_neg {x y : Int} : cmp3 x y < 0 ↔ x < y := by
  unfold cmp3
  by_cases a : x < y
  · rw [if_pos a]; exact ⟨fun _ => a, fun _ => by omega⟩
  · rw [if_neg a]
    by_cases b : y < x
    · rw [if_pos b]; omega
    · rw [if_neg b]; omega
theorem lcmp_flip : ∀ xs ys : List Int, lcmp ys xs = - lcmp xs ys
  | [], [] => rfl
  | [], _ :: _ => rfl
  | _ :: _, [] => rfl
  | x :: xs, y :: ys => by
    simp only [lcmp, cmp3_flip x y]
    by_cases h : cmp3 x y = 0
    · rw [if_pos (by omega), if_pos h]; exact lcmp_flip xs ys
    · rw [if_neg (by omega), if_neg h]
theorem lcmp_zero : ∀ {xs ys : List Int}, lcmp xs ys = 0 → xs = ys
  | [], [], _ => rfl
  | [], _ :: _, h => by simp [lcmp] at h
  | _ :: _, [], h => by simp [lcmp] at h
  | x :: xs, y :: ys, h => by
    simp only [lcmp] at h
    by_cases hz : cmp3 x y = 0
    · rw [if_pos hz] at h; rw [cmp3_zero hz, lcmp_zero h]
    · rw [if_neg hz] at h; exact absurd h hz
theorem lcmp_self : ∀ xs : List Int, lcmp xs xs = 0
  | [] => rfl
  | x :: xs => by simp only [lcmp, cmp3_self, if_true]; exact lcmp_self xs
theorem lcmp_trans : ∀ {xs ys zs : List Int}, lcmp xs ys < 0 → lcmp ys zs < 0 → lcmp xs zs < 0
  | [], [], _, h, _ => by simp [lcmp] at h
  | _ :: _, [], _, h, _ => by simp [lcmp] at h
  | [], _ :: _, [], _, h => by simp [lcmp] at h
  | [], _ :: _, _ :: _, _, _ => by simp [lcmp]
  | _ :: _, _ :: _, [], _, h => by simp [lcmp] at h
  | x :: xs, y :: ys, z :: zs, h1, h2 => by
    simp only [lcmp] at *
    by_cases a : cmp3 x y = 0
    · rw [if_pos a] at h1
      by_cases b : cmp3 y z = 0
      · rw [if_pos b] at h2
        rw [cmp3_zero a, b, if_pos rfl]
        exact lcmp_trans h1 h2
      · rw [if_neg b] at h2
        rw [cmp3_zero a, if_neg b]; exact h2
    · rw [if_neg a] at h1
      by_cases b : cmp3 y z = 0
      · rw [← cmp3_zero b, if_neg a]; exact h1
      · rw [if_neg b] at h2
        have h3 : cmp3 x z < 0 := cmp3_neg.2 (by have := cmp3_neg.1 h1; have := cmp3_neg.1 h2; omega)
        rw [if_neg (by omega)]; exact h3
section
variable {α : Type} (bs : α → List Int) (nn : α → Int)
theorem ocmp_flip (x y : α) : ocmp bs nn y x = - ocmp bs nn x y := by
  unfold ocmp
  rw [lcmp_flip (bs x) (bs y), cmp3_flip (nn x) (nn y)]
  by_cases h : lcmp (bs x) (bs y) = 0
  · rw [if_pos (by omega), if_pos h]
  · rw [if_neg (by omega), if_neg h]
theorem ocmp_self (x : α) : ocmp bs nn x x = 0 := by unfold ocmp; rw [if_pos (lcmp_self _), cmp3_self]
theorem ocmp_zero {x y : α} (h : ocmp bs nn x y = 0) : bs x = bs y ∧ nn x = nn y := by
  unfold ocmp at h
  by_cases hz : lcmp (bs x) (bs y) = 0
  · rw [if_pos hz] at h; exact ⟨lcmp_zero hz, cmp3_zero h⟩
  · rw [if_neg hz] at h; exact absurd h hz
theorem ocmp_trans {x y z : α} (h1 : ocmp bs nn x y < 0) (h2 : ocmp bs nn y z < 0) : ocmp bs nn x z < 0 := by
  unfold ocmp at *
  by_cases a : lcmp (bs x) (bs y) = 0
  · rw [if_pos a] at h1
    by_cases b : lcmp (bs y) (bs z) = 0
    · rw [if_pos b] at h2
      rw [lcmp_zero a, b, if_pos rfl]
      exact cmp3_neg.2 (by have := cmp3_neg.1 h1; have := cmp3_neg.1 h2; omega)
    · rw [if_neg b] at h2
      rw [lcmp_zero a, if_neg b]; exact h2
  · rw [if_neg a] at h1
    by_cases b : lcmp (bs y) (bs z) = 0
    · rw [← lcmp_zero b, if_neg a]; exact h1
    · rw [if_neg b] at h2
      have := lcmp_trans h1 h2
      rw [if_neg (by omega)]; exact this
theorem ocmp_swo : SWO (ltOf (ocmp bs nn)) where
  irrefl x := by unfold ltOf; rw [ocmp_self]; rfl
  trans x y z h1 h2 := by
    unfold ltOf at *
    exact decide_eq_true (ocmp_trans bs nn (of_decide_eq_true h1) (of_decide_eq_true h2))
  ntrans x y z h1 h2 := by
    unfold ltOf at *
    have a := of_decide_eq_false h1
    have b := of_decide_eq_false h2
    refine decide_eq_false fun h => ?_
    by_cases e : ocmp bs nn x y = 0
    · have ex := ocmp_zero bs nn e
      have : ocmp bs nn x z = ocmp bs nn y z := by unfold ocmp; rw [ex.1, ex.2]
      omega
    · have h3 : ocmp bs nn y x < 0 := by rw [ocmp_flip bs nn x y]; omega
      have := ocmp_trans bs nn h3 h
      omega
end
section
variable {α : Type} [Inhabited α] {enc : α → List Value}
theorem flat_at (k : Nat) (hk0 : 0 < k) (hk : ∀ x, (enc x).length = k) : ∀ (zs : List α) (t : Nat), t < zs.length * k → (zs.flatMap enc)[t]? = some ((enc zs[t / k]!)[t % k]!)
  | [], t, h => by simp at h
  | x :: xs, t, h => by
    rw [List.flatMap_cons]
    by_cases ht : t < k
    · rw [List.getElem?_append_left (by rw [hk]; exact ht), Nat.div_eq_of_lt ht, Nat.mod_eq_of_lt ht]
      rw [List.getElem!_cons_zero, List.getElem?_eq_getElem (by rw [hk]; exact ht), getElem!_pos (enc x) t (by rw [hk]; exact ht)]
    · have h2 : t - k < xs.length * k := by simp only [List.length_cons, Nat.add_mul, Nat.one_mul] at h; omega
      rw [List.getElem?_append_right (by rw [hk]; omega), hk, flat_at k hk0 hk xs (t - k) h2]
      have e1 : t / k = (t - k) / k + 1 := by rw [Nat.div_eq_sub_div hk0 (by omega)]
      have e2 : t % k = (t - k) % k := by rw [Nat.mod_eq_sub_mod (by omega)]
      rw [e1, e2, List.getElem!_cons_succ]
omit [Inhabited α] in
theorem flat_len (k : Nat) (hk : ∀ x, (enc x).length = k) : ∀ zs : List α, (zs.flatMap enc).length = zs.length * k
  | [] => by simp
  | x :: xs => by rw [List.flatMap_cons, List.length_append, hk, flat_len k hk xs, List.length_cons, Nat.add_mul, Nat.one_mul, Nat.add_comm]
theorem flatK_list (k : Nat) (hk0 : 0 < k) (hk : ∀ x, (enc x).length = k) (zs : List α) : (flatK enc k zs.toArray).toList = zs.flatMap enc := by
  apply List.ext_getElem?
  intro t
  by_cases h : t < zs.length * k
  · rw [flat_at k hk0 hk zs t h]
    have hs : t < (flatK enc k zs.toArray).size := by rw [size_flatK]; simpa using h
    rw [Array.getElem?_toList, Array.getElem?_eq_getElem hs, ← getElem!_pos (flatK enc k zs.toArray) t hs, get_flatK _ _ _ _ (by simpa using h)]
    simp
  · rw [List.getElem?_eq_none (show (zs.flatMap enc).length ≤ t by rw [flat_len k hk]; omega), List.getElem?_eq_none (by rw [Array.length_toList, size_flatK]; simp; omega)]
theorem holds_block {w : World} {g : Nat} {cur : Array Value} {e : TypeId} {F : Array Value} (hb : w.heap[g]? = some (.cells cur e (0, 0))) (ht : cur.toList.take F.size = F.toList) : Holds id w g 0 F := by
  intro j hj
  refine ⟨?_, by simp [World.frozen?, hb]⟩
  have h1 : (cur.toList.take F.size)[j]? = F.toList[j]? := by rw [ht]
  rw [List.getElem?_take_of_lt hj] at h1
  simp only [World.cell?, hb, Nat.zero_add]
  simp only [Option.isSome_none, Bool.false_eq_true, if_false]
  rw [← Array.getElem?_toList, h1, Array.getElem?_toList, Array.getElem?_eq_getElem hj, getElem!_pos F j hj]
  rfl
theorem heap_srt {w : World} {g n : Nat} {os : Array Obj} {cur : Array Value} {e : TypeId} {fr : Nat × Nat} (F : Array Value) (hb : w.heap[g]? = some (.cells cur e fr)) :
    (grow (putRow id (Sort.ahead w n) g 0 F) os).heap[g]? = some (.cells (putCells id 0 F cur) e fr) := by
  have hg : g < w.heap.size := (Array.getElem?_eq_some_iff.1 hb).1
  rw [heap_grow_old _ _ (by simpa [putRow, mapBlock, Sort.ahead] using hg)]
  simp [putRow, mapBlock, Sort.ahead, Array.getElem?_modify, hb, onCells]
theorem grown_srt {w : World} {g n : Nat} {os : Array Obj} (F : Array Value) : w.grownBy (grow (putRow id (Sort.ahead w n) g 0 F) os) (some g) := by
  refine ⟨rfl, rfl, rfl, by simp [grow, putRow, mapBlock, Sort.ahead], fun k hk hne => ?_⟩
  rw [heap_grow_old _ _ (by simpa [putRow, mapBlock, Sort.ahead] using hk)]
  have : g ≠ k := fun e => hne (by rw [e])
  simp [putRow, mapBlock, Sort.ahead, Array.getElem?_modify, this]
theorem take_put (cur F : Array Value) (h : F.size ≤ cur.size) : (putCells id 0 F cur).toList.take F.size = F.toList := by
  apply List.ext_getElem?
  intro j
  by_cases hj : j < F.size
  · rw [List.getElem?_take_of_lt hj, Array.getElem?_toList]
    simp [putCells, hj, show j < cur.size by omega]
  · rw [List.getElem?_take_eq_none (by omega), List.getElem?_eq_none (by simp; omega)]
/-- Sorted as the list's own merge sort does it. -/
def osort (bs : α → List Int) (nn : α → Int) (zs : List α) : List α := zs.mergeSort fun x y => !(ltOf (ocmp bs nn)) y x
omit [Inhabited α] in
set_option maxHeartbeats 2000000 in
/-- slices.Collect of slices.Values. -/
theorem collect (hk : ∀ x, (enc x).length = 33) (h1 : ∀ x, ∀ v ∈ enc x, v.oneCell' = true) (Bs : Nat) (A : Option Addr) (cap : Nat) (zs : List α) (hlen : zs.length * 40 ≤ 140737488355328) (w : World) (hBs : Bs < w.heap.size)
    (hc : w.cell? ⟨Bs, 0, none⟩ = some (.slice A zs.length cap)) (hI : IterO.Lies enc w.heap.size w A zs) :
    Calls Tryd.prog 46 #[.func (.func 48) #[] #[.pointer (some ⟨Bs, 0, none⟩)]] w fun e w' => ∃ v, e = .returned v ∧ w'.ownsRow w.heap.size 25 33 v zs.length (zs.flatMap enc) ∧ Below w.heap.size w w' := by
  have HA := Aside0.mk (callsIn_wide.1 (IterO.appendSeq hk h1 Fence.wide 5 trivial trivial rfl (by omega) Bs A cap zs hlen w hBs hc hI))
  clear hc hI hk
  go_enter Tryd.func46, Tryd.ntmps46
  go_wp2_with (go_at_call 62; refine HA.out.mono ?_; rintro e w' ⟨v, rfl, hown, hb⟩)
  go_ret
  exact ⟨v, rfl, hown, hb⟩
set_option maxHeartbeats 4000000 in
/-- slices.SortedFunc of slices.Values, by point.order. -/
theorem sortedFunc (bs : α → List Int) (nn : α → Int) (he : ∀ x, enc x = (bs x).map (Value.int .u8) ++ [.int .i64 (nn x)]) (hb : ∀ x, (bs x).length = 32) (hinj : ∀ x y, bs x = bs y → nn x = nn y → x = y)
    (Bs : Nat) (A : Option Addr) (cap : Nat) (zs : List α) (hlen : zs.length * 40 ≤ 140737488355328) (w : World) (hBs : Bs < w.heap.size)
    (hc : w.cell? ⟨Bs, 0, none⟩ = some (.slice A zs.length cap)) (hI : IterO.Lies enc w.heap.size w A zs) :
    Calls Tryd.prog 33 #[.func (.func 48) #[] #[.pointer (some ⟨Bs, 0, none⟩)], .func (.func 35) #[] #[]] w fun e w' =>
      ∃ v, e = .returned v ∧ w'.ownsRow w.heap.size 25 33 v zs.length ((osort bs nn zs).flatMap enc) ∧ Below w.heap.size w w' := by
  have hk : ∀ x, (enc x).length = 33 := fun x => by rw [he]; simp [hb]
  have h1 : ∀ x, ∀ v ∈ enc x, v.oneCell' = true := fun x v hv => by
    rw [he] at hv
    rcases List.mem_append.1 hv with h | h
    · obtain ⟨y, _, rfl⟩ := List.mem_map.1 h; rfl
    · simp at h; subst h; rfl
  have HC := Aside0.mk (collect hk h1 Bs A cap zs hlen w hBs hc hI)
  have hol : (osort bs nn zs).length = zs.length := (List.mergeSort_perm _ _).length_eq
  have SF : ∀ (W : World) (v : Value), W.ownsRow w.heap.size 25 33 v zs.length (zs.flatMap enc) → Below w.heap.size w W → Calls Tryd.prog 47 #[v, .func (.func 35) #[] #[]] W fun e w' => e = .returned (.tuple #[]) ∧ w'.ownsRow w.heap.size 25 33 v zs.length ((osort bs nn zs).flatMap enc) ∧ Below w.heap.size w w' := by
    intro W v hown hB
    have none_ : ∀ p c, v = .slice p 0 c → zs.length = 0 → Calls Tryd.prog 47 #[v, .func (.func 35) #[] #[]] W fun e w' => e = .returned (.tuple #[]) ∧ w'.ownsRow w.heap.size 25 33 v zs.length ((osort bs nn zs).flatMap enc) ∧ Below w.heap.size w w' := by
      rintro p c rfl h0
      obtain rfl : zs = [] := List.length_eq_zero_iff.1 h0
      refine (AnyF.slices_SortFunc_none LayO.sortFunc p c _ W).mono ?_
      rintro e w' ⟨rfl, rfl⟩
      exact ⟨rfl, by simpa [osort] using hown, hB⟩
    rcases hown.2 with ⟨rfl, h0⟩ | ⟨g, cp, cur, rfl, hbase, hg, r1, r2, r3, r4⟩
    · exact none_ _ _ rfl h0
    · by_cases h0 : zs.length = 0
      · exact none_ (some ⟨g, 0, none⟩) cp (by rw [h0]) h0
      · have hfl := flatK_list (enc := enc) 33 (by omega) hk zs
        have hgl : g < W.heap.size := (Array.getElem?_eq_some_iff.1 hg).1
        have hH : HoldsK enc 33 W g 0 zs.toArray := holds_block hg (by rw [hfl, size_flatK]; simpa using r4)
        have hs := AnyQ.slices_SortFunc_total LayO.sortFunc 33 Tryd.isAgg25 Tryd.sizeOf25 enc hk h1 (ocmp bs nn) (ocmp_swo bs nn) 35 #[] g 0 cp zs.toArray W (enters_of Tryd.func35 (by kernel_rfl) rfl)
          (fun m os dk _ x y => order bs nn he hb x y _) hH hgl (by simp; omega)
          (fun x y hx hy => by
            unfold ltOf at hx hy
            have a := of_decide_eq_false hx
            have b := of_decide_eq_false hy
            have e := ocmp_flip bs nn x y
            have z := ocmp_zero bs nn (x := x) (y := y) (by omega)
            exact hinj x y z.1 z.2)
        refine (show Calls _ _ _ _ _ from hs).mono ?_
        rintro e w' ⟨rfl, n, os, rfl⟩
        have hfo := flatK_list (enc := enc) 33 (by omega) hk (osort bs nn zs)
        refine ⟨rfl, ⟨by rw [flat_len 33 hk, hol], .inr ⟨g, cp, _, rfl, hbase, heap_srt _ hg, r1, r2, by simp [putCells, r3], ?_⟩⟩, hB.grown (grown_srt _) hB.size (fun j e => by cases e; exact hbase)⟩
        have hsz : (flatK enc 33 (osort bs nn zs).toArray).size = zs.length * 33 := by rw [size_flatK]; simp [hol]
        have := take_put cur (flatK enc 33 (osort bs nn zs).toArray) (by rw [hsz, r3]; exact Nat.mul_le_mul_right _ r1)
        rw [hsz, hfo] at this
        exact this
  have HS := Aside0.mk SF
  clear SF hc hI hk h1 hol he hb hinj
  go_enter Tryd.func33, Tryd.ntmps33
  go_wp2_with (first | (go_at_call 46; refine HC.out.mono ?_; rintro e w1 ⟨v, rfl, hown, hb⟩; have HO := Aside0.mk hown; have HB := Aside0.mk hb; clear hown hb) | (go_at_call 47; refine (HS.out _ v HO.out HB.out).mono ?_; rintro e w2 ⟨rfl, hown, hb⟩))
  go_ret
  exact ⟨v, rfl, hown, hb⟩
end
end Go.Proofs.YtmoecidfmgeafaaDoor.SortO
