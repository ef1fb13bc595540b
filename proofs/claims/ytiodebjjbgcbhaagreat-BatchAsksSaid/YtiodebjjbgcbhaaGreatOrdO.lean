import Derived.StillTailTactics
import Derived.Sort.Grow
import Derived.Test.YtiodebjjbgcbhaaGreatProg
import Derived.Test.YtiodebjjbgcbhaaGreatPutW
namespace Go.Proofs.YtiodebjjbgcbhaaGreat.OrdO
open Go.RowKit Go.Sort Go.Proofs YtiodebjjbgcbhaaGreatW.PrintWords YtiodebjjbgcbhaaGreat RowK
def cmp3 (x y : Int) : Int := if x < y then -1 else if y < x then 1 else 0
def lcmp : List Int → List Int → Int
 | [], [] => 0
 | [], _ :: _ => -1
 | _ :: _, [] => 1
 | x :: xs, y :: ys => if cmp3 x y = 0 then lcmp xs ys else cmp3 x y
set_option maxHeartbeats 1000000 in
theorem isNaN_byte (x : Int) (w : World) : Calls Tryz.prog 108 #[.int .u8 x] w fun e w' => e = .returned (.bool false) ∧ w' = w := by
 go_enter Tryz.func108, Tryz.ntmps108
 go_wp2
 go_ret
 exact ⟨by simp, rfl⟩
set_option maxHeartbeats 1000000 in
theorem isNaN_int (x : Int) (w : World) : Calls Tryz.prog 91 #[.int .i64 x] w fun e w' => e = .returned (.bool false) ∧ w' = w := by
 go_enter Tryz.func91, Tryz.ntmps91
 go_wp2
 go_ret
 exact ⟨by simp, rfl⟩
set_option maxHeartbeats 1000000 in
theorem cmp_byte (x y : Int) (w : World) : Calls Tryz.prog 103 #[.int .u8 x, .int .u8 y] w fun e w' => e = .returned (.int .i64 (cmp3 x y)) ∧ w' = w := by
 by_cases h1 : x < y
 ·rw [show cmp3 x y = -1 from if_pos h1]
  go_enter Tryz.func103, Tryz.ntmps103
  go_wp2_with (go_at_call 108; refine (isNaN_byte _ _).mono ?_; rintro e w' ⟨rfl, rfl⟩)
  go_ret
  exact ⟨rfl, rfl⟩
 ·by_cases h2 : y < x
  ·rw [show cmp3 x y = 1 from (if_neg h1).trans (if_pos h2)]
   go_enter Tryz.func103, Tryz.ntmps103
   go_wp2_with (go_at_call 108; refine (isNaN_byte _ _).mono ?_; rintro e w' ⟨rfl, rfl⟩)
   go_ret
   exact ⟨rfl, rfl⟩
  ·rw [show cmp3 x y = 0 from (if_neg h1).trans (if_neg h2)]
   go_enter Tryz.func103, Tryz.ntmps103
   go_wp2_with (go_at_call 108; refine (isNaN_byte _ _).mono ?_; rintro e w' ⟨rfl, rfl⟩)
   go_ret
   exact ⟨rfl, rfl⟩
set_option maxHeartbeats 1000000 in
theorem cmp_int (x y : Int) (w : World) : Calls Tryz.prog 78 #[.int .i64 x, .int .i64 y] w fun e w' => e = .returned (.int .i64 (cmp3 x y)) ∧ w' = w := by
 by_cases h1 : x < y
 ·rw [show cmp3 x y = -1 from if_pos h1]
  go_enter Tryz.func78, Tryz.ntmps78
  go_wp2_with (go_at_call 91; refine (isNaN_int _ _).mono ?_; rintro e w' ⟨rfl, rfl⟩)
  go_ret
  exact ⟨rfl, rfl⟩
 ·by_cases h2 : y < x
  ·rw [show cmp3 x y = 1 from (if_neg h1).trans (if_pos h2)]
   go_enter Tryz.func78, Tryz.ntmps78
   go_wp2_with (go_at_call 91; refine (isNaN_int _ _).mono ?_; rintro e w' ⟨rfl, rfl⟩)
   go_ret
   exact ⟨rfl, rfl⟩
  ·rw [show cmp3 x y = 0 from (if_neg h1).trans (if_neg h2)]
   go_enter Tryz.func78, Tryz.ntmps78
   go_wp2_with (go_at_call 91; refine (isNaN_int _ _).mono ?_; rintro e w' ⟨rfl, rfl⟩)
   go_ret
   exact ⟨rfl, rfl⟩
theorem lcmp_drop : ∀ (xs ys : List Int) (k : Nat), xs.length = ys.length → (h : k < xs.length) → (h' : k < ys.length) → lcmp (xs.drop k) (ys.drop k) = if cmp3 xs[k] ys[k] = 0 then lcmp (xs.drop (k + 1)) (ys.drop (k + 1)) else cmp3 xs[k] ys[k] := by
 intro xs ys k _ h h'
 rw [List.drop_eq_getElem_cons h, List.drop_eq_getElem_cons h']
 rfl
set_option maxHeartbeats 2000000 in
theorem compare (xs ys : List Int) (hl : xs.length = 32) (hl' : ys.length = 32) (b1 o1 b2 o2 : Nat) (w : World) (hc : ∀ j (h : j < xs.length), w.cell? ⟨b1, o1 + j, none⟩ = some (.int .u8 xs[j])) (hc' : ∀ j (h : j < ys.length), w.cell? ⟨b2, o2 + j, none⟩ = some (.int .u8 ys[j])) :
 Calls Tryz.prog 100 #[.slice (some ⟨b1, o1, none⟩) 32 32, .slice (some ⟨b2, o2, none⟩) 32 32] w fun e w' => e = .returned (.int .i64 (lcmp xs ys)) ∧ w' = w := by
 have HC := Ak hc
 have HC' := Ak hc'
 have HL := Ak hl
 have HL' := Ak hl'
 clear hc hc' hl hl'
 go_enter Tryz.func100, Tryz.ntmps100
 go_wp2
 go_loop [11] (fun i => ∃ k : Nat, k ≤ 32 ∧ i = .int .i64 k ∧ Aside0 (lcmp xs ys = lcmp (xs.drop k) (ys.drop k))) (fun i => 32 - (intOf i).toNat)
 case atStart => exact ⟨0, Nat.zero_le _, rfl, ⟨rfl⟩⟩
 case round =>
  obtain ⟨k, hk, rfl, HI⟩ := hrel
  by_cases hlt : k < 32
  ·have h1 : k < xs.length := by rw [HL.1]; exact hlt
   have h2 : k < ys.length := by rw [HL'.out]; exact hlt
   have c1 := HC.1 k h1
   have c2 := HC'.out k h2
   have HD := Ak (lcmp_drop xs ys k (by rw [HL.1, HL'.out]) h1 h2)
   generalize xs[k] = x at c1 HD
   generalize ys[k] = y at c2 HD
   by_cases hz : cmp3 x y = 0
   ·have HZ := Ak hz
    have hcall := fun w => cmp_byte x y w
    rw [hz] at hcall
    clear hz h1 h2
    go_wp2_with (go_at_call 103; refine (hcall _).mono ?_; rintro e w' ⟨rfl, rfl⟩)
    go_round
    case rel => exact ⟨k + 1, by omega, by go_num, ⟨by rw [HI.out, HD.1, if_pos HZ.1]⟩⟩
    case measure => simp [intOf]; omega
   ·have HZ := Ak hz
    have hnz : (cmp3 x y == 0) = false := by simpa using hz
    have hcall := fun w => cmp_byte x y w
    generalize hcz : cmp3 x y = cz at hcall hnz hz
    have HCZ := Ak hcz
    clear hcz h1 h2
    go_wp2_with (go_at_call 103; refine (hcall _).mono ?_; rintro e w' ⟨rfl, rfl⟩)
    go_ret
    exact ⟨by rw [HI.out, HD.1, if_neg HZ.1, HCZ.1]; rfl, rfl⟩
  ·obtain rfl : k = 32 := by omega
   go_wp2
   go_ret
   exact ⟨by rw [HI.out, List.drop_of_length_le (by rw [HL.1]; exact Nat.le_refl _), List.drop_of_length_le (by rw [HL'.out]; exact Nat.le_refl _)]; rfl, rfl⟩
set_option maxHeartbeats 1000000 in
theorem or2 (x y r : Int) (hr : (if x = 0 then y else x) = r) (b : Nat) (w : World) (h0 : w.cell? ⟨b, 0, none⟩ = some (.int .i64 x)) (h1 : w.cell? ⟨b, 1, none⟩ = some (.int .i64 y)) :
 Calls Tryz.prog 77 #[.slice (some ⟨b, 0, none⟩) 2 2] w fun e w' => e = .returned (.int .i64 r) ∧ w' = w := by
 have HR := Ak hr
 clear hr
 go_enter Tryz.func77, Tryz.ntmps77
 go_wp2
 go_loop [8] (fun i => ∃ k : Nat, k ≤ 2 ∧ i = .int .i64 k ∧ Aside0 ((1 ≤ k → x = 0) ∧ (2 ≤ k → y = 0))) (fun i => 2 - (intOf i).toNat)
 case atStart => exact ⟨0, by omega, rfl, ⟨fun h => absurd h (by omega), fun h => absurd h (by omega)⟩⟩
 case round =>
  obtain ⟨k, hk, rfl, HI⟩ := hrel
  by_cases hlt : k < 2
  ·obtain ⟨z, hz, HZ⟩ : ∃ z, w.cell? ⟨b, k, none⟩ = some (.int .i64 z) ∧ Aside0 ((k = 0 → z = x) ∧ (k = 1 → z = y)) := by
    rcases (show k = 0 ∨ k = 1 by omega) with rfl | rfl
    ·exact ⟨x, h0, ⟨fun _ => rfl, fun h => absurd h (by omega)⟩⟩
    ·exact ⟨y, h1, ⟨fun h => absurd h (by omega), fun _ => rfl⟩⟩
   clear h0 h1
   by_cases hz0 : z = 0
   ·subst hz0
    go_wp2
    go_round
    case rel =>
     refine ⟨k + 1, by omega, by go_num, ⟨fun _ => ?_, fun h => ?_⟩⟩
     ·rcases (show k = 0 ∨ k = 1 by omega) with rfl | rfl
      ·exact (HZ.1.1 rfl).symm
      ·exact HI.out.1 (by omega)
     ·exact (HZ.1.2 (by omega)).symm
    case measure => simp [intOf]; omega
   ·have hnz : (z == 0) = false := by simpa using hz0
    go_wp2
    go_ret
    refine ⟨?_, rfl⟩
    rcases (show k = 0 ∨ k = 1 by omega) with rfl | rfl
    ·obtain rfl := HZ.1.1 rfl
     rw [← HR.1, if_neg hz0]; rfl
    ·obtain rfl := HZ.1.2 rfl
     rw [← HR.1, if_pos (HI.out.1 (by omega))]; rfl
  ·obtain rfl : k = 2 := by omega
   clear h0 h1
   go_wp2
   go_ret
   exact ⟨by rw [← HR.1, if_pos (HI.out.1 (by omega)), HI.out.2 (by omega)]; rfl, rfl⟩
variable {α : Type} {enc : α → List Value}
def ocmp (bs : α → List Int) (nn : α → Int) (x y : α) : Int := if lcmp (bs x) (bs y) = 0 then cmp3 (nn x) (nn y) else lcmp (bs x) (bs y)
set_option maxHeartbeats 4000000 in
set_option maxRecDepth 100000 in
theorem order (bs : α → List Int) (nn : α → Int) (he : ∀ x, enc x = (bs x).map (Value.int .u8) ++ [.int .i64 (nn x)]) (hb : ∀ x, (bs x).length = 32) (x y : α) (w : World) :
 Calls Tryz.prog 97 #[.agg (enc x).toArray, .agg (enc y).toArray] w fun e w' => e = .returned (.int .i64 (ocmp bs nn x y)) ∧ ∃ q os, w' = grow (w.drewN q) os := by
 have hx : (enc x).length = 33 := by rw [he]; simp [hb]
 have hy : (enc y).length = 33 := by rw [he]; simp [hb]
 have hbx : ((w.alloc (.cells (enc x).toArray 32)).alloc (.cells (enc y).toArray 32)).heap[w.heap.size]? = some (.cells (enc x).toArray 32 (0, 0)) := (Below.heap_alloc _ _ _ (by simp)).trans (blk_new w _)
 have hby : ((w.alloc (.cells (enc x).toArray 32)).alloc (.cells (enc y).toArray 32)).heap[w.heap.size + 1]? = some (.cells (enc y).toArray 32 (0, 0)) := by
  have := blk_new (w.alloc (.cells (enc x).toArray 32)) (.cells (enc y).toArray 32)
  rwa [World.size_alloc] at this
 have hend : ∀ o, ((((w.alloc (.cells (enc x).toArray 32)).alloc (.cells (enc y).toArray 32)).drew).alloc o) = grow (w.drewN 1) #[.cells (enc x).toArray 32, .cells (enc y).toArray 32, o] := fun o => by
  rw [alloc_eq_grow, alloc_eq_grow, alloc_eq_grow, grow_grow, drew_grow, grow_grow]; rfl
 obtain ⟨W0, hW0⟩ : ∃ W0, (w.alloc (.cells (enc x).toArray 32)).alloc (.cells (enc y).toArray 32) = W0 := ⟨_, rfl⟩
 have H0 := Ak hW0
 rw [hW0] at hbx hby hend
 have HE := Ak hend
 clear hend
 obtain ⟨r, hr⟩ : ∃ r, ocmp bs nn x y = r := ⟨_, rfl⟩
 rw [hr]
 have HR := Ak hr
 have hcb : ∀ j (h : j < (bs x).length), W0.drew.cell? ⟨w.heap.size, 0 + j, none⟩ = some (.int .u8 (bs x)[j]) := fun j h => by
  refine cell_of_block (w := W0.drew) hbx _ _ ?_
  rw [he, Nat.zero_add, List.getElem?_append_left (by simpa using h)]
  simp [h]
 have hcb' : ∀ j (h : j < (bs y).length), W0.drew.cell? ⟨w.heap.size + 1, 0 + j, none⟩ = some (.int .u8 (bs y)[j]) := fun j h => by
  refine cell_of_block (w := W0.drew) hby _ _ ?_
  rw [he, Nat.zero_add, List.getElem?_append_left (by simpa using h)]
  simp [h]
 have hcn : W0.drew.cell? ⟨w.heap.size, 32, none⟩ = some (.int .i64 (nn x)) := by
  refine cell_of_block (w := W0.drew) hbx _ _ ?_
  rw [he, List.getElem?_append_right (by simp [hb])]
  simp [hb]
 have hcn' : W0.drew.cell? ⟨w.heap.size + 1, 32, none⟩ = some (.int .i64 (nn y)) := by
  refine cell_of_block (w := W0.drew) hby _ _ ?_
  rw [he, List.getElem?_append_right (by simp [hb])]
  simp [hb]
 have CC := Ak (compare (bs x) (bs y) (hb x) (hb y) w.heap.size 0 (w.heap.size + 1) 0 W0.drew hcb hcb')
 have CN := Ak (cmp_int (nn x) (nn y) W0.drew)
 clear hr hcb hcb' hbx hby hb hW0 he
 go_enter Tryz.func97, Tryz.ntmps97
 go_wp2
 rw [H0.1]
 refine wp_region_still_tail 10 (by kernel_rfl) (by kernel_rfl) ?_
 show wpStill _ _ W0.drew _ _ _
 simp only [List.take_succ_cons, List.take_zero, List.drop_succ_cons, List.drop_zero]
 repeat still_step
 still_call CC.1
 repeat still_step
 still_call CN.1
 refine wpStill_nil ?_
 go_wp2_with (go_at_call 77; refine (or2 (lcmp (bs x) (bs y)) (cmp3 (nn x) (nn y)) r HR.1 _ _ (by simp) (by simp)).mono ?_; rintro e w' ⟨rfl, rfl⟩)
 go_ret
 exact ⟨rfl, 1, _, HE.1 _⟩
end Go.Proofs.YtiodebjjbgcbhaaGreat.OrdO
