import Derived.Lib.QuietBelow
import Derived.Test.YtiodebjjbgcbhaaGreatStbP
import Derived.Test.YtiodebjjbgcbhaaGreatWGuard
import Derived.Test.YtiodebjjbgcbhaaGreatDelP
namespace Go.Proofs.YtiodebjjbgcbhaaGreat.Stb
open Go.RowKit Go.Sort Go.Lib Go.Shelf Go.Proofs YtiodebjjbgcbhaaGreatW.PrintWords YtiodebjjbgcbhaaGreat RowK Fill
attribute [local go_sem ↓ high] Wide.hv44
set_option linter.unusedVariables false
set_option linter.unusedSectionVars false
variable {α : Type} [Inhabited α]
section
variable {enc : α → List Value} {k : Nat}
omit [Inhabited α] in
theorem over_take {cur : List Value} {o n : Nat} {vs : List Value} (h : o + vs.length ≤ n) (hn : n ≤ cur.length) : (over cur o vs).take n = over (cur.take n) o vs := by
 unfold over
 rw [List.take_append, List.take_take, Nat.min_eq_left (by omega), List.length_append, List.length_take, Nat.min_eq_left (by omega), List.drop_take, List.take_of_length_le (by rw [List.length_append, List.length_take]; omega)]
omit [Inhabited α] in
theorem over_flat (hk : ∀ x, (enc x).length = k) : ∀ (zs : List α) (i : Nat) (y : α), i < zs.length → over (zs.flatMap enc) (i * k) (enc y) = (zs.set i y).flatMap enc
 | [], i, y, h => by simp at h
 | x :: xs, 0, y, h => by
  unfold over
  rw [Nat.zero_mul, List.take_zero, List.nil_append, Nat.zero_add, l0_, List.flatMap_cons, List.flatMap_cons, List.drop_append, List.drop_of_length_le (by rw [hk, hk]; exact Nat.le_refl _), hk, hk, Nat.sub_self, List.drop_zero, List.nil_append]
 | x :: xs, i + 1, y, h => by
  have ih := over_flat hk xs i y (by simpa using h)
  rw [l1_, List.flatMap_cons, List.flatMap_cons, ← ih]
  unfold over
  have e : (i + 1) * k = (enc x).length + i * k := by rw [hk, Nat.add_mul, Nat.one_mul, Nat.add_comm]
  rw [e, List.take_append, List.take_of_length_le (by omega), List.drop_append, List.drop_of_length_le (by omega), List.nil_append]
  rw [show (enc x).length + i * k - (enc x).length = i * k by omega, show (enc x).length + i * k + (enc y).length - (enc x).length = i * k + (enc y).length by omega]
  simp
end
structure St (enc : α → List Value) (k e g m : Nat) (w0 : World) (d : Array α) (W : World) : Prop where
 hk : ∀ x, (enc x).length = k
 h1 : ∀ x, ∀ v ∈ enc x, v.oneCell' = true
 blk : ∃ cur : List Value, W.heap[g]? = some (.cells cur.toArray e (0, 0)) ∧ cur.length = m ∧ d.size * k ≤ m ∧ cur.take (d.size * k) = d.toList.flatMap enc
 gb : w0.grownBy W (some g)
section
variable {enc : α → List Value} {k e g m : Nat} {w0 W : World} {d : Array α} {P : Program}
theorem St.lt (h : St enc k e g m w0 d W) : g < W.heap.size := by
 obtain ⟨cur, hb, _⟩ := h.blk
 exact (Array.getElem?_eq_some_iff.1 hb).1
theorem St.below {W' : World} (h : St enc k e g m w0 d W) (hb : Below W.heap.size W W') : St enc k e g m w0 d W' := by
 obtain ⟨cur, h1, h2, h3⟩ := h.blk
 exact ⟨h.hk, h.h1, ⟨cur, (hb.block g h.lt).trans h1, h2, h3⟩, DelB.grown_below h.gb hb⟩
theorem St.drew (h : St enc k e g m w0 d W) : St enc k e g m w0 d W.drew := ⟨h.hk, h.h1, h.blk, ⟨h.gb.os, h.gb.tape, h.gb.output, h.gb.size, h.gb.block⟩⟩
theorem St.ld (h : St enc k e g m w0 d W) (P : Program) {i : Nat} (hi : i < d.size) : Sem.run P (loadCellsFrom ⟨g, i * k, none⟩ 0 k #[]) W = .ok (enc d[i]!).toArray W := by
 obtain ⟨cur, h1, h2, h3, h4⟩ := h.blk
 refine row_load h1 (i * k) k _ (h.hk _) ?_
 have hl : i < d.toList.length := by simpa using hi
 have := DelB.flat_chunk enc k d.toList (fun y _ => h.hk y) i hl
 have hle : i * k + k ≤ d.size * k := by
  have := Nat.mul_le_mul_right k (show i + 1 ≤ d.size from hi)
  rwa [Nat.add_mul, Nat.one_mul] at this
 rw [← h4, List.drop_take, List.take_take, Nat.min_eq_left (by omega)] at this
 rw [this, Array.getElem_toList, getElem!_pos d i hi]
theorem St.put (h : St enc k e g m w0 d W) {i : Nat} (hi : i < d.size) (y : α) : Sem.run P (storeCells ⟨g, i * k, none⟩ (enc y) 0) W = .ok () (W.setCells g (i * k) (enc y)) ∧ St enc k e g m w0 (d.setIfInBounds i y) (W.setCells g (i * k) (enc y)) := by
 obtain ⟨cur, h1, h2, h3, h4⟩ := h.blk
 have hle : i * k + k ≤ d.size * k := by
  have := Nat.mul_le_mul_right k (show i + 1 ≤ d.size from hi)
  rwa [Nat.add_mul, Nat.one_mul] at this
 have hl : i * k + (enc y).length ≤ cur.length := by rw [h.hk]; omega
 refine ⟨row_store h1 (i * k) (enc y) hl (h.h1 y), h.hk, h.h1, ⟨over cur (i * k) (enc y), heap_setCells _ _ _ cur h1 hl, by rw [over_len _ _ _ hl, h2], by simpa using h3, ?_⟩, DelB.grown_set h.gb _ _⟩
 rw [Array.size_setIfInBounds, over_take (by rw [h.hk]; omega) (by omega), h4, over_flat h.hk _ _ _ (by simpa using hi), Array.toList_setIfInBounds]
theorem St.swapped (h : St enc k e g m w0 d W) {i j : Nat} (hi : i < d.size) (hj : j < d.size) :
 Sem.run P (storeCells ⟨g, i * k, none⟩ (enc d[j]!) 0) W = .ok () (W.setCells g (i * k) (enc d[j]!)) ∧
 Sem.run P (storeCells ⟨g, j * k, none⟩ (enc d[i]!) 0) (W.setCells g (i * k) (enc d[j]!)) = .ok () ((W.setCells g (i * k) (enc d[j]!)).setCells g (j * k) (enc d[i]!)) ∧
 St enc k e g m w0 (swp d i j) ((W.setCells g (i * k) (enc d[j]!)).setCells g (j * k) (enc d[i]!)) :=
 ⟨(h.put hi _).1, ((h.put (P := P) hi _).2.put (by simpa using hj) _).1, ((h.put (P := P) hi _).2.put (P := P) (by simpa using hj) _).2⟩
end
set_option maxHeartbeats 4000000 in
set_option maxRecDepth 1000000 in
theorem swapRange {enc : α → List Value} {g m : Nat} {w0 w : World} {d : Array α} {a b n N cap : Nat} (fv : Value) (hN : d.size = N) (hM : N < 1000000) (hab : a + n ≤ b) (hb : b + n ≤ N) (H : St enc 44 38 g m w0 d w) :
 Calls Tryz.prog 99 #[.slice (some ⟨g, 0, none⟩) N cap, .int .i64 a, .int .i64 b, .int .i64 n, fv] w fun e' w' => e' = .returned (.tuple #[]) ∧
  ∃ d', d'.size = N ∧ (∀ x, D d' x = S a b n (D d) x) ∧ PermIn a (b + n) d d' ∧ St enc 44 38 g m w0 d' w' := by
 have mixed : Tryz.prog.follows .mixedOrders = true := by kernel_rfl
 have S0 := Ak H
 clear H
 have HN := Ak hN
 clear hN
 go_enter Tryz.func99, Tryz.ntmps99
 go_wp2
 go_loopg [10] n (fun kq v wr => ∃ (i : Nat) (dk : Array α), v = .int .i64 i ∧ i ≤ n ∧ n - i ≤ kq ∧ Aside0 (dk.size = N) ∧ Aside0 (∀ x, D dk x = S a b i (D d) x) ∧ Aside0 (PermIn a (b + n) d dk) ∧ Aside0 (St enc 44 38 g m w0 dk wr))
 case atStart => exact ⟨0, d, rfl, by omega, by omega, HN, ⟨fun x => (S_zero a b _ x).symm⟩, ⟨permIn_refl d a (b + n)⟩, S0⟩
 case round =>
  clear S0
  obtain ⟨i, dk, rfl, hin, hkq, HD, HS, HP, S1⟩ := hrel
  by_cases hlt : i < n
  ·have hz : (i : Int) < (n : Int) := by omega
   go_wp2_with fail
   have eA : ((a : Int) + (i : Int)).toNat = a + i := by omega
   have pA : (0 : Int) ≤ (a : Int) + (i : Int) := by omega
   have bA : (a : Int) + (i : Int) < (N : Int) := by omega
   have rA : IntKind.i64.wrap ((a : Int) + (i : Int)) = (a : Int) + (i : Int) := by rw [IntKind.wrap_i64]; omega
   have eB : ((b : Int) + (i : Int)).toNat = b + i := by omega
   have pB : (0 : Int) ≤ (b : Int) + (i : Int) := by omega
   have bB : (b : Int) + (i : Int) < (N : Int) := by omega
   have rB : IntKind.i64.wrap ((b : Int) + (i : Int)) = (b : Int) + (i : Int) := by rw [IntKind.wrap_i64]; omega
   have hai : a + i < dk.size := by rw [HD.out]; omega
   have hbi : b + i < dk.size := by rw [HD.out]; omega
   have SW := S1.out.drew.swapped (P := Tryz.prog) hai hbi
   have l1 : Sem.run Tryz.prog (Wide.heavy0 ⟨g, (a + i) * 44, none⟩ 44) wr.drew = _ := S1.out.drew.ld Tryz.prog hai
   have l2 : Sem.run Tryz.prog (Wide.heavy0 ⟨g, (b + i) * 44, none⟩ 44) wr.drew = _ := S1.out.drew.ld Tryz.prog hbi
   have s1 := SW.1
   have s2 := SW.2.1
   have S2 := Ak SW.2.2
   have n1 : (enc dk[a + i]!).length = 44 := S1.out.hk _
   have n2 : (enc dk[b + i]!).length = 44 := S1.out.hk _
   have HD2 : Aside0 ((swp dk (a + i) (b + i)).size = N) := ⟨by rw [size_swp]; exact HD.out⟩
   have HS2 : Aside0 (∀ x, D (swp dk (a + i) (b + i)) x = S a b (i + 1) (D d) x) := ⟨fun x => S_step HS.out hlt hab (by rw [HD.out]; exact hb) x⟩
   have HP2 : Aside0 (PermIn a (b + n) d (swp dk (a + i) (b + i))) := ⟨permIn_trans _ _ _ _ _ HP.out (swp_permIn dk a (b + n) (a + i) (b + i) (by omega) (by omega) (by omega) (by omega) (by rw [HD.out]; exact hb))⟩
   generalize enc dk[a + i]! = c1 at S2 l1 s2 n1
   generalize enc dk[b + i]! = c2 at S2 l2 s1 s2 n2
   clear S1 SW hai hbi HD HS HP
   go_wp2_with fail
   go_big_region_o
   clear l1 l2 s1 s2
   generalize (wr.drew.setCells g ((a + i) * 44) c2).setCells g ((b + i) * 44) c1 = w2 at S2 ⊢
   go_wp2
   go_roundg (n - (i + 1))
   case measure => omega
   case rel => exact ⟨i + 1, _, by go_num, hlt, Nat.le_refl _, HD2, HS2, HP2, S2⟩
  ·obtain rfl : i = n := by omega
   go_wp2
   go_end0
   exact ⟨rfl, dk, HD.out, HS.out, HP.out, S1.out⟩
set_option maxHeartbeats 4000000 in
set_option maxRecDepth 1000000 in
theorem rotate {enc : α → List Value} {g m' : Nat} {w0 w : World} {d : Array α} {a m b N cap : Nat} (fv : Value) (hN : d.size = N) (hM : N < 1000000) (ham : a < m) (hmb : m < b) (hb : b ≤ N) (H : St enc 44 38 g m' w0 d w) :
 Calls Tryz.prog 96 #[.slice (some ⟨g, 0, none⟩) N cap, .int .i64 a, .int .i64 m, .int .i64 b, fv] w fun e' w' => e' = .returned (.tuple #[]) ∧
  ∃ d', d'.size = N ∧ (∀ x, D d' x = R a m b (D d) x) ∧ PermIn a b d d' ∧ St enc 44 38 g m' w0 d' w' := by
 have S0 := Ak H
 clear H
 have HN := Ak hN
 clear hN
 go_enter Tryz.func96, Tryz.ntmps96
 go_wp2
 go_loopg [10, 11] (b - a) (fun kq vi vj wr => ∃ (i j : Nat) (dk : Array α), vi = .int .i64 i ∧ vj = .int .i64 j ∧ 0 < i ∧ 0 < j ∧ a + i ≤ m ∧ m + j ≤ b ∧ i + j ≤ kq ∧ Aside0 (dk.size = N) ∧ Aside0 (∀ x, R (m - i) m (m + j) (D dk) x = R a m b (D d) x) ∧ Aside0 (PermIn a b d dk) ∧ Aside0 (St enc 44 38 g m' w0 dk wr))
 case atStart => exact ⟨m - a, b - m, d, by go_num, by go_num, by omega, by omega, by omega, by omega, by omega, HN, ⟨fun x => by rw [show m - (m - a) = a by omega, show m + (b - m) = b by omega]⟩, ⟨permIn_refl d a b⟩, S0⟩
 case round =>
  clear S0
  obtain ⟨i, j, dk, rfl, rfl, hi0, hj0, hia, hjb, hkq, HD, HR, HP, S1⟩ := hrel
  have emi : (m : Int) - (i : Int) = ((m - i : Nat) : Int) := by omega
  have emj : (m : Int) + (j : Int) - (i : Int) = if i ≤ j then ((m + j - i : Nat) : Int) else (m : Int) + (j : Int) - (i : Int) := by split <;> omega
  by_cases heq : i = j
  ·subst heq
   have C := Ak (swapRange (a := m - i) (b := m) (n := i) (N := N) (cap := cap) fv HD.out hM (by omega) (by omega) S1.out)
   go_wp2_with (go_at_call 99; refine C.1.mono ?_; rintro e w' ⟨rfl, d', h1, h2, h3, h4⟩; have K := Ak (And.intro h1 (And.intro h2 (And.intro h3 h4))); clear h1 h2 h3 h4)
   go_end0
   obtain ⟨h1, h2, h3, h4⟩ := K.1
   refine ⟨rfl, d', h1, fun x => ?_, permIn_trans _ _ _ _ _ HP.out (permIn_mono _ _ _ _ _ _ (by omega) (by omega) (by rw [HD.out]; exact hb) h3), h4⟩
   rw [h2, ← HR.out, R_eq_S (by omega) (by omega) (by omega), show m - (m - i) = i by omega]
  ·have hne : (((i : Int) == (j : Int)) = false) := by simpa using fun e => heq (by omega)
   by_cases hgt : j < i
   ·have hz : (j : Int) < (i : Int) := by omega
    have C := Ak (swapRange (a := m - i) (b := m) (n := j) (N := N) (cap := cap) fv HD.out hM (by omega) (by omega) S1.out)
    go_wp2_with (go_at_call 99; refine C.1.mono ?_; rintro e w' ⟨rfl, d', h1, h2, h3, h4⟩; have K := Ak (And.intro h1 (And.intro h2 (And.intro h3 h4))); clear h1 h2 h3 h4)
    go_roundg (i - j + j)
    case measure => omega
    case rel =>
     obtain ⟨h1, h2, h3, h4⟩ := K.1
     exact ⟨i - j, j, d', by go_num, rfl, by omega, hj0, by omega, hjb, by omega, ⟨h1⟩, ⟨fun x => by rw [R_big hgt (by omega) hj0 h2]; exact HR.out x⟩, ⟨permIn_trans _ _ _ _ _ HP.out (permIn_mono _ _ _ _ _ _ (by omega) (by omega) (by rw [HD.out]; exact hb) h3)⟩, ⟨h4⟩⟩
   ·have hz : ¬ (j : Int) < (i : Int) := by omega
    have C := Ak (swapRange (a := m - i) (b := m + j - i) (n := i) (N := N) (cap := cap) fv HD.out hM (by omega) (by omega) S1.out)
    rw [if_pos (by omega)] at emj
    go_wp2_with (go_at_call 99; refine C.1.mono ?_; rintro e w' ⟨rfl, d', h1, h2, h3, h4⟩; have K := Ak (And.intro h1 (And.intro h2 (And.intro h3 h4))); clear h1 h2 h3 h4)
    go_roundg (i + (j - i))
    case measure => omega
    case rel =>
     obtain ⟨h1, h2, h3, h4⟩ := K.1
     exact ⟨i, j - i, d', rfl, by go_num, hi0, by omega, hia, by omega, by omega, ⟨h1⟩, ⟨fun x => by rw [R_small (by omega) (by omega) hi0 h2]; exact HR.out x⟩, ⟨permIn_trans _ _ _ _ _ HP.out (permIn_mono _ _ _ _ _ _ (by omega) (by omega) (by rw [HD.out]; exact hb) h3)⟩, ⟨h4⟩⟩
def lto (cf : α → α → Int) (x y : α) : Bool := decide (cf x y < 0)
def Cmp (enc : α → List Value) (fg : Nat) (cb : Array Value) (cf : α → α → Int) (g : Nat) (w0 : World) : Prop :=
 ∀ W, w0.grownBy W (some g) → ∀ x y, Calls Tryz.prog fg (#[.agg (enc x).toArray, .agg (enc y).toArray] ++ cb) W fun e w' => e = .returned (.int .i64 (cf x y)) ∧ Below W.heap.size W w'
theorem Cmp.at {enc : α → List Value} {fg g k e m : Nat} {cb : Array Value} {cf : α → α → Int} {w0 W : World} {d : Array α} (h : Cmp enc fg cb cf g w0) (S : St enc k e g m w0 d W) (x y : α) (dd : Nat) (os : Array Obj) :
 Calls Tryz.prog fg (#[.agg (enc x).toArray, .agg (enc y).toArray] ++ cb) (grow (redrawn W dd) os) fun e w' => e = .returned (.int .i64 (cf x y)) ∧ Below (grow (redrawn W dd) os).heap.size (grow (redrawn W dd) os) w' :=
 h _ (S.below (below_regrown W dd os)).gb x y
theorem St.ldr {enc : α → List Value} {k e g m : Nat} {w0 W : World} {d : Array α} (S : St enc k e g m w0 d W) (P : Program) {i : Nat} (hi : i < d.size) (dd : Nat) (os : Array Obj) :
 Sem.run P (loadCellsFrom ⟨g, i * k, none⟩ 0 k #[]) (grow (redrawn W dd) os) = .ok (enc d[i]!).toArray (grow (redrawn W dd) os) := (S.below (below_regrown W dd os)).ld P hi
theorem told_perm {ltc : α → α → Bool} {lt : α → α → Prop} {a i b y : Nat} {d dk : Array α} (h : ∀ x y, a ≤ x → x < y → y < b → Told ltc lt (D d x) (D d y)) (hy : y < b) (hi : i ≤ y) (hb : b ≤ d.size) (hP : PermIn a i d dk) (x : Nat) (hx : a ≤ x) (hxi : x < i) : Told ltc lt (D dk x) (D d y) :=
 permIn_all d dk a i (fun u => Told ltc lt u (D d y)) (by omega) hP (fun z h1 h2 => h z y h1 (by omega) hy) x hx hxi
set_option maxHeartbeats 4000000 in
set_option maxRecDepth 1000000 in
theorem insSort {enc : α → List Value} {g m : Nat} {w0 w : World} {d : Array α} {a b N cap fg : Nat} {cb : Array Value} {cf : α → α → Int} {lt : α → α → Prop} (ht : ∀ u v w, lt u v → lt v w → lt u w) (eg : ∀ args w, (callFunc fg args).run Tryz.prog w = .ok (.enter fg args) w) (hC : Cmp enc fg cb cf g w0)
 (hN : d.size = N) (hM : N < 1000000) (hab : a ≤ b) (hb : b ≤ N) (hT : ∀ x y, a ≤ x → x < y → y < b → Told (lto cf) lt (D d x) (D d y)) (H : St enc 44 38 g m w0 d w) :
 Calls Tryz.prog 89 #[.slice (some ⟨g, 0, none⟩) N cap, .int .i64 a, .int .i64 b, .func (.func fg) #[] cb] w fun e' w' => e' = .returned (.tuple #[]) ∧
  ∃ d', d'.size = N ∧ Asc lt a b d' ∧ PermIn a b d d' ∧ St enc 44 38 g m w0 d' w' := by
 have mixed : Tryz.prog.follows .mixedOrders = true := by kernel_rfl
 have S0 := Ak H
 have HN := Ak hN
 have HT := Ak hT
 have HC := Ak hC
 clear H hN hT hC
 go_enter Tryz.func89, Tryz.ntmps89
 go_wp2
 go_loopg [8] (b - a) (fun kq v wr => ∃ (i : Nat) (dk : Array α), v = .int .i64 i ∧ a < i ∧ i ≤ b + 1 ∧ b + 1 - i ≤ kq + 1 ∧ Aside0 (dk.size = N) ∧ Aside0 (Asc lt a i dk) ∧ Aside0 (PermIn a i d dk) ∧ Aside0 (PermIn a b d dk) ∧ Aside0 (St enc 44 38 g m w0 dk wr))
 case atStart => exact ⟨a + 1, d, by go_num, by omega, by omega, by omega, HN, ⟨fun x y h1 h2 h3 => by omega⟩, ⟨permIn_refl d a _⟩, ⟨permIn_refl d a _⟩, S0⟩
 case round =>
  clear S0
  obtain ⟨i, dk, rfl, hai, hib, hkq, HD, HA, HP, HPB, S1⟩ := hrel
  by_cases hlt : i < b
  ·have hltz : (i : Int) < (b : Int) := by omega
   go_wp2
   go_loopg [9] i (fun k2 v wr => ∃ (j : Nat) (dj : Array α), v = .int .i64 j ∧ a ≤ j ∧ j ≤ i ∧ j ≤ k2 ∧ Aside0 (dj.size = N) ∧ Aside0 (∀ x, D dj x = R j i (i + 1) (D dk) x) ∧ Aside0 (j < i → lt (D dk i) (D dk j)) ∧ Aside0 (PermIn a (i + 1) d dj) ∧ Aside0 (St enc 44 38 g m w0 dj wr))
   case atStart => exact ⟨i, dk, rfl, by omega, Nat.le_refl _, Nat.le_refl _, HD, ⟨fun x => (R_none_l x).symm⟩, ⟨fun h => absurd h (Nat.lt_irrefl _)⟩, ⟨permIn_mono _ _ _ _ _ _ (Nat.le_refl _) (by omega) (by rw [HN.1]; omega) HP.out⟩, S1⟩
   case round =>
    obtain ⟨j, dj, rfl, haj, hji, hk2, HDj, HR, HL, HPj, S2⟩ := hrel
    have OUT : Aside0 ((a < j → lt (D dk (j - 1)) (D dk i)) → Asc lt a (i + 1) dj) := ⟨fun hl => asc_down ht HA.out HR.out haj hji hl HL.out⟩
    by_cases hja : a < j
    ·obtain ⟨jp, rfl⟩ : ∃ jp, j = jp + 1 := ⟨j - 1, by omega⟩
     have hjaz : (a : Int) < (jp : Int) + 1 := by omega
     have TL : Aside0 (Told (lto cf) lt (D dk jp) (D dk i)) := ⟨by
      have := told_perm HT.1 hlt (Nat.le_refl i) (by rw [HN.1]; exact hb) HP.out jp (by omega) (by omega)
      rwa [← show D dk i = D d i from HP.out.2.1 i (.inr (Nat.le_refl _))] at this⟩
     have e1 : D dj (jp + 1) = D dk i := by rw [HR.out]; unfold R; rw [if_pos (by omega)]; congr 1; omega
     have e2 : D dj jp = D dk jp := by rw [HR.out]; unfold R; rw [if_neg (by omega), if_neg (by omega)]
     have E1 := Ak e1
     have E2 := Ak e2
     clear e1 e2
     have eA : ((jp : Int) + 1).toNat = jp + 1 := by omega
     have pA : (0 : Int) ≤ (jp : Int) + 1 := by omega
     have bA : (jp : Int) + 1 < (N : Int) := by omega
     have eB : ((jp : Int)).toNat = jp := by omega
     have pB : (0 : Int) ≤ (jp : Int) := by omega
     have bB : (jp : Int) < (N : Int) := by omega
     have rB : IntKind.i64.wrap (jp : Int) = (jp : Int) := by rw [IntKind.wrap_i64]; omega
     have h1 : jp + 1 < dj.size := by rw [HDj.out]; omega
     have h2 : jp < dj.size := by rw [HDj.out]; omega
     have l1 : ∀ dd os, Sem.run Tryz.prog (Wide.heavy0 ⟨g, (jp + 1) * 44, none⟩ 44) (grow (redrawn wr dd) os) = _ := fun dd os => S2.out.ldr Tryz.prog h1 dd os
     have l2 : ∀ dd os, Sem.run Tryz.prog (Wide.heavy0 ⟨g, jp * 44, none⟩ 44) (grow (redrawn wr dd) os) = _ := fun dd os => S2.out.ldr Tryz.prog h2 dd os
     have hcg := fun dd os => HC.1.at S2.out dj[jp + 1]! dj[jp]! dd os
     have HH := Ak (And.intro h1 h2)
     clear h1 h2
     obtain ⟨x1, hx1⟩ : ∃ x, x = dj[jp + 1]! := ⟨_, rfl⟩
     obtain ⟨x2, hx2⟩ : ∃ x, x = dj[jp]! := ⟨_, rfl⟩
     rw [← hx1] at l1 hcg
     rw [← hx2] at l2 hcg
     have TL2 : Aside0 (Told (lto cf) lt x2 x1) := ⟨by rw [hx1, hx2, show dj[jp + 1]! = D dk i from E1.1, show dj[jp]! = D dk jp from E2.1]; exact TL.1⟩
     have X1 := Ak hx1
     have X2 := Ak hx2
     clear hx1 hx2
     by_cases hlv : cf x1 x2 < 0
     ·have LT := Ak (show lt (D dk i) (D dk jp) by rw [← E1.1, ← E2.1]; show lt dj[jp + 1]! dj[jp]!; rw [← X1.1, ← X2.1]; exact TL2.1.1 (decide_eq_true hlv))
      go_wp2_with fail
      refine wp_region_quiet_below mixed (by kernel_rfl) ?_
      repeat (quiet_step (first | (go_at_fn fg; refine Calls.regrown_of (hcg _ _))))
      refine wpQuiet_nil ?_
      intro _ hw'
      obtain ⟨⟨nq, osq⟩, hw''⟩ := hw'
      subst hw''
      go_wp2_with fail
      have S3 := Ak (S2.out.below (below_regrown wr nq osq))
      clear l1 l2 hcg S2
      generalize grow (redrawn wr nq) osq = wq at S3 ⊢
      have SW := S3.1.drew.swapped (P := Tryz.prog) HH.1.1 HH.1.2
      have l1 : Sem.run Tryz.prog (Wide.heavy0 ⟨g, (jp + 1) * 44, none⟩ 44) wq.drew = _ := S3.1.drew.ld Tryz.prog HH.1.1
      have l2 : Sem.run Tryz.prog (Wide.heavy0 ⟨g, jp * 44, none⟩ 44) wq.drew = _ := S3.1.drew.ld Tryz.prog HH.1.2
      have s1 := SW.1
      have s2 := SW.2.1
      have S4 := Ak SW.2.2
      rw [← X1.1] at l1 s2
      rw [← X2.1] at l2 s1 s2
      have S4' : Aside0 (St enc 44 38 g m w0 (swp dj (jp + 1) jp) ((wq.drew.setCells g ((jp + 1) * 44) (enc x2)).setCells g (jp * 44) (enc x1))) := ⟨by rw [X1.1, X2.1]; exact S4.1⟩
      have n1 : (enc x1).length = 44 := S3.1.hk _
      have n2 : (enc x2).length = 44 := S3.1.hk _
      have HD2 : Aside0 ((swp dj (jp + 1) jp).size = N) := ⟨by rw [size_swp]; exact HDj.out⟩
      have HR2 : Aside0 (∀ x, D (swp dj (jp + 1) jp) x = R jp i (i + 1) (D dk) x) := ⟨fun x => R_down HR.out (by omega) (by rw [HDj.out]; omega) x⟩
      have HP2 : Aside0 (PermIn a (i + 1) d (swp dj (jp + 1) jp)) := ⟨permIn_trans _ _ _ _ _ HPj.out (swp_permIn dj a (i + 1) (jp + 1) jp (by omega) (by omega) (by omega) (by omega) (by rw [HDj.out]; omega))⟩
      clear SW S3 S4 hlv HDj HR HPj E1 E2 OUT TL TL2 HL X1 X2
      generalize enc x1 = c1 at S4' l1 s2 n1
      generalize enc x2 = c2 at S4' l2 s1 s2 n2
      go_big_region_o
      clear l1 l2 s1 s2
      generalize (wq.drew.setCells g ((jp + 1) * 44) c2).setCells g (jp * 44) c1 = w2 at S4' ⊢
      all_goals go_wp2
      go_roundg jp
      case measure => omega
      case rel => exact ⟨jp, _, by first | rfl | go_num, by omega, by omega, Nat.le_refl _, HD2, HR2, ⟨fun _ => LT.1⟩, HP2, S4'⟩
     ·have LT := Ak (show lt (D dk jp) (D dk i) by rw [← E1.1, ← E2.1]; show lt dj[jp]! dj[jp + 1]!; rw [← X1.1, ← X2.1]; exact TL2.1.2 (decide_eq_false hlv))
      go_wp2_with fail
      refine wp_region_quiet_below mixed (by kernel_rfl) ?_
      repeat (quiet_step (first | (go_at_fn fg; refine Calls.regrown_of (hcg _ _))))
      refine wpQuiet_nil ?_
      intro _ hw'
      obtain ⟨⟨nq, osq⟩, hw''⟩ := hw'
      subst hw''
      have S3 := Ak (S2.out.below (below_regrown wr nq osq))
      clear l1 l2 hcg S2
      go_wp2
      go_roundg (b - (i + 1))
      case measure => omega
      case rel => exact ⟨i + 1, dj, by go_num, by omega, by omega, by omega, HDj, ⟨OUT.1 fun _ => by rw [Nat.add_sub_cancel]; exact LT.1⟩, HPj, ⟨permIn_mono _ _ _ _ _ _ (Nat.le_refl _) hlt (by rw [HN.1]; omega) HPj.out⟩, S3⟩
    ·have hjaz : ¬ (a : Int) < (j : Int) := by omega
     have hjaz' : decide ((j : Int) > (a : Int)) = false := decide_eq_false (by omega)
     have S3 := Ak S2.out.drew
     go_wp2_with fail
     go_big_region_o
     all_goals go_wp2
     go_roundg (b - (i + 1))
     case measure => omega
     case rel => exact ⟨i + 1, dj, by go_num, by omega, by omega, by omega, HDj, ⟨OUT.1 fun h => absurd h hja⟩, HPj, ⟨permIn_mono _ _ _ _ _ _ (Nat.le_refl _) hlt (by rw [HN.1]; omega) HPj.out⟩, S3⟩
  ·have hltz : ¬ (i : Int) < (b : Int) := by omega
   go_wp2
   go_end0
   have e : Asc lt a b dk := fun x y h1 h2 h3 => HA.out x y h1 h2 (by omega)
   exact ⟨rfl, dk, HD.out, e, HPB.out, S1.out⟩
set_option maxHeartbeats 8000000 in
set_option maxRecDepth 1000000 in
theorem symMerge1 {enc : α → List Value} {g m' : Nat} {w0 w : World} {d : Array α} {a m b N cap fg : Nat} {cb : Array Value} {cf : α → α → Int} {lt : α → α → Prop} (ht : ∀ u v w, lt u v → lt v w → lt u w) (eg : ∀ args w, (callFunc fg args).run Tryz.prog w = .ok (.enter fg args) w) (hC : Cmp enc fg cb cf g w0)
 (hN : d.size = N) (hM : N < 1000000) (ham : a < m) (ham1 : m ≤ a + 1) (hmb : m < b) (hb : b ≤ N) (hA : Asc lt a (m) d) (hB : Asc lt (m) (b) d) (hX : Cross (lto cf) lt a (m) (b) d) (H : St enc 44 38 g m' w0 d w) :
 Calls Tryz.prog 90 #[.slice (some ⟨g, 0, none⟩) N cap, .int .i64 ((a : Nat) : Int), .int .i64 ((m : Nat) : Int), .int .i64 ((b : Nat) : Int), .func (.func fg) #[] cb] w fun e' w' => e' = .returned (.tuple #[]) ∧
  ∃ d', d'.size = N ∧ Asc lt a (b) d' ∧ PermIn a (b) d d' ∧ St enc 44 38 g m' w0 d' w' := by
 have mixed : Tryz.prog.follows .mixedOrders = true := by kernel_rfl
 have S0 := Ak H
 have HN := Ak hN
 have HA := Ak hA
 have HB := Ak hB
 have HX := Ak hX
 have HC := Ak hC
 clear H hN hA hB hX hC
 have hmz : (m : Int) - (a : Int) = 1 := by omega
 go_enter Tryz.func90, Tryz.ntmps90
 go_wp2
 clear hmz
 go_loopg [10, 11] (b - m) (fun kq vi vj wr => ∃ (i j : Nat), vi = .int .i64 i ∧ vj = .int .i64 j ∧ m ≤ i ∧ i ≤ j ∧ j ≤ b ∧ j - i ≤ kq ∧ Aside0 (m < i → lt (D d (i - 1)) (D d a)) ∧ Aside0 (j < b → lt (D d a) (D d j)) ∧ Aside0 (St enc 44 38 g m' w0 d wr))
 case atStart => exact ⟨m, b, by first | rfl | go_num, by first | rfl | go_num, by omega, by omega, by omega, by omega, ⟨fun h => absurd h (Nat.lt_irrefl _)⟩, ⟨fun h => absurd h (Nat.lt_irrefl _)⟩, S0⟩
 case round =>
  clear S0
  obtain ⟨i, j, rfl, rfl, hi0, hij, hj0, hkq, HL, HR, S1⟩ := hrel
  by_cases hlt : i < j
  ·have hltz : (i : Int) < (j : Int) := by omega
   obtain ⟨h, hh⟩ : ∃ h, h = (i + j) / 2 := ⟨_, rfl⟩
   have hhz : ((i : Int) + (j : Int)) / 2 = (h : Int) := by omega
   have hih : i ≤ h := by omega
   have hhj : h < j := by omega
   clear hh
   have huq : h < d.size := by rw [HN.1]; omega
   have hvq : a < d.size := by rw [HN.1]; omega
   have puq : (0 : Int) ≤ (h : Int) := by omega
   have buq : (h : Int) < (N : Int) := by omega
   have ruq : IntKind.i64.wrap (h : Int) = (h : Int) := by rw [IntKind.wrap_i64]; omega
   have pvq : (0 : Int) ≤ (a : Int) := by omega
   have bvq : (a : Int) < (N : Int) := by omega
   have l1 : ∀ dd os, Sem.run Tryz.prog (Wide.heavy0 ⟨g, h * 44, none⟩ 44) (grow (redrawn wr dd) os) = _ := fun dd os => S1.out.ldr Tryz.prog huq dd os
   have l2 : ∀ dd os, Sem.run Tryz.prog (Wide.heavy0 ⟨g, a * 44, none⟩ 44) (grow (redrawn wr dd) os) = _ := fun dd os => S1.out.ldr Tryz.prog hvq dd os
   have hcg := fun dd os => HC.1.at S1.out d[h]! d[a]! dd os
   clear huq hvq
   obtain ⟨x1, hx⟩ : ∃ x, x = d[h]! := ⟨_, rfl⟩
   obtain ⟨x2, hy⟩ : ∃ x, x = d[a]! := ⟨_, rfl⟩
   rw [← hx] at l1 hcg
   rw [← hy] at l2 hcg
   have XU : Aside0 (x1 = D d h) := ⟨hx⟩
   have XV : Aside0 (x2 = D d a) := ⟨hy⟩
   clear hx hy
   have TL : Aside0 ((lto cf x1 x2 = true → lt (D d h) (D d a)) ∧ (lto cf x1 x2 = false → lt (D d a) (D d h))) := ⟨by rw [XU.1, XV.1]; exact HX.1 a h (Nat.le_refl _) ham (by omega) (by omega)⟩
   by_cases hlv : cf x1 x2 < 0
   ·have LT := Ak (TL.1.1 (decide_eq_true hlv))
    have hlz := eq_true hlv
    clear hlv
    go_wp2_with fail
    refine wp_region_quiet_below mixed (by kernel_rfl) ?_
    repeat (quiet_step (first | (go_at_fn fg; refine Calls.regrown_of (hcg _ _))))
    refine wpQuiet_nil ?_
    intro _ hw'
    obtain ⟨⟨nq, osq⟩, hw''⟩ := hw'
    subst hw''
    have S2 := Ak (S1.out.below (below_regrown wr nq osq))
    clear l1 l2 hcg
    generalize grow (redrawn wr nq) osq = wq at S2 ⊢
    go_wp2
    go_roundg (j - (h + 1))
    case measure => omega
    case rel => exact ⟨h + 1, j, by go_num, rfl, by omega, by omega, hj0, Nat.le_refl _, ⟨fun _ => by rw [Nat.add_sub_cancel]; exact LT.1⟩, HR, S2⟩
   ·have LT := Ak (TL.1.2 (decide_eq_false hlv))
    have hlz := eq_false hlv
    clear hlv
    go_wp2_with fail
    refine wp_region_quiet_below mixed (by kernel_rfl) ?_
    repeat (quiet_step (first | (go_at_fn fg; refine Calls.regrown_of (hcg _ _))))
    refine wpQuiet_nil ?_
    intro _ hw'
    obtain ⟨⟨nq, osq⟩, hw''⟩ := hw'
    subst hw''
    have S2 := Ak (S1.out.below (below_regrown wr nq osq))
    clear l1 l2 hcg
    generalize grow (redrawn wr nq) osq = wq at S2 ⊢
    go_wp2
    go_roundg (h - i)
    case measure => omega
    case rel => exact ⟨i, h, rfl, by first | rfl | go_num, hi0, hih, by omega, Nat.le_refl _, HL, ⟨fun _ => LT.1⟩, S2⟩
  ·obtain rfl : i = j := by omega
   clear hij hkq
   have hltz : ¬ (i : Int) < (i : Int) := by omega
   go_wp2
   go_loopg [13] (i - 1 - a) (fun kq vk wr => ∃ (k : Nat) (dk : Array α), vk = .int .i64 k ∧ a ≤ k ∧ k + 1 ≤ i ∧ i - 1 - k ≤ kq ∧ Aside0 (dk.size = N) ∧ Aside0 (∀ x, D dk x = R a m (k + 1) (D d) x) ∧ Aside0 (PermIn a b d dk) ∧ Aside0 (St enc 44 38 g m' w0 dk wr))
   case atStart => exact ⟨a, d, rfl, Nat.le_refl _, by omega, Nat.le_refl _, HN, ⟨by
    obtain rfl : m = a + 1 := by omega
    exact fun x => (R_none_r x).symm⟩, ⟨permIn_refl d a b⟩, S1⟩
   case round =>
    clear S1
    obtain ⟨k, dk, rfl, hak, hki, hkq, HD, HR2, HP, S1⟩ := hrel
    obtain ⟨ip, hip⟩ : ∃ ip, i = ip + 1 := ⟨i - 1, by omega⟩
    have hipz : (i : Int) - 1 = (ip : Int) := by omega
    have HIP := Ak hip
    have HK := Ak (And.intro hak hki)
    by_cases hlt : k < ip
    ·have hltz2 : (k : Int) < (ip : Int) := by omega
     have hkN : k + 1 < N := by omega
     have eA : ((k : Int) + 1).toNat = k + 1 := by omega
     have pA : (0 : Int) ≤ (k : Int) + 1 := by omega
     have bA : (k : Int) + 1 < (N : Int) := by omega
     have pB : (0 : Int) ≤ (k : Int) := by omega
     have bB : (k : Int) < (N : Int) := by omega
     have HD2 : Aside0 ((swp dk k (k + 1)).size = N) := ⟨by rw [size_swp]; exact HD.out⟩
     have HR3 : Aside0 (∀ x, D (swp dk k (k + 1)) x = R a m (k + 2) (D d) x) := ⟨by
      obtain rfl : m = a + 1 := by omega
      exact fun x => R_up HR2.out hak (by rw [HD.out]; exact hkN) x⟩
     have HP2 : Aside0 (PermIn a b d (swp dk k (k + 1))) := ⟨permIn_trans _ _ _ _ _ HP.out (swp_permIn dk a b k (k + 1) hak (by omega) (by omega) (by omega) (by rw [HD.out]; exact hb))⟩
     have hu : k < dk.size := by rw [HD.out]; omega
     have hv : k + 1 < dk.size := by rw [HD.out]; omega
     have SW := S1.out.drew.swapped (P := Tryz.prog) hu hv
     have l1 : Sem.run Tryz.prog (Wide.heavy0 ⟨g, (k) * 44, none⟩ 44) wr.drew = _ := S1.out.drew.ld Tryz.prog hu
     have l2 : Sem.run Tryz.prog (Wide.heavy0 ⟨g, (k + 1) * 44, none⟩ 44) wr.drew = _ := S1.out.drew.ld Tryz.prog hv
     have s1 := SW.1
     have s2 := SW.2.1
     have S2 := Ak SW.2.2
     have n1 : (enc dk[k]!).length = 44 := S1.out.hk _
     have n2 : (enc dk[k + 1]!).length = 44 := S1.out.hk _
     clear SW hu hv
     generalize enc dk[k]! = c1 at S2 l1 s2 n1
     generalize enc dk[k + 1]! = c2 at S2 l2 s1 s2 n2
     clear HD HR2 HP S1 hip
     go_wp2_with fail
     go_big_region_o
     clear l1 l2 s1 s2
     generalize (wr.drew.setCells g ((k) * 44) c2).setCells g ((k + 1) * 44) c1 = w2 at S2 ⊢
     all_goals go_wp2
     go_roundg (i - 1 - (k + 1))
     case measure => have := HIP.1; omega
     case rel => exact ⟨k + 1, _, by go_num, by omega, by have := HIP.1; omega, Nat.le_refl _, HD2, HR3, HP2, S2⟩
    ·have hltz2 : ¬ (k : Int) < (ip : Int) := by omega
     clear hip
     go_wp2
     (try simp only [Exit.inBlock, Exit.then]); refine bodyPost_ret (results_none rfl _ _ _) rfl ?_
     have hke : k + 1 = i := by have := HIP.1; omega
     exact ⟨rfl, dk, HD.out, by
      obtain rfl : m = a + 1 := by omega
      exact asc_up ht HB.1 (fun x => by rw [HR2.out, hke]) (by omega) hj0 HL.out HR.out, HP.out, S1.out⟩
set_option maxHeartbeats 8000000 in
set_option maxRecDepth 1000000 in
theorem symMerge2 {enc : α → List Value} {g m' : Nat} {w0 w : World} {d : Array α} {a m b N cap fg : Nat} {cb : Array Value} {cf : α → α → Int} {lt : α → α → Prop} (ht : ∀ u v w, lt u v → lt v w → lt u w) (eg : ∀ args w, (callFunc fg args).run Tryz.prog w = .ok (.enter fg args) w) (hC : Cmp enc fg cb cf g w0)
 (hN : d.size = N) (hM : N < 1000000) (ham : a + 1 < m) (hmb : m < b) (hmb1 : b ≤ m + 1) (hb : b ≤ N) (hA : Asc lt a (m) d) (hB : Asc lt (m) (b) d) (hX : Cross (lto cf) lt a (m) (b) d) (H : St enc 44 38 g m' w0 d w) :
 Calls Tryz.prog 90 #[.slice (some ⟨g, 0, none⟩) N cap, .int .i64 ((a : Nat) : Int), .int .i64 ((m : Nat) : Int), .int .i64 ((b : Nat) : Int), .func (.func fg) #[] cb] w fun e' w' => e' = .returned (.tuple #[]) ∧
  ∃ d', d'.size = N ∧ Asc lt a (b) d' ∧ PermIn a (b) d d' ∧ St enc 44 38 g m' w0 d' w' := by
 have mixed : Tryz.prog.follows .mixedOrders = true := by kernel_rfl
 have S0 := Ak H
 have HN := Ak hN
 have HA := Ak hA
 have HB := Ak hB
 have HX := Ak hX
 have HC := Ak hC
 clear H hN hA hB hX hC
 have hmz : (b : Int) - (m : Int) = 1 := by omega
 have haz : (((m : Int) - (a : Int)) == 1) = false := by rw [beq_eq_false_iff_ne]; omega
 go_enter Tryz.func90, Tryz.ntmps90
 go_wp2
 clear hmz haz
 go_loopg [14, 15] (m - a) (fun kq vi vj wr => ∃ (i j : Nat), vi = .int .i64 i ∧ vj = .int .i64 j ∧ a ≤ i ∧ i ≤ j ∧ j ≤ m ∧ j - i ≤ kq ∧ Aside0 (a < i → lt (D d (i - 1)) (D d m)) ∧ Aside0 (j < m → lt (D d m) (D d j)) ∧ Aside0 (St enc 44 38 g m' w0 d wr))
 case atStart => exact ⟨a, m, by first | rfl | go_num, by first | rfl | go_num, by omega, by omega, by omega, by omega, ⟨fun h => absurd h (Nat.lt_irrefl _)⟩, ⟨fun h => absurd h (Nat.lt_irrefl _)⟩, S0⟩
 case round =>
  clear S0
  obtain ⟨i, j, rfl, rfl, hi0, hij, hj0, hkq, HL, HR, S1⟩ := hrel
  by_cases hlt : i < j
  ·have hltz : (i : Int) < (j : Int) := by omega
   obtain ⟨h, hh⟩ : ∃ h, h = (i + j) / 2 := ⟨_, rfl⟩
   have hhz : ((i : Int) + (j : Int)) / 2 = (h : Int) := by omega
   have hih : i ≤ h := by omega
   have hhj : h < j := by omega
   clear hh
   have huq : m < d.size := by rw [HN.1]; omega
   have hvq : h < d.size := by rw [HN.1]; omega
   have puq : (0 : Int) ≤ (m : Int) := by omega
   have buq : (m : Int) < (N : Int) := by omega
   have ruq : IntKind.i64.wrap (m : Int) = (m : Int) := by rw [IntKind.wrap_i64]; omega
   have pvq : (0 : Int) ≤ (h : Int) := by omega
   have bvq : (h : Int) < (N : Int) := by omega
   have l1 : ∀ dd os, Sem.run Tryz.prog (Wide.heavy0 ⟨g, m * 44, none⟩ 44) (grow (redrawn wr dd) os) = _ := fun dd os => S1.out.ldr Tryz.prog huq dd os
   have l2 : ∀ dd os, Sem.run Tryz.prog (Wide.heavy0 ⟨g, h * 44, none⟩ 44) (grow (redrawn wr dd) os) = _ := fun dd os => S1.out.ldr Tryz.prog hvq dd os
   have hcg := fun dd os => HC.1.at S1.out d[m]! d[h]! dd os
   clear huq hvq
   obtain ⟨x1, hx⟩ : ∃ x, x = d[m]! := ⟨_, rfl⟩
   obtain ⟨x2, hy⟩ : ∃ x, x = d[h]! := ⟨_, rfl⟩
   rw [← hx] at l1 hcg
   rw [← hy] at l2 hcg
   have XU : Aside0 (x1 = D d m) := ⟨hx⟩
   have XV : Aside0 (x2 = D d h) := ⟨hy⟩
   clear hx hy
   have TL : Aside0 ((lto cf x1 x2 = true → lt (D d m) (D d h)) ∧ (lto cf x1 x2 = false → lt (D d h) (D d m))) := ⟨by rw [XU.1, XV.1]; exact HX.1 h m (by omega) (by omega) (Nat.le_refl _) hmb⟩
   by_cases hlv : cf x1 x2 < 0
   ·have LT := Ak (TL.1.1 (decide_eq_true hlv))
    have hlz := eq_true hlv
    clear hlv
    go_wp2_with fail
    refine wp_region_quiet_below mixed (by kernel_rfl) ?_
    repeat (quiet_step (first | (go_at_fn fg; refine Calls.regrown_of (hcg _ _))))
    refine wpQuiet_nil ?_
    intro _ hw'
    obtain ⟨⟨nq, osq⟩, hw''⟩ := hw'
    subst hw''
    have S2 := Ak (S1.out.below (below_regrown wr nq osq))
    clear l1 l2 hcg
    generalize grow (redrawn wr nq) osq = wq at S2 ⊢
    go_wp2
    go_roundg (h - i)
    case measure => omega
    case rel => exact ⟨i, h, rfl, by first | rfl | go_num, hi0, hih, by omega, Nat.le_refl _, HL, ⟨fun _ => LT.1⟩, S2⟩
   ·have LT := Ak (TL.1.2 (decide_eq_false hlv))
    have hlz := eq_false hlv
    clear hlv
    go_wp2_with fail
    refine wp_region_quiet_below mixed (by kernel_rfl) ?_
    repeat (quiet_step (first | (go_at_fn fg; refine Calls.regrown_of (hcg _ _))))
    refine wpQuiet_nil ?_
    intro _ hw'
    obtain ⟨⟨nq, osq⟩, hw''⟩ := hw'
    subst hw''
    have S2 := Ak (S1.out.below (below_regrown wr nq osq))
    clear l1 l2 hcg
    generalize grow (redrawn wr nq) osq = wq at S2 ⊢
    go_wp2
    go_roundg (j - (h + 1))
    case measure => omega
    case rel => exact ⟨h + 1, j, by go_num, rfl, by omega, by omega, hj0, Nat.le_refl _, ⟨fun _ => by rw [Nat.add_sub_cancel]; exact LT.1⟩, HR, S2⟩
  ·obtain rfl : i = j := by omega
   clear hij hkq
   have hltz : ¬ (i : Int) < (i : Int) := by omega
   go_wp2
   go_loopg [17] (m - i) (fun kq vk wr => ∃ (k : Nat) (dk : Array α), vk = .int .i64 k ∧ i ≤ k ∧ k ≤ m ∧ k - i ≤ kq ∧ Aside0 (dk.size = N) ∧ Aside0 (∀ x, D dk x = R k m (m + 1) (D d) x) ∧ Aside0 (PermIn a b d dk) ∧ Aside0 (St enc 44 38 g m' w0 dk wr))
   case atStart => exact ⟨m, d, rfl, hj0, Nat.le_refl _, Nat.le_refl _, HN, ⟨fun x => (R_none_l x).symm⟩, ⟨permIn_refl d a b⟩, S1⟩
   case round =>
    clear S1
    obtain ⟨k, dk, rfl, hik, hkm, hkq, HD, HR2, HP, S1⟩ := hrel
    by_cases hlt : i < k
    ·have hltz2 : (i : Int) < (k : Int) := by omega
     obtain ⟨kp, hkp⟩ : ∃ kp, k = kp + 1 := ⟨k - 1, by omega⟩
     subst hkp
     have hkN : kp + 1 < N := by omega
     have eA : ((kp : Int) + 1).toNat = kp + 1 := by omega
     have pA : (0 : Int) ≤ (kp : Int) + 1 := by omega
     have bA : (kp : Int) + 1 < (N : Int) := by omega
     have pB : (0 : Int) ≤ (kp : Int) := by omega
     have bB : (kp : Int) < (N : Int) := by omega
     have rB : IntKind.i64.wrap (kp : Int) = (kp : Int) := by rw [IntKind.wrap_i64]; omega
     have HD2 : Aside0 ((swp dk (kp + 1) kp).size = N) := ⟨by rw [size_swp]; exact HD.out⟩
     have HR3 : Aside0 (∀ x, D (swp dk (kp + 1) kp) x = R kp m (m + 1) (D d) x) := ⟨fun x => R_down HR2.out (by omega) (by rw [HD.out]; omega) x⟩
     have HP2 : Aside0 (PermIn a b d (swp dk (kp + 1) kp)) := ⟨permIn_trans _ _ _ _ _ HP.out (swp_permIn dk a b (kp + 1) kp (by omega) (by omega) (by omega) (by omega) (by rw [HD.out]; exact hb))⟩
     have hu : kp + 1 < dk.size := by rw [HD.out]; omega
     have hv : kp < dk.size := by rw [HD.out]; omega
     have SW := S1.out.drew.swapped (P := Tryz.prog) hu hv
     have l1 : Sem.run Tryz.prog (Wide.heavy0 ⟨g, (kp + 1) * 44, none⟩ 44) wr.drew = _ := S1.out.drew.ld Tryz.prog hu
     have l2 : Sem.run Tryz.prog (Wide.heavy0 ⟨g, (kp) * 44, none⟩ 44) wr.drew = _ := S1.out.drew.ld Tryz.prog hv
     have s1 := SW.1
     have s2 := SW.2.1
     have S2 := Ak SW.2.2
     have n1 : (enc dk[kp + 1]!).length = 44 := S1.out.hk _
     have n2 : (enc dk[kp]!).length = 44 := S1.out.hk _
     clear SW hu hv
     generalize enc dk[kp + 1]! = c1 at S2 l1 s2 n1
     generalize enc dk[kp]! = c2 at S2 l2 s1 s2 n2
     clear HD HR2 HP S1
     go_wp2_with fail
     go_big_region_o
     clear l1 l2 s1 s2
     generalize (wr.drew.setCells g ((kp + 1) * 44) c2).setCells g ((kp) * 44) c1 = w2 at S2 ⊢
     all_goals go_wp2
     go_roundg (kp - i)
     case measure => omega
     case rel => exact ⟨kp, _, by first | rfl | go_num, by omega, by omega, Nat.le_refl _, HD2, HR3, HP2, S2⟩
    ·have hltz2 : ¬ (i : Int) < (k : Int) := by omega
     go_wp2
     (try simp only [Exit.inBlock, Exit.then]); refine bodyPost_ret (results_none rfl _ _ _) rfl ?_
     obtain rfl : k = i := by omega
     exact ⟨rfl, dk, HD.out, by
      obtain rfl : b = m + 1 := by omega
      exact asc_down ht HA.1 HR2.out hi0 hkm HL.out HR.out, HP.out, S1.out⟩
set_option maxHeartbeats 8000000 in
set_option maxRecDepth 1000000 in
theorem symMerge3a {enc : α → List Value} {g m' : Nat} {w0 w : World} {d : Array α} {a m b N cap fg : Nat} {cb : Array Value} {cf : α → α → Int} {lt : α → α → Prop} (ht : ∀ u v w, lt u v → lt v w → lt u w) (eg : ∀ args w, (callFunc fg args).run Tryz.prog w = .ok (.enter fg args) w) (hC : Cmp enc fg cb cf g w0)
 (hN : d.size = N) (hM : N < 1000000) (ham : a + 1 < m) (hmb : m + 1 < b) (hgt : (a + b) / 2 < m) (hb : b ≤ N) (hA : Asc lt a (m) d) (hB : Asc lt (m) (b) d) (hX : Cross (lto cf) lt a (m) (b) d) (H : St enc 44 38 g m' w0 d w)
 (IH : ∀ (a1 m1 b1 : Nat) (d1 : Array α) (w1 : World), b1 - a1 < b - a → a1 < m1 → m1 < b1 → b1 ≤ N → d1.size = N → Asc lt a1 m1 d1 → Asc lt m1 b1 d1 → Cross (lto cf) lt a1 m1 b1 d1 → St enc 44 38 g m' w0 d1 w1 →
  Calls Tryz.prog 90 #[.slice (some ⟨g, 0, none⟩) N cap, .int .i64 a1, .int .i64 m1, .int .i64 b1, .func (.func fg) #[] cb] w1 fun e' w' => e' = .returned (.tuple #[]) ∧ ∃ d', d'.size = N ∧ Asc lt a1 b1 d' ∧ PermIn a1 b1 d1 d' ∧ St enc 44 38 g m' w0 d' w') :
 Calls Tryz.prog 90 #[.slice (some ⟨g, 0, none⟩) N cap, .int .i64 ((a : Nat) : Int), .int .i64 ((m : Nat) : Int), .int .i64 ((b : Nat) : Int), .func (.func fg) #[] cb] w fun e' w' => e' = .returned (.tuple #[]) ∧
  ∃ d', d'.size = N ∧ Asc lt a (b) d' ∧ PermIn a (b) d d' ∧ St enc 44 38 g m' w0 d' w' := by
 have mixed : Tryz.prog.follows .mixedOrders = true := by kernel_rfl
 have S0 := Ak H
 have HN := Ak hN
 have HA := Ak hA
 have HB := Ak hB
 have HX := Ak hX
 have HC := Ak hC
 clear H hN hA hB hX hC
 have IHA := Ak IH
 clear IH
 have haz : (((m : Int) - (a : Int)) == 1) = false := by rw [beq_eq_false_iff_ne]; omega
 have hbz : (((b : Int) - (m : Int)) == 1) = false := by rw [beq_eq_false_iff_ne]; omega
 obtain ⟨mid, hmid⟩ : ∃ mid, mid = (a + b) / 2 := ⟨_, rfl⟩
 rw [← hmid] at hgt
 have HMID := Ak hmid
 have hmidz : ((a : Int) + (b : Int)) / 2 = (mid : Int) := by omega
 obtain ⟨n, hn⟩ : ∃ n, n = mid + m := ⟨_, rfl⟩
 have hnz : (mid : Int) + (m : Int) = (n : Int) := by omega
 have hmid1 : a < mid := by omega
 have hmid2 : mid < b := by omega
 have hmid3 : 2 * mid ≤ a + b := by omega
 have hmid4 : a + b ≤ 2 * mid + 1 := by omega
 have hn1 : n ≤ mid + m := by omega
 have hn2 : mid + m ≤ n := by omega
 clear hmid hn
 obtain ⟨p, hp⟩ : ∃ p, n = p + 1 := ⟨n - 1, by omega⟩
 have hpz : (n : Int) - 1 = (p : Int) := by omega
 have hp1 : n ≤ p + 1 := by omega
 have hp2 : p + 1 ≤ n := by omega
 clear hp
 have hgz : (mid : Int) < (m : Int) := by omega
 obtain ⟨s0, hs0⟩ : ∃ s0, s0 = n - b := ⟨_, rfl⟩
 have hsz : (n : Int) - (b : Int) = (s0 : Int) := by omega
 have hs1 : s0 + b ≤ n := by omega
 have hs2 : n ≤ s0 + b := by omega
 clear hs0
 go_enter Tryz.func90, Tryz.ntmps90
 go_wp2
 clear haz hbz hmidz hnz hpz hgz hsz
 go_loopg [20, 21] (mid - s0) (fun kq vi vj wr => ∃ (i j : Nat), vi = .int .i64 i ∧ vj = .int .i64 j ∧ s0 ≤ i ∧ i ≤ j ∧ j ≤ mid ∧ j - i ≤ kq ∧ Aside0 (s0 < i → lt (D d (i - 1)) (D d (mid + m - i))) ∧ Aside0 (j < mid → lt (D d (mid + m - 1 - j)) (D d j)) ∧ Aside0 (St enc 44 38 g m' w0 d wr))
 case atStart => exact ⟨s0, mid, by first | rfl | go_num, by first | rfl | go_num, by omega, by omega, by omega, by omega, ⟨fun h => absurd h (Nat.lt_irrefl _)⟩, ⟨fun h => absurd h (Nat.lt_irrefl _)⟩, S0⟩
 case round =>
  clear S0
  obtain ⟨i, j, rfl, rfl, hi0, hij, hj0, hkq, HL, HR, S1⟩ := hrel
  by_cases hlt : i < j
  ·have hltz : (i : Int) < (j : Int) := by omega
   obtain ⟨h, hh⟩ : ∃ h, h = (i + j) / 2 := ⟨_, rfl⟩
   have hhz : ((i : Int) + (j : Int)) / 2 = (h : Int) := by omega
   have hih : i ≤ h := by omega
   have hhj : h < j := by omega
   clear hh
   obtain ⟨u, hu⟩ : ∃ u, u = p - h := ⟨_, rfl⟩
   have huz : (p : Int) - (h : Int) = (u : Int) := by omega
   have hum : m ≤ u := by omega
   have hub : u < b := by omega
   have hu1 : u + h ≤ p := by omega
   have hu2 : p ≤ u + h := by omega
   clear hu
   have huq : u < d.size := by rw [HN.1]; omega
   have hvq : h < d.size := by rw [HN.1]; omega
   have puq : (0 : Int) ≤ (u : Int) := by omega
   have buq : (u : Int) < (N : Int) := by omega
   have ruq : IntKind.i64.wrap (u : Int) = (u : Int) := by rw [IntKind.wrap_i64]; omega
   have pvq : (0 : Int) ≤ (h : Int) := by omega
   have bvq : (h : Int) < (N : Int) := by omega
   have l1 : ∀ dd os, Sem.run Tryz.prog (Wide.heavy0 ⟨g, u * 44, none⟩ 44) (grow (redrawn wr dd) os) = _ := fun dd os => S1.out.ldr Tryz.prog huq dd os
   have l2 : ∀ dd os, Sem.run Tryz.prog (Wide.heavy0 ⟨g, h * 44, none⟩ 44) (grow (redrawn wr dd) os) = _ := fun dd os => S1.out.ldr Tryz.prog hvq dd os
   have hcg := fun dd os => HC.1.at S1.out d[u]! d[h]! dd os
   clear huq hvq
   obtain ⟨x1, hx⟩ : ∃ x, x = d[u]! := ⟨_, rfl⟩
   obtain ⟨x2, hy⟩ : ∃ x, x = d[h]! := ⟨_, rfl⟩
   rw [← hx] at l1 hcg
   rw [← hy] at l2 hcg
   have XU : Aside0 (x1 = D d u) := ⟨hx⟩
   have XV : Aside0 (x2 = D d h) := ⟨hy⟩
   clear hx hy
   have TL : Aside0 ((lto cf x1 x2 = true → lt (D d (mid + m - 1 - h)) (D d h)) ∧ (lto cf x1 x2 = false → lt (D d h) (D d (mid + m - (h + 1))))) := ⟨by
    rw [XU.1, XV.1, show mid + m - 1 - h = u by omega, show mid + m - (h + 1) = u by omega]; exact HX.1 h u (by omega) (by omega) hum hub⟩
   by_cases hlv : cf x1 x2 < 0
   ·have LT := Ak (TL.1.1 (decide_eq_true hlv))
    have hlz := eq_true hlv
    clear hlv
    go_wp2_with fail
    refine wp_region_quiet_below mixed (by kernel_rfl) ?_
    repeat (quiet_step (first | (go_at_fn fg; refine Calls.regrown_of (hcg _ _))))
    refine wpQuiet_nil ?_
    intro _ hw'
    obtain ⟨⟨nq, osq⟩, hw''⟩ := hw'
    subst hw''
    have S2 := Ak (S1.out.below (below_regrown wr nq osq))
    clear l1 l2 hcg
    generalize grow (redrawn wr nq) osq = wq at S2 ⊢
    go_wp2
    go_roundg (h - i)
    case measure => omega
    case rel => exact ⟨i, h, rfl, by first | rfl | go_num, hi0, hih, by omega, Nat.le_refl _, HL, ⟨fun _ => LT.1⟩, S2⟩
   ·have LT := Ak (TL.1.2 (decide_eq_false hlv))
    have hlz := eq_false hlv
    clear hlv
    go_wp2_with fail
    refine wp_region_quiet_below mixed (by kernel_rfl) ?_
    repeat (quiet_step (first | (go_at_fn fg; refine Calls.regrown_of (hcg _ _))))
    refine wpQuiet_nil ?_
    intro _ hw'
    obtain ⟨⟨nq, osq⟩, hw''⟩ := hw'
    subst hw''
    have S2 := Ak (S1.out.below (below_regrown wr nq osq))
    clear l1 l2 hcg
    generalize grow (redrawn wr nq) osq = wq at S2 ⊢
    go_wp2
    go_roundg (j - (h + 1))
    case measure => omega
    case rel => exact ⟨h + 1, j, by go_num, rfl, by omega, by omega, hj0, Nat.le_refl _, ⟨fun _ => by rw [Nat.add_sub_cancel]; exact LT.1⟩, HR, S2⟩
  ·obtain rfl : i = j := by omega
   clear hij hkq
   have hltz : ¬ (i : Int) < (i : Int) := by omega
   obtain ⟨q, hq⟩ : ∃ q, q = n - i := ⟨_, rfl⟩
   have hqz : (n : Int) - (i : Int) = (q : Int) := by omega
   have hai : a ≤ i := by omega
   have him : i ≤ m := by omega
   have hid : i ≤ mid := by omega
   have hmq : m ≤ q := by omega
   have hqb : q ≤ b := by omega
   have hdq : mid ≤ q := by omega
   have CUT : Aside0 (∀ d1 : Array α, d1.size = N → (∀ x, D d1 x = R i m q (D d) x) → PermIn a b d d1 → Cut (lto cf) lt a m b mid i q d d1) := ⟨fun d1 h1 h2 h3 => ⟨HA.1, HB.1, HX.1, h2, h3, by rw [HN.1]; exact hb, hai, him, hid, hmq, hqb, by omega, hdq, by omega,
    cut_cross (mid := mid) (s0 := s0) (r0 := mid) ht HMID.1 (by omega) (by omega) HA.1 HB.1 hi0 hj0 (by omega) (by rw [if_pos (show mid < m by omega)]; exact ⟨by omega, rfl⟩) HL.out HR.out h2⟩⟩
   clear HL HR hq
   by_cases hc1 : i < m ∧ m < q
   ·have RO := Ak (rotate (a := i) (m := m) (b := q) (N := N) (cap := cap) (.func (.func fg) #[] cb) HN.1 hM hc1.1 hc1.2 (by omega) S1.out)
    have z1 : (i : Int) < (m : Int) := by omega
    have z2 : (m : Int) < (q : Int) := by omega
    by_cases hc2 : a < i ∧ i < mid
    ·by_cases hc3 : mid < q ∧ q < b
     ·have y1 : (a : Int) < (i : Int) := by omega
      have y2 : (i : Int) < (mid : Int) := by omega
      have x1 : (mid : Int) < (q : Int) := by omega
      have x2 : (q : Int) < (b : Int) := by omega
      (go_wp2_with (first | (go_at_call 90; refine (IHA.1 mid q b d2 _ (by omega) hc3.1 hc3.2 hb K2.out.1 (K1.out.2.1.right K2.out.2.2.1).1 (K1.out.2.1.right K2.out.2.2.1).2.1 (K1.out.2.1.right K2.out.2.2.1).2.2 K2.out.2.2.2).mono ?_; rintro e w3 ⟨rfl, d3, k1, k2, k3, k4⟩; have K3 := Ak (And.intro k1 (And.intro k2 (And.intro k3 k4))); clear k1 k2 k3 k4) | (go_at_call 90; refine (IHA.1 a i mid d1 _ (by omega) hc2.1 hc2.2 (by omega) K1.out.1 K1.out.2.1.left.1 K1.out.2.1.left.2.1 K1.out.2.1.left.2.2 K1.out.2.2).mono ?_; rintro e w2 ⟨rfl, d2, k1, k2, k3, k4⟩; have K2 := Ak (And.intro k1 (And.intro k2 (And.intro k3 k4))); clear k1 k2 k3 k4) | (go_at_call 96; refine RO.1.mono ?_; rintro e w1 ⟨rfl, d1, k1, k2, k3, k4⟩; have K1 := Ak (And.intro k1 (And.intro (CUT.1 d1 k1 k2 (permIn_mono _ _ _ _ _ _ hai hqb (by rw [HN.1]; exact hb) k3)) k4)); clear k1 k2 k3 k4)); all_goals (go_end0; have EN := K1.out.2.1.end K2.out.2.2.1 K3.1.2.2.1 K2.out.2.1 K3.1.2.1; exact ⟨rfl, d3, K3.1.1, EN.1, EN.2, K3.1.2.2.2⟩))
     ·have y1 : (a : Int) < (i : Int) := by omega
      have y2 : (i : Int) < (mid : Int) := by omega
      have xx : (¬ (mid : Int) < (q : Int)) ∨ ((mid : Int) < (q : Int) ∧ ¬ (q : Int) < (b : Int)) := by omega
      (rcases xx with hxx | ⟨hxx, hxx'⟩) <;> (go_wp2_with (first | (go_at_call 90; refine (IHA.1 a i mid d1 _ (by omega) hc2.1 hc2.2 (by omega) K1.out.1 K1.out.2.1.left.1 K1.out.2.1.left.2.1 K1.out.2.1.left.2.2 K1.out.2.2).mono ?_; rintro e w2 ⟨rfl, d2, k1, k2, k3, k4⟩; have K2 := Ak (And.intro k1 (And.intro k2 (And.intro k3 k4))); clear k1 k2 k3 k4; have K3 := Ak (And.intro K2.out.1 (And.intro (K1.out.2.1.right_none K2.out.2.2.1 hc3) (And.intro (permIn_refl d2 mid b) K2.out.2.2.2)))) | (go_at_call 96; refine RO.1.mono ?_; rintro e w1 ⟨rfl, d1, k1, k2, k3, k4⟩; have K1 := Ak (And.intro k1 (And.intro (CUT.1 d1 k1 k2 (permIn_mono _ _ _ _ _ _ hai hqb (by rw [HN.1]; exact hb) k3)) k4)); clear k1 k2 k3 k4)); all_goals (go_end0; have EN := K1.out.2.1.end K2.out.2.2.1 K3.1.2.2.1 K2.out.2.1 K3.1.2.1; exact ⟨rfl, d2, K3.1.1, EN.1, EN.2, K3.1.2.2.2⟩))
    ·by_cases hc3 : mid < q ∧ q < b
     ·have yy : (¬ (a : Int) < (i : Int)) ∨ ((a : Int) < (i : Int) ∧ ¬ (i : Int) < (mid : Int)) := by omega
      have x1 : (mid : Int) < (q : Int) := by omega
      have x2 : (q : Int) < (b : Int) := by omega
      (rcases yy with hyy | ⟨hyy, hyy'⟩) <;> (go_wp2_with (first | (go_at_call 90; refine (IHA.1 mid q b d1 _ (by omega) hc3.1 hc3.2 hb K2.out.1 (K1.out.2.1.right K2.out.2.2.1).1 (K1.out.2.1.right K2.out.2.2.1).2.1 (K1.out.2.1.right K2.out.2.2.1).2.2 K2.out.2.2.2).mono ?_; rintro e w3 ⟨rfl, d3, k1, k2, k3, k4⟩; have K3 := Ak (And.intro k1 (And.intro k2 (And.intro k3 k4))); clear k1 k2 k3 k4) | (go_at_call 96; refine RO.1.mono ?_; rintro e w1 ⟨rfl, d1, k1, k2, k3, k4⟩; have K1 := Ak (And.intro k1 (And.intro (CUT.1 d1 k1 k2 (permIn_mono _ _ _ _ _ _ hai hqb (by rw [HN.1]; exact hb) k3)) k4)); clear k1 k2 k3 k4; have K2 := Ak (And.intro K1.out.1 (And.intro (K1.out.2.1.left_none hc2) (And.intro (permIn_refl d1 a mid) K1.out.2.2))))); all_goals (go_end0; have EN := K1.out.2.1.end K2.out.2.2.1 K3.1.2.2.1 K2.out.2.1 K3.1.2.1; exact ⟨rfl, d3, K3.1.1, EN.1, EN.2, K3.1.2.2.2⟩))
     ·have yy : (¬ (a : Int) < (i : Int)) ∨ ((a : Int) < (i : Int) ∧ ¬ (i : Int) < (mid : Int)) := by omega
      have xx : (¬ (mid : Int) < (q : Int)) ∨ ((mid : Int) < (q : Int) ∧ ¬ (q : Int) < (b : Int)) := by omega
      (rcases yy with hyy | ⟨hyy, hyy'⟩) <;> (rcases xx with hxx | ⟨hxx, hxx'⟩) <;> (go_wp2_with (first | (go_at_call 96; refine RO.1.mono ?_; rintro e w1 ⟨rfl, d1, k1, k2, k3, k4⟩; have K1 := Ak (And.intro k1 (And.intro (CUT.1 d1 k1 k2 (permIn_mono _ _ _ _ _ _ hai hqb (by rw [HN.1]; exact hb) k3)) k4)); clear k1 k2 k3 k4; have K2 := Ak (And.intro K1.out.1 (And.intro (K1.out.2.1.left_none hc2) (And.intro (permIn_refl d1 a mid) K1.out.2.2))); have K3 := Ak (And.intro K2.out.1 (And.intro (K1.out.2.1.right_none K2.out.2.2.1 hc3) (And.intro (permIn_refl d1 mid b) K2.out.2.2.2))))); all_goals (go_end0; have EN := K1.out.2.1.end K2.out.2.2.1 K3.1.2.2.1 K2.out.2.1 K3.1.2.1; exact ⟨rfl, d1, K3.1.1, EN.1, EN.2, K3.1.2.2.2⟩))
   ·have zz : (¬ (i : Int) < (m : Int)) ∨ ((i : Int) < (m : Int) ∧ ¬ (m : Int) < (q : Int)) := by omega
    have KC := CUT.1 d HN.1 (fun x => by
     by_cases h : i < m
     ·obtain rfl : m = q := by omega
      exact (R_none_r x).symm
     ·obtain rfl : i = m := by omega
      exact (R_none_l x).symm) (permIn_refl d a b)
    obtain ⟨d1, hd1⟩ : ∃ d1, d1 = d := ⟨_, rfl⟩
    have K1 : Aside0 (d1.size = N ∧ Cut (lto cf) lt a m b mid i q d d1 ∧ St enc 44 38 g m' w0 d1 wr) := ⟨by rw [hd1]; exact ⟨HN.1, KC, S1.out⟩⟩
    clear KC hd1
    by_cases hc2 : a < i ∧ i < mid
    ·by_cases hc3 : mid < q ∧ q < b
     ·have y1 : (a : Int) < (i : Int) := by omega
      have y2 : (i : Int) < (mid : Int) := by omega
      have x1 : (mid : Int) < (q : Int) := by omega
      have x2 : (q : Int) < (b : Int) := by omega
      (rcases zz with hzz | ⟨hzz, hzz'⟩) <;> (go_wp2_with (first | (go_at_call 90; refine (IHA.1 mid q b d2 _ (by omega) hc3.1 hc3.2 hb K2.out.1 (K1.out.2.1.right K2.out.2.2.1).1 (K1.out.2.1.right K2.out.2.2.1).2.1 (K1.out.2.1.right K2.out.2.2.1).2.2 K2.out.2.2.2).mono ?_; rintro e w3 ⟨rfl, d3, k1, k2, k3, k4⟩; have K3 := Ak (And.intro k1 (And.intro k2 (And.intro k3 k4))); clear k1 k2 k3 k4) | (go_at_call 90; refine (IHA.1 a i mid d1 _ (by omega) hc2.1 hc2.2 (by omega) K1.out.1 K1.out.2.1.left.1 K1.out.2.1.left.2.1 K1.out.2.1.left.2.2 K1.out.2.2).mono ?_; rintro e w2 ⟨rfl, d2, k1, k2, k3, k4⟩; have K2 := Ak (And.intro k1 (And.intro k2 (And.intro k3 k4))); clear k1 k2 k3 k4)); all_goals (go_end0; have EN := K1.out.2.1.end K2.out.2.2.1 K3.1.2.2.1 K2.out.2.1 K3.1.2.1; exact ⟨rfl, d3, K3.1.1, EN.1, EN.2, K3.1.2.2.2⟩))
     ·have y1 : (a : Int) < (i : Int) := by omega
      have y2 : (i : Int) < (mid : Int) := by omega
      have xx : (¬ (mid : Int) < (q : Int)) ∨ ((mid : Int) < (q : Int) ∧ ¬ (q : Int) < (b : Int)) := by omega
      (rcases xx with hxx | ⟨hxx, hxx'⟩) <;> (rcases zz with hzz | ⟨hzz, hzz'⟩) <;> (go_wp2_with (first | (go_at_call 90; refine (IHA.1 a i mid d1 _ (by omega) hc2.1 hc2.2 (by omega) K1.out.1 K1.out.2.1.left.1 K1.out.2.1.left.2.1 K1.out.2.1.left.2.2 K1.out.2.2).mono ?_; rintro e w2 ⟨rfl, d2, k1, k2, k3, k4⟩; have K2 := Ak (And.intro k1 (And.intro k2 (And.intro k3 k4))); clear k1 k2 k3 k4; have K3 := Ak (And.intro K2.out.1 (And.intro (K1.out.2.1.right_none K2.out.2.2.1 hc3) (And.intro (permIn_refl d2 mid b) K2.out.2.2.2))))); all_goals (go_end0; have EN := K1.out.2.1.end K2.out.2.2.1 K3.1.2.2.1 K2.out.2.1 K3.1.2.1; exact ⟨rfl, d2, K3.1.1, EN.1, EN.2, K3.1.2.2.2⟩))
    ·by_cases hc3 : mid < q ∧ q < b
     ·have K2 := Ak (And.intro K1.out.1 (And.intro (K1.out.2.1.left_none hc2) (And.intro (permIn_refl d1 a mid) K1.out.2.2)))
      have yy : (¬ (a : Int) < (i : Int)) ∨ ((a : Int) < (i : Int) ∧ ¬ (i : Int) < (mid : Int)) := by omega
      have x1 : (mid : Int) < (q : Int) := by omega
      have x2 : (q : Int) < (b : Int) := by omega
      (rcases yy with hyy | ⟨hyy, hyy'⟩) <;> (rcases zz with hzz | ⟨hzz, hzz'⟩) <;> (go_wp2_with (first | (go_at_call 90; refine (IHA.1 mid q b d1 _ (by omega) hc3.1 hc3.2 hb K2.out.1 (K1.out.2.1.right K2.out.2.2.1).1 (K1.out.2.1.right K2.out.2.2.1).2.1 (K1.out.2.1.right K2.out.2.2.1).2.2 K2.out.2.2.2).mono ?_; rintro e w3 ⟨rfl, d3, k1, k2, k3, k4⟩; have K3 := Ak (And.intro k1 (And.intro k2 (And.intro k3 k4))); clear k1 k2 k3 k4)); all_goals (go_end0; have EN := K1.out.2.1.end K2.out.2.2.1 K3.1.2.2.1 K2.out.2.1 K3.1.2.1; exact ⟨rfl, d3, K3.1.1, EN.1, EN.2, K3.1.2.2.2⟩))
     ·have K2 := Ak (And.intro K1.out.1 (And.intro (K1.out.2.1.left_none hc2) (And.intro (permIn_refl d1 a mid) K1.out.2.2)))
      have K3 := Ak (And.intro K2.out.1 (And.intro (K1.out.2.1.right_none K2.out.2.2.1 hc3) (And.intro (permIn_refl d1 mid b) K2.out.2.2.2)))
      have yy : (¬ (a : Int) < (i : Int)) ∨ ((a : Int) < (i : Int) ∧ ¬ (i : Int) < (mid : Int)) := by omega
      have xx : (¬ (mid : Int) < (q : Int)) ∨ ((mid : Int) < (q : Int) ∧ ¬ (q : Int) < (b : Int)) := by omega
      (rcases yy with hyy | ⟨hyy, hyy'⟩) <;> (rcases xx with hxx | ⟨hxx, hxx'⟩) <;> (rcases zz with hzz | ⟨hzz, hzz'⟩) <;> (go_wp2_with fail; all_goals (go_end0; have EN := K1.out.2.1.end K2.out.2.2.1 K3.1.2.2.1 K2.out.2.1 K3.1.2.1; exact ⟨rfl, d1, K3.1.1, EN.1, EN.2, K3.1.2.2.2⟩))
set_option maxHeartbeats 8000000 in
set_option maxRecDepth 1000000 in
theorem symMerge3b {enc : α → List Value} {g m' : Nat} {w0 w : World} {d : Array α} {a m b N cap fg : Nat} {cb : Array Value} {cf : α → α → Int} {lt : α → α → Prop} (ht : ∀ u v w, lt u v → lt v w → lt u w) (eg : ∀ args w, (callFunc fg args).run Tryz.prog w = .ok (.enter fg args) w) (hC : Cmp enc fg cb cf g w0)
 (hN : d.size = N) (hM : N < 1000000) (ham : a + 1 < m) (hmb : m + 1 < b) (hgt : ¬ (a + b) / 2 < m) (hb : b ≤ N) (hA : Asc lt a (m) d) (hB : Asc lt (m) (b) d) (hX : Cross (lto cf) lt a (m) (b) d) (H : St enc 44 38 g m' w0 d w)
 (IH : ∀ (a1 m1 b1 : Nat) (d1 : Array α) (w1 : World), b1 - a1 < b - a → a1 < m1 → m1 < b1 → b1 ≤ N → d1.size = N → Asc lt a1 m1 d1 → Asc lt m1 b1 d1 → Cross (lto cf) lt a1 m1 b1 d1 → St enc 44 38 g m' w0 d1 w1 →
  Calls Tryz.prog 90 #[.slice (some ⟨g, 0, none⟩) N cap, .int .i64 a1, .int .i64 m1, .int .i64 b1, .func (.func fg) #[] cb] w1 fun e' w' => e' = .returned (.tuple #[]) ∧ ∃ d', d'.size = N ∧ Asc lt a1 b1 d' ∧ PermIn a1 b1 d1 d' ∧ St enc 44 38 g m' w0 d' w') :
 Calls Tryz.prog 90 #[.slice (some ⟨g, 0, none⟩) N cap, .int .i64 ((a : Nat) : Int), .int .i64 ((m : Nat) : Int), .int .i64 ((b : Nat) : Int), .func (.func fg) #[] cb] w fun e' w' => e' = .returned (.tuple #[]) ∧
  ∃ d', d'.size = N ∧ Asc lt a (b) d' ∧ PermIn a (b) d d' ∧ St enc 44 38 g m' w0 d' w' := by
 have mixed : Tryz.prog.follows .mixedOrders = true := by kernel_rfl
 have S0 := Ak H
 have HN := Ak hN
 have HA := Ak hA
 have HB := Ak hB
 have HX := Ak hX
 have HC := Ak hC
 clear H hN hA hB hX hC
 have IHA := Ak IH
 clear IH
 have haz : (((m : Int) - (a : Int)) == 1) = false := by rw [beq_eq_false_iff_ne]; omega
 have hbz : (((b : Int) - (m : Int)) == 1) = false := by rw [beq_eq_false_iff_ne]; omega
 obtain ⟨mid, hmid⟩ : ∃ mid, mid = (a + b) / 2 := ⟨_, rfl⟩
 rw [← hmid] at hgt
 have HMID := Ak hmid
 have hmidz : ((a : Int) + (b : Int)) / 2 = (mid : Int) := by omega
 obtain ⟨n, hn⟩ : ∃ n, n = mid + m := ⟨_, rfl⟩
 have hnz : (mid : Int) + (m : Int) = (n : Int) := by omega
 have hmid1 : a < mid := by omega
 have hmid2 : mid < b := by omega
 have hmid3 : 2 * mid ≤ a + b := by omega
 have hmid4 : a + b ≤ 2 * mid + 1 := by omega
 have hn1 : n ≤ mid + m := by omega
 have hn2 : mid + m ≤ n := by omega
 clear hmid hn
 obtain ⟨p, hp⟩ : ∃ p, n = p + 1 := ⟨n - 1, by omega⟩
 have hpz : (n : Int) - 1 = (p : Int) := by omega
 have hp1 : n ≤ p + 1 := by omega
 have hp2 : p + 1 ≤ n := by omega
 clear hp
 have hgz : ¬ (mid : Int) < (m : Int) := by omega
 have hsz : 0 = 0 := rfl
 go_enter Tryz.func90, Tryz.ntmps90
 go_wp2
 clear haz hbz hmidz hnz hpz hgz hsz
 go_loopg [20, 21] (m - a) (fun kq vi vj wr => ∃ (i j : Nat), vi = .int .i64 i ∧ vj = .int .i64 j ∧ a ≤ i ∧ i ≤ j ∧ j ≤ m ∧ j - i ≤ kq ∧ Aside0 (a < i → lt (D d (i - 1)) (D d (mid + m - i))) ∧ Aside0 (j < m → lt (D d (mid + m - 1 - j)) (D d j)) ∧ Aside0 (St enc 44 38 g m' w0 d wr))
 case atStart => exact ⟨a, m, by first | rfl | go_num, by first | rfl | go_num, by omega, by omega, by omega, by omega, ⟨fun h => absurd h (Nat.lt_irrefl _)⟩, ⟨fun h => absurd h (Nat.lt_irrefl _)⟩, S0⟩
 case round =>
  clear S0
  obtain ⟨i, j, rfl, rfl, hi0, hij, hj0, hkq, HL, HR, S1⟩ := hrel
  by_cases hlt : i < j
  ·have hltz : (i : Int) < (j : Int) := by omega
   obtain ⟨h, hh⟩ : ∃ h, h = (i + j) / 2 := ⟨_, rfl⟩
   have hhz : ((i : Int) + (j : Int)) / 2 = (h : Int) := by omega
   have hih : i ≤ h := by omega
   have hhj : h < j := by omega
   clear hh
   obtain ⟨u, hu⟩ : ∃ u, u = p - h := ⟨_, rfl⟩
   have huz : (p : Int) - (h : Int) = (u : Int) := by omega
   have hum : m ≤ u := by omega
   have hub : u < b := by omega
   have hu1 : u + h ≤ p := by omega
   have hu2 : p ≤ u + h := by omega
   clear hu
   have huq : u < d.size := by rw [HN.1]; omega
   have hvq : h < d.size := by rw [HN.1]; omega
   have puq : (0 : Int) ≤ (u : Int) := by omega
   have buq : (u : Int) < (N : Int) := by omega
   have ruq : IntKind.i64.wrap (u : Int) = (u : Int) := by rw [IntKind.wrap_i64]; omega
   have pvq : (0 : Int) ≤ (h : Int) := by omega
   have bvq : (h : Int) < (N : Int) := by omega
   have l1 : ∀ dd os, Sem.run Tryz.prog (Wide.heavy0 ⟨g, u * 44, none⟩ 44) (grow (redrawn wr dd) os) = _ := fun dd os => S1.out.ldr Tryz.prog huq dd os
   have l2 : ∀ dd os, Sem.run Tryz.prog (Wide.heavy0 ⟨g, h * 44, none⟩ 44) (grow (redrawn wr dd) os) = _ := fun dd os => S1.out.ldr Tryz.prog hvq dd os
   have hcg := fun dd os => HC.1.at S1.out d[u]! d[h]! dd os
   clear huq hvq
   obtain ⟨x1, hx⟩ : ∃ x, x = d[u]! := ⟨_, rfl⟩
   obtain ⟨x2, hy⟩ : ∃ x, x = d[h]! := ⟨_, rfl⟩
   rw [← hx] at l1 hcg
   rw [← hy] at l2 hcg
   have XU : Aside0 (x1 = D d u) := ⟨hx⟩
   have XV : Aside0 (x2 = D d h) := ⟨hy⟩
   clear hx hy
   have TL : Aside0 ((lto cf x1 x2 = true → lt (D d (mid + m - 1 - h)) (D d h)) ∧ (lto cf x1 x2 = false → lt (D d h) (D d (mid + m - (h + 1))))) := ⟨by
    rw [XU.1, XV.1, show mid + m - 1 - h = u by omega, show mid + m - (h + 1) = u by omega]; exact HX.1 h u (by omega) (by omega) hum hub⟩
   by_cases hlv : cf x1 x2 < 0
   ·have LT := Ak (TL.1.1 (decide_eq_true hlv))
    have hlz := eq_true hlv
    clear hlv
    go_wp2_with fail
    refine wp_region_quiet_below mixed (by kernel_rfl) ?_
    repeat (quiet_step (first | (go_at_fn fg; refine Calls.regrown_of (hcg _ _))))
    refine wpQuiet_nil ?_
    intro _ hw'
    obtain ⟨⟨nq, osq⟩, hw''⟩ := hw'
    subst hw''
    have S2 := Ak (S1.out.below (below_regrown wr nq osq))
    clear l1 l2 hcg
    generalize grow (redrawn wr nq) osq = wq at S2 ⊢
    go_wp2
    go_roundg (h - i)
    case measure => omega
    case rel => exact ⟨i, h, rfl, by first | rfl | go_num, hi0, hih, by omega, Nat.le_refl _, HL, ⟨fun _ => LT.1⟩, S2⟩
   ·have LT := Ak (TL.1.2 (decide_eq_false hlv))
    have hlz := eq_false hlv
    clear hlv
    go_wp2_with fail
    refine wp_region_quiet_below mixed (by kernel_rfl) ?_
    repeat (quiet_step (first | (go_at_fn fg; refine Calls.regrown_of (hcg _ _))))
    refine wpQuiet_nil ?_
    intro _ hw'
    obtain ⟨⟨nq, osq⟩, hw''⟩ := hw'
    subst hw''
    have S2 := Ak (S1.out.below (below_regrown wr nq osq))
    clear l1 l2 hcg
    generalize grow (redrawn wr nq) osq = wq at S2 ⊢
    go_wp2
    go_roundg (j - (h + 1))
    case measure => omega
    case rel => exact ⟨h + 1, j, by go_num, rfl, by omega, by omega, hj0, Nat.le_refl _, ⟨fun _ => by rw [Nat.add_sub_cancel]; exact LT.1⟩, HR, S2⟩
  ·obtain rfl : i = j := by omega
   clear hij hkq
   have hltz : ¬ (i : Int) < (i : Int) := by omega
   obtain ⟨q, hq⟩ : ∃ q, q = n - i := ⟨_, rfl⟩
   have hqz : (n : Int) - (i : Int) = (q : Int) := by omega
   have hai : a ≤ i := by omega
   have him : i ≤ m := by omega
   have hid : i ≤ mid := by omega
   have hmq : m ≤ q := by omega
   have hqb : q ≤ b := by omega
   have hdq : mid ≤ q := by omega
   have CUT : Aside0 (∀ d1 : Array α, d1.size = N → (∀ x, D d1 x = R i m q (D d) x) → PermIn a b d d1 → Cut (lto cf) lt a m b mid i q d d1) := ⟨fun d1 h1 h2 h3 => ⟨HA.1, HB.1, HX.1, h2, h3, by rw [HN.1]; exact hb, hai, him, hid, hmq, hqb, by omega, hdq, by omega,
    cut_cross (mid := mid) (s0 := a) (r0 := m) ht HMID.1 (by omega) (by omega) HA.1 HB.1 hi0 hj0 (by omega) (by rw [if_neg (show ¬ mid < m by omega)]; exact ⟨rfl, rfl⟩) HL.out HR.out h2⟩⟩
   clear HL HR hq
   by_cases hc1 : i < m ∧ m < q
   ·have RO := Ak (rotate (a := i) (m := m) (b := q) (N := N) (cap := cap) (.func (.func fg) #[] cb) HN.1 hM hc1.1 hc1.2 (by omega) S1.out)
    have z1 : (i : Int) < (m : Int) := by omega
    have z2 : (m : Int) < (q : Int) := by omega
    by_cases hc2 : a < i ∧ i < mid
    ·by_cases hc3 : mid < q ∧ q < b
     ·have y1 : (a : Int) < (i : Int) := by omega
      have y2 : (i : Int) < (mid : Int) := by omega
      have x1 : (mid : Int) < (q : Int) := by omega
      have x2 : (q : Int) < (b : Int) := by omega
      (go_wp2_with (first | (go_at_call 90; refine (IHA.1 mid q b d2 _ (by omega) hc3.1 hc3.2 hb K2.out.1 (K1.out.2.1.right K2.out.2.2.1).1 (K1.out.2.1.right K2.out.2.2.1).2.1 (K1.out.2.1.right K2.out.2.2.1).2.2 K2.out.2.2.2).mono ?_; rintro e w3 ⟨rfl, d3, k1, k2, k3, k4⟩; have K3 := Ak (And.intro k1 (And.intro k2 (And.intro k3 k4))); clear k1 k2 k3 k4) | (go_at_call 90; refine (IHA.1 a i mid d1 _ (by omega) hc2.1 hc2.2 (by omega) K1.out.1 K1.out.2.1.left.1 K1.out.2.1.left.2.1 K1.out.2.1.left.2.2 K1.out.2.2).mono ?_; rintro e w2 ⟨rfl, d2, k1, k2, k3, k4⟩; have K2 := Ak (And.intro k1 (And.intro k2 (And.intro k3 k4))); clear k1 k2 k3 k4) | (go_at_call 96; refine RO.1.mono ?_; rintro e w1 ⟨rfl, d1, k1, k2, k3, k4⟩; have K1 := Ak (And.intro k1 (And.intro (CUT.1 d1 k1 k2 (permIn_mono _ _ _ _ _ _ hai hqb (by rw [HN.1]; exact hb) k3)) k4)); clear k1 k2 k3 k4)); all_goals (go_end0; have EN := K1.out.2.1.end K2.out.2.2.1 K3.1.2.2.1 K2.out.2.1 K3.1.2.1; exact ⟨rfl, d3, K3.1.1, EN.1, EN.2, K3.1.2.2.2⟩))
     ·have y1 : (a : Int) < (i : Int) := by omega
      have y2 : (i : Int) < (mid : Int) := by omega
      have xx : (¬ (mid : Int) < (q : Int)) ∨ ((mid : Int) < (q : Int) ∧ ¬ (q : Int) < (b : Int)) := by omega
      (rcases xx with hxx | ⟨hxx, hxx'⟩) <;> (go_wp2_with (first | (go_at_call 90; refine (IHA.1 a i mid d1 _ (by omega) hc2.1 hc2.2 (by omega) K1.out.1 K1.out.2.1.left.1 K1.out.2.1.left.2.1 K1.out.2.1.left.2.2 K1.out.2.2).mono ?_; rintro e w2 ⟨rfl, d2, k1, k2, k3, k4⟩; have K2 := Ak (And.intro k1 (And.intro k2 (And.intro k3 k4))); clear k1 k2 k3 k4; have K3 := Ak (And.intro K2.out.1 (And.intro (K1.out.2.1.right_none K2.out.2.2.1 hc3) (And.intro (permIn_refl d2 mid b) K2.out.2.2.2)))) | (go_at_call 96; refine RO.1.mono ?_; rintro e w1 ⟨rfl, d1, k1, k2, k3, k4⟩; have K1 := Ak (And.intro k1 (And.intro (CUT.1 d1 k1 k2 (permIn_mono _ _ _ _ _ _ hai hqb (by rw [HN.1]; exact hb) k3)) k4)); clear k1 k2 k3 k4)); all_goals (go_end0; have EN := K1.out.2.1.end K2.out.2.2.1 K3.1.2.2.1 K2.out.2.1 K3.1.2.1; exact ⟨rfl, d2, K3.1.1, EN.1, EN.2, K3.1.2.2.2⟩))
    ·by_cases hc3 : mid < q ∧ q < b
     ·have yy : (¬ (a : Int) < (i : Int)) ∨ ((a : Int) < (i : Int) ∧ ¬ (i : Int) < (mid : Int)) := by omega
      have x1 : (mid : Int) < (q : Int) := by omega
      have x2 : (q : Int) < (b : Int) := by omega
      (rcases yy with hyy | ⟨hyy, hyy'⟩) <;> (go_wp2_with (first | (go_at_call 90; refine (IHA.1 mid q b d1 _ (by omega) hc3.1 hc3.2 hb K2.out.1 (K1.out.2.1.right K2.out.2.2.1).1 (K1.out.2.1.right K2.out.2.2.1).2.1 (K1.out.2.1.right K2.out.2.2.1).2.2 K2.out.2.2.2).mono ?_; rintro e w3 ⟨rfl, d3, k1, k2, k3, k4⟩; have K3 := Ak (And.intro k1 (And.intro k2 (And.intro k3 k4))); clear k1 k2 k3 k4) | (go_at_call 96; refine RO.1.mono ?_; rintro e w1 ⟨rfl, d1, k1, k2, k3, k4⟩; have K1 := Ak (And.intro k1 (And.intro (CUT.1 d1 k1 k2 (permIn_mono _ _ _ _ _ _ hai hqb (by rw [HN.1]; exact hb) k3)) k4)); clear k1 k2 k3 k4; have K2 := Ak (And.intro K1.out.1 (And.intro (K1.out.2.1.left_none hc2) (And.intro (permIn_refl d1 a mid) K1.out.2.2))))); all_goals (go_end0; have EN := K1.out.2.1.end K2.out.2.2.1 K3.1.2.2.1 K2.out.2.1 K3.1.2.1; exact ⟨rfl, d3, K3.1.1, EN.1, EN.2, K3.1.2.2.2⟩))
     ·have yy : (¬ (a : Int) < (i : Int)) ∨ ((a : Int) < (i : Int) ∧ ¬ (i : Int) < (mid : Int)) := by omega
      have xx : (¬ (mid : Int) < (q : Int)) ∨ ((mid : Int) < (q : Int) ∧ ¬ (q : Int) < (b : Int)) := by omega
      (rcases yy with hyy | ⟨hyy, hyy'⟩) <;> (rcases xx with hxx | ⟨hxx, hxx'⟩) <;> (go_wp2_with (first | (go_at_call 96; refine RO.1.mono ?_; rintro e w1 ⟨rfl, d1, k1, k2, k3, k4⟩; have K1 := Ak (And.intro k1 (And.intro (CUT.1 d1 k1 k2 (permIn_mono _ _ _ _ _ _ hai hqb (by rw [HN.1]; exact hb) k3)) k4)); clear k1 k2 k3 k4; have K2 := Ak (And.intro K1.out.1 (And.intro (K1.out.2.1.left_none hc2) (And.intro (permIn_refl d1 a mid) K1.out.2.2))); have K3 := Ak (And.intro K2.out.1 (And.intro (K1.out.2.1.right_none K2.out.2.2.1 hc3) (And.intro (permIn_refl d1 mid b) K2.out.2.2.2))))); all_goals (go_end0; have EN := K1.out.2.1.end K2.out.2.2.1 K3.1.2.2.1 K2.out.2.1 K3.1.2.1; exact ⟨rfl, d1, K3.1.1, EN.1, EN.2, K3.1.2.2.2⟩))
   ·have zz : (¬ (i : Int) < (m : Int)) ∨ ((i : Int) < (m : Int) ∧ ¬ (m : Int) < (q : Int)) := by omega
    have KC := CUT.1 d HN.1 (fun x => by
     by_cases h : i < m
     ·obtain rfl : m = q := by omega
      exact (R_none_r x).symm
     ·obtain rfl : i = m := by omega
      exact (R_none_l x).symm) (permIn_refl d a b)
    obtain ⟨d1, hd1⟩ : ∃ d1, d1 = d := ⟨_, rfl⟩
    have K1 : Aside0 (d1.size = N ∧ Cut (lto cf) lt a m b mid i q d d1 ∧ St enc 44 38 g m' w0 d1 wr) := ⟨by rw [hd1]; exact ⟨HN.1, KC, S1.out⟩⟩
    clear KC hd1
    by_cases hc2 : a < i ∧ i < mid
    ·by_cases hc3 : mid < q ∧ q < b
     ·have y1 : (a : Int) < (i : Int) := by omega
      have y2 : (i : Int) < (mid : Int) := by omega
      have x1 : (mid : Int) < (q : Int) := by omega
      have x2 : (q : Int) < (b : Int) := by omega
      (rcases zz with hzz | ⟨hzz, hzz'⟩) <;> (go_wp2_with (first | (go_at_call 90; refine (IHA.1 mid q b d2 _ (by omega) hc3.1 hc3.2 hb K2.out.1 (K1.out.2.1.right K2.out.2.2.1).1 (K1.out.2.1.right K2.out.2.2.1).2.1 (K1.out.2.1.right K2.out.2.2.1).2.2 K2.out.2.2.2).mono ?_; rintro e w3 ⟨rfl, d3, k1, k2, k3, k4⟩; have K3 := Ak (And.intro k1 (And.intro k2 (And.intro k3 k4))); clear k1 k2 k3 k4) | (go_at_call 90; refine (IHA.1 a i mid d1 _ (by omega) hc2.1 hc2.2 (by omega) K1.out.1 K1.out.2.1.left.1 K1.out.2.1.left.2.1 K1.out.2.1.left.2.2 K1.out.2.2).mono ?_; rintro e w2 ⟨rfl, d2, k1, k2, k3, k4⟩; have K2 := Ak (And.intro k1 (And.intro k2 (And.intro k3 k4))); clear k1 k2 k3 k4)); all_goals (go_end0; have EN := K1.out.2.1.end K2.out.2.2.1 K3.1.2.2.1 K2.out.2.1 K3.1.2.1; exact ⟨rfl, d3, K3.1.1, EN.1, EN.2, K3.1.2.2.2⟩))
     ·have y1 : (a : Int) < (i : Int) := by omega
      have y2 : (i : Int) < (mid : Int) := by omega
      have xx : (¬ (mid : Int) < (q : Int)) ∨ ((mid : Int) < (q : Int) ∧ ¬ (q : Int) < (b : Int)) := by omega
      (rcases xx with hxx | ⟨hxx, hxx'⟩) <;> (rcases zz with hzz | ⟨hzz, hzz'⟩) <;> (go_wp2_with (first | (go_at_call 90; refine (IHA.1 a i mid d1 _ (by omega) hc2.1 hc2.2 (by omega) K1.out.1 K1.out.2.1.left.1 K1.out.2.1.left.2.1 K1.out.2.1.left.2.2 K1.out.2.2).mono ?_; rintro e w2 ⟨rfl, d2, k1, k2, k3, k4⟩; have K2 := Ak (And.intro k1 (And.intro k2 (And.intro k3 k4))); clear k1 k2 k3 k4; have K3 := Ak (And.intro K2.out.1 (And.intro (K1.out.2.1.right_none K2.out.2.2.1 hc3) (And.intro (permIn_refl d2 mid b) K2.out.2.2.2))))); all_goals (go_end0; have EN := K1.out.2.1.end K2.out.2.2.1 K3.1.2.2.1 K2.out.2.1 K3.1.2.1; exact ⟨rfl, d2, K3.1.1, EN.1, EN.2, K3.1.2.2.2⟩))
    ·by_cases hc3 : mid < q ∧ q < b
     ·have K2 := Ak (And.intro K1.out.1 (And.intro (K1.out.2.1.left_none hc2) (And.intro (permIn_refl d1 a mid) K1.out.2.2)))
      have yy : (¬ (a : Int) < (i : Int)) ∨ ((a : Int) < (i : Int) ∧ ¬ (i : Int) < (mid : Int)) := by omega
      have x1 : (mid : Int) < (q : Int) := by omega
      have x2 : (q : Int) < (b : Int) := by omega
      (rcases yy with hyy | ⟨hyy, hyy'⟩) <;> (rcases zz with hzz | ⟨hzz, hzz'⟩) <;> (go_wp2_with (first | (go_at_call 90; refine (IHA.1 mid q b d1 _ (by omega) hc3.1 hc3.2 hb K2.out.1 (K1.out.2.1.right K2.out.2.2.1).1 (K1.out.2.1.right K2.out.2.2.1).2.1 (K1.out.2.1.right K2.out.2.2.1).2.2 K2.out.2.2.2).mono ?_; rintro e w3 ⟨rfl, d3, k1, k2, k3, k4⟩; have K3 := Ak (And.intro k1 (And.intro k2 (And.intro k3 k4))); clear k1 k2 k3 k4)); all_goals (go_end0; have EN := K1.out.2.1.end K2.out.2.2.1 K3.1.2.2.1 K2.out.2.1 K3.1.2.1; exact ⟨rfl, d3, K3.1.1, EN.1, EN.2, K3.1.2.2.2⟩))
     ·have K2 := Ak (And.intro K1.out.1 (And.intro (K1.out.2.1.left_none hc2) (And.intro (permIn_refl d1 a mid) K1.out.2.2)))
      have K3 := Ak (And.intro K2.out.1 (And.intro (K1.out.2.1.right_none K2.out.2.2.1 hc3) (And.intro (permIn_refl d1 mid b) K2.out.2.2.2)))
      have yy : (¬ (a : Int) < (i : Int)) ∨ ((a : Int) < (i : Int) ∧ ¬ (i : Int) < (mid : Int)) := by omega
      have xx : (¬ (mid : Int) < (q : Int)) ∨ ((mid : Int) < (q : Int) ∧ ¬ (q : Int) < (b : Int)) := by omega
      (rcases yy with hyy | ⟨hyy, hyy'⟩) <;> (rcases xx with hxx | ⟨hxx, hxx'⟩) <;> (rcases zz with hzz | ⟨hzz, hzz'⟩) <;> (go_wp2_with fail; all_goals (go_end0; have EN := K1.out.2.1.end K2.out.2.2.1 K3.1.2.2.1 K2.out.2.1 K3.1.2.1; exact ⟨rfl, d1, K3.1.1, EN.1, EN.2, K3.1.2.2.2⟩))
end Go.Proofs.YtiodebjjbgcbhaaGreat.Stb
