/- Functions of the program as plain Lean functions, and that its calls come to what these tell: written by a program of this session; Lean checks it. -/
import Derived.Test.YtiodebjjbgcbhaaXA
namespace Go.Proofs.Ytiodebjjbgcbhaa.QRep
open Go.RowKit Go.Proofs.YtiodebjjbgcbhaaW.PrintWords Go.Proofs.YtiodebjjbgcbhaaW.PrintLast Go.Proofs.YtiodebjjbgcbhaaW.PrintMore
attribute [local go_sem] max2_int min2_int max_two min_two max_three min_three max_four min_four  run_fop run_feq run_fne run_flt run_fle run_fgt run_fge run_fint run_toi run_real' run_imag' run_complex' run_ceq run_cne run_cadd run_csub run_cmul Go.Proofs.Ytiodebjjbgcbhaa.Wide.cellsAt_drewN Go.Proofs.Ytiodebjjbgcbhaa.Wide.cellsAt_drew Go.Proofs.Ytiodebjjbgcbhaa.Wide.lw32 Go.Proofs.Ytiodebjjbgcbhaa.Wide.lw33 Go.Proofs.Ytiodebjjbgcbhaa.Wide.lw37 Go.Proofs.Ytiodebjjbgcbhaa.Wide.lw38 Go.Proofs.Ytiodebjjbgcbhaa.Wide.lw39 Go.Proofs.Ytiodebjjbgcbhaa.Wide.lw44
attribute [local go_sem ↓ high] Go.Proofs.Ytiodebjjbgcbhaa.Wide.hv32 Go.Proofs.Ytiodebjjbgcbhaa.Wide.hv33 Go.Proofs.Ytiodebjjbgcbhaa.Wide.hv37 Go.Proofs.Ytiodebjjbgcbhaa.Wide.hv38 Go.Proofs.Ytiodebjjbgcbhaa.Wide.hv39 Go.Proofs.Ytiodebjjbgcbhaa.Wide.hv44
set_option linter.unusedVariables false
set_option linter.unusedSimpArgs false

attribute [local go_sem high] eqA46/-- Blocks that the region's two variables are not. -/
def okb (b10 b11 : Bool) (g16 g17 k : Nat) : Prop := (b10 = true → k ≠ g16) ∧ (b11 = true → k ≠ g17)
/-- What holds in region 20, by what has come up so far. -/
structure R20 (X1 X2 : S30) (t1 t2 : List S39) (wc : World) (b1 b2 b3 b4 b6 b7 b8 b9 b10 b11 b12 b13 : Bool) (m1 m2 m3 m4 m6 m7 m8 m9 : Value) (g16 g17 : Nat) (w : World) : Prop where
  below : Below wc.heap.size wc w
  lt16 : b10 = true → wc.heap.size ≤ g16 ∧ g16 < w.heap.size
  lt17 : b11 = true → wc.heap.size ≤ g17 ∧ g17 < w.heap.size
  ne : b10 = true → b11 = true → g16 ≠ g17
  l1 : b1 = true → Kd.V k30 30 w 0 (okb b10 b11 g16 g17) m1 [X1]
  l6 : b6 = true → Kd.V k30 30 w 0 (okb b10 b11 g16 g17) m6 [X2]
  r2 : b2 = true → Kd.N k39 39 w wc.heap.size (okb b10 b11 g16 g17) m2 t1
  r7 : b7 = true → Kd.N k39 39 w wc.heap.size (okb b10 b11 g16 g17) m7 t2
  i3 : b3 = true → ∃ g c, m2 = .slice (some ⟨g, 0, none⟩) t1.length c ∧ m3 = .pointer (some ⟨g, 0, none⟩)
  i8 : b8 = true → ∃ g c, m7 = .slice (some ⟨g, 0, none⟩) t2.length c ∧ m8 = .pointer (some ⟨g, 0, none⟩)
  d4 : b4 = true → ∃ c, m4 = .agg c.toArray ∧ Kd.FK k39 w (okb b10 b11 g16 g17) (rd_T39 t1 0) c
  d9 : b9 = true → ∃ c, m9 = .agg c.toArray ∧ Kd.FK k39 w (okb b10 b11 g16 g17) (rd_T39 t2 0) c
  z16 : b10 = true → b12 = false → w.heap[g16]? = some (.cells #[.slice none 0 0, .slice none 0 0, .int .i64 0, .int .i64 0, .int .i64 0] 39 (0, 0))
  z17 : b11 = true → b13 = false → w.heap[g17]? = some (.cells #[.slice none 0 0, .slice none 0 0, .int .i64 0, .int .i64 0, .int .i64 0] 39 (0, 0))
  p16 : b10 = true → b12 = true → ∃ c : List Value, Kd.FK k39 w (okb b10 b11 g16 g17) (rd_T39 t1 0) c ∧ w.heap[g16]? = some (.cells c.toArray 39 (0, 0))
  p17 : b11 = true → b13 = true → ∃ c : List Value, Kd.FK k39 w (okb b10 b11 g16 g17) (rd_T39 t2 0) c ∧ w.heap[g17]? = some (.cells c.toArray 39 (0, 0))
section
variable {X1 X2 : S30} {t1 t2 : List S39} {wc w w1 : World} {b1 b2 b3 b4 b6 b7 b8 b9 b10 b11 b12 b13 : Bool} {m1 m2 m3 m4 m6 m7 m8 m9 : Value} {g16 g17 : Nat}
theorem R20.step (h : R20 X1 X2 t1 t2 wc b1 b2 b3 b4 b6 b7 b8 b9 b10 b11 b12 b13 m1 m2 m3 m4 m6 m7 m8 m9 g16 g17 w) (hb : Below w.heap.size w w1) : R20 X1 X2 t1 t2 wc b1 b2 b3 b4 b6 b7 b8 b9 b10 b11 b12 b13 m1 m2 m3 m4 m6 m7 m8 m9 g16 g17 w1 where
  below := below_then h.below h.below.size hb
  lt16 := fun e => ⟨(h.lt16 e).1, Nat.lt_of_lt_of_le (h.lt16 e).2 hb.size⟩
  lt17 := fun e => ⟨(h.lt17 e).1, Nat.lt_of_lt_of_le (h.lt17 e).2 hb.size⟩
  ne := h.ne
  l1 := fun e => Kd.V_below (h.l1 e) hb
  l6 := fun e => Kd.V_below (h.l6 e) hb
  r2 := fun e => Kd.N_below (h.r2 e) hb
  r7 := fun e => Kd.N_below (h.r7 e) hb
  i3 := h.i3
  i8 := h.i8
  d4 := fun e => by obtain ⟨c, h1, h2⟩ := h.d4 e; exact ⟨c, h1, Kd.FK_below h2 hb⟩
  d9 := fun e => by obtain ⟨c, h1, h2⟩ := h.d9 e; exact ⟨c, h1, Kd.FK_below h2 hb⟩
  z16 := fun e1 e2 => blk_below (h.z16 e1 e2) hb
  z17 := fun e1 e2 => blk_below (h.z17 e1 e2) hb
  p16 := fun e1 e2 => by obtain ⟨c, h1, h2⟩ := h.p16 e1 e2; exact ⟨c, Kd.FK_below h1 hb, blk_below h2 hb⟩
  p17 := fun e1 e2 => by obtain ⟨c, h1, h2⟩ := h.p17 e1 e2; exact ⟨c, Kd.FK_below h1 hb, blk_below h2 hb⟩
theorem okb_10 {k g : Nat} (h : okb false b11 g16 g17 k ∧ k < w.heap.size) (hg : g = w.heap.size) : okb true b11 g g17 k := ⟨fun _ => by have := h.2; omega, h.1.2⟩
theorem okb_11 {k g : Nat} (h : okb b10 false g16 g17 k ∧ k < w.heap.size) (hg : g = w.heap.size) : okb b10 true g16 g k := ⟨h.1.1, fun _ => by have := h.2; omega⟩
/-- The first variable is made. -/
theorem R20.new16 (h : R20 X1 X2 t1 t2 wc b1 b2 b3 b4 b6 b7 b8 b9 false b11 b12 b13 m1 m2 m3 m4 m6 m7 m8 m9 g16 g17 w) (h12 : b12 = false) {g : Nat} (hg : g = w.heap.size) (hb : Below w.heap.size w w1) (hz : w1.heap[g]? = some (.cells #[.slice none 0 0, .slice none 0 0, .int .i64 0, .int .i64 0, .int .i64 0] 39 (0, 0))) :
    R20 X1 X2 t1 t2 wc b1 b2 b3 b4 b6 b7 b8 b9 true b11 b12 b13 m1 m2 m3 m4 m6 m7 m8 m9 g g17 w1 where
  below := below_then h.below h.below.size hb
  lt16 := fun _ => ⟨by rw [hg]; exact h.below.size, blk_lt hz⟩
  lt17 := fun e => ⟨(h.lt17 e).1, Nat.lt_of_lt_of_le (h.lt17 e).2 hb.size⟩
  ne := fun _ e => by have := (h.lt17 e).2; omega
  l1 := fun e => Kd.V_below (Kd.V_mono (Kd.V_bound (h.l1 e)) (fun _ hk => okb_10 hk hg)) hb
  l6 := fun e => Kd.V_below (Kd.V_mono (Kd.V_bound (h.l6 e)) (fun _ hk => okb_10 hk hg)) hb
  r2 := fun e => Kd.N_below (Kd.N_mono (Kd.N_bound (h.r2 e)) (fun _ hk => okb_10 hk hg)) hb
  r7 := fun e => Kd.N_below (Kd.N_mono (Kd.N_bound (h.r7 e)) (fun _ hk => okb_10 hk hg)) hb
  i3 := h.i3
  i8 := h.i8
  d4 := fun e => by obtain ⟨c, h1, h2⟩ := h.d4 e; exact ⟨c, h1, Kd.FK_below (Kd.FK_mono (Kd.FK_bound h2) (fun _ hk => okb_10 hk hg)) hb⟩
  d9 := fun e => by obtain ⟨c, h1, h2⟩ := h.d9 e; exact ⟨c, h1, Kd.FK_below (Kd.FK_mono (Kd.FK_bound h2) (fun _ hk => okb_10 hk hg)) hb⟩
  z16 := fun _ _ => hz
  z17 := fun e1 e2 => blk_below (h.z17 e1 e2) hb
  p16 := fun _ e => by rw [h12] at e; cases e
  p17 := fun e1 e2 => by obtain ⟨c, h1, h2⟩ := h.p17 e1 e2; exact ⟨c, Kd.FK_below (Kd.FK_mono (Kd.FK_bound h1) (fun _ hk => okb_10 hk hg)) hb, blk_below h2 hb⟩
theorem R20.new17 (h : R20 X1 X2 t1 t2 wc b1 b2 b3 b4 b6 b7 b8 b9 b10 false b12 b13 m1 m2 m3 m4 m6 m7 m8 m9 g16 g17 w) (h13 : b13 = false) {g : Nat} (hg : g = w.heap.size) (hb : Below w.heap.size w w1) (hz : w1.heap[g]? = some (.cells #[.slice none 0 0, .slice none 0 0, .int .i64 0, .int .i64 0, .int .i64 0] 39 (0, 0))) :
    R20 X1 X2 t1 t2 wc b1 b2 b3 b4 b6 b7 b8 b9 b10 true b12 b13 m1 m2 m3 m4 m6 m7 m8 m9 g16 g w1 where
  below := below_then h.below h.below.size hb
  lt16 := fun e => ⟨(h.lt16 e).1, Nat.lt_of_lt_of_le (h.lt16 e).2 hb.size⟩
  lt17 := fun _ => ⟨by rw [hg]; exact h.below.size, blk_lt hz⟩
  ne := fun e _ => by have := (h.lt16 e).2; omega
  l1 := fun e => Kd.V_below (Kd.V_mono (Kd.V_bound (h.l1 e)) (fun _ hk => okb_11 hk hg)) hb
  l6 := fun e => Kd.V_below (Kd.V_mono (Kd.V_bound (h.l6 e)) (fun _ hk => okb_11 hk hg)) hb
  r2 := fun e => Kd.N_below (Kd.N_mono (Kd.N_bound (h.r2 e)) (fun _ hk => okb_11 hk hg)) hb
  r7 := fun e => Kd.N_below (Kd.N_mono (Kd.N_bound (h.r7 e)) (fun _ hk => okb_11 hk hg)) hb
  i3 := h.i3
  i8 := h.i8
  d4 := fun e => by obtain ⟨c, h1, h2⟩ := h.d4 e; exact ⟨c, h1, Kd.FK_below (Kd.FK_mono (Kd.FK_bound h2) (fun _ hk => okb_11 hk hg)) hb⟩
  d9 := fun e => by obtain ⟨c, h1, h2⟩ := h.d9 e; exact ⟨c, h1, Kd.FK_below (Kd.FK_mono (Kd.FK_bound h2) (fun _ hk => okb_11 hk hg)) hb⟩
  z16 := fun e1 e2 => blk_below (h.z16 e1 e2) hb
  z17 := fun _ _ => hz
  p16 := fun e1 e2 => by obtain ⟨c, h1, h2⟩ := h.p16 e1 e2; exact ⟨c, Kd.FK_below (Kd.FK_mono (Kd.FK_bound h1) (fun _ hk => okb_11 hk hg)) hb, blk_below h2 hb⟩
  p17 := fun _ e => by rw [h13] at e; cases e
/-- The first one is stored into: its block alone turns. -/
theorem R20.put16 {c : List Value} (h : R20 X1 X2 t1 t2 wc b1 b2 b3 b4 b6 b7 b8 b9 true b11 b12 b13 m1 m2 m3 m4 m6 m7 m8 m9 g16 g17 w) (hc : Kd.FK k39 w (okb true b11 g16 g17) (rd_T39 t1 0) c) (hbl : Below wc.heap.size wc w1) (hs : w1.heap.size = w.heap.size) (hk : ∀ k, k ≠ g16 → w1.heap[k]? = w.heap[k]?) (hz : w1.heap[g16]? = some (.cells c.toArray 39 (0, 0))) :
    R20 X1 X2 t1 t2 wc b1 b2 b3 b4 b6 b7 b8 b9 true b11 true b13 m1 m2 m3 m4 m6 m7 m8 m9 g16 g17 w1 where
  below := hbl
  lt16 := fun e => by rw [hs]; exact h.lt16 e
  lt17 := fun e => by rw [hs]; exact h.lt17 e
  ne := h.ne
  l1 := fun e => Kd.V_step (h.l1 e) (fun k ho _ => hk k (ho.1 rfl))
  l6 := fun e => Kd.V_step (h.l6 e) (fun k ho _ => hk k (ho.1 rfl))
  r2 := fun e => Kd.N_step (h.r2 e) (fun k ho _ => hk k (ho.1 rfl))
  r7 := fun e => Kd.N_step (h.r7 e) (fun k ho _ => hk k (ho.1 rfl))
  i3 := h.i3
  i8 := h.i8
  d4 := fun e => by obtain ⟨c, h1, h2⟩ := h.d4 e; exact ⟨c, h1, Kd.FK_step h2 (fun k ho _ => hk k (ho.1 rfl))⟩
  d9 := fun e => by obtain ⟨c, h1, h2⟩ := h.d9 e; exact ⟨c, h1, Kd.FK_step h2 (fun k ho _ => hk k (ho.1 rfl))⟩
  z16 := fun _ e => by cases e
  z17 := fun e1 e2 => (hk _ (Ne.symm (h.ne rfl e1))).trans (h.z17 e1 e2)
  p16 := fun _ _ => ⟨c, Kd.FK_step hc (fun k ho _ => hk k (ho.1 rfl)), hz⟩
  p17 := fun e1 e2 => by obtain ⟨c, h1, h2⟩ := h.p17 e1 e2; exact ⟨c, Kd.FK_step h1 (fun k ho _ => hk k (ho.1 rfl)), (hk _ (Ne.symm (h.ne rfl e1))).trans h2⟩
theorem R20.put17 {c : List Value} (h : R20 X1 X2 t1 t2 wc b1 b2 b3 b4 b6 b7 b8 b9 b10 true b12 b13 m1 m2 m3 m4 m6 m7 m8 m9 g16 g17 w) (hc : Kd.FK k39 w (okb b10 true g16 g17) (rd_T39 t2 0) c) (hbl : Below wc.heap.size wc w1) (hs : w1.heap.size = w.heap.size) (hk : ∀ k, k ≠ g17 → w1.heap[k]? = w.heap[k]?) (hz : w1.heap[g17]? = some (.cells c.toArray 39 (0, 0))) :
    R20 X1 X2 t1 t2 wc b1 b2 b3 b4 b6 b7 b8 b9 b10 true b12 true m1 m2 m3 m4 m6 m7 m8 m9 g16 g17 w1 where
  below := hbl
  lt16 := fun e => by rw [hs]; exact h.lt16 e
  lt17 := fun e => by rw [hs]; exact h.lt17 e
  ne := h.ne
  l1 := fun e => Kd.V_step (h.l1 e) (fun k ho _ => hk k (ho.2 rfl))
  l6 := fun e => Kd.V_step (h.l6 e) (fun k ho _ => hk k (ho.2 rfl))
  r2 := fun e => Kd.N_step (h.r2 e) (fun k ho _ => hk k (ho.2 rfl))
  r7 := fun e => Kd.N_step (h.r7 e) (fun k ho _ => hk k (ho.2 rfl))
  i3 := h.i3
  i8 := h.i8
  d4 := fun e => by obtain ⟨c, h1, h2⟩ := h.d4 e; exact ⟨c, h1, Kd.FK_step h2 (fun k ho _ => hk k (ho.2 rfl))⟩
  d9 := fun e => by obtain ⟨c, h1, h2⟩ := h.d9 e; exact ⟨c, h1, Kd.FK_step h2 (fun k ho _ => hk k (ho.2 rfl))⟩
  z16 := fun e1 e2 => (hk _ (h.ne e1 rfl)).trans (h.z16 e1 e2)
  z17 := fun _ e => by cases e
  p16 := fun e1 e2 => by obtain ⟨c, h1, h2⟩ := h.p16 e1 e2; exact ⟨c, Kd.FK_step h1 (fun k ho _ => hk k (ho.2 rfl)), (hk _ (h.ne e1 rfl)).trans h2⟩
  p17 := fun _ _ => ⟨c, Kd.FK_step hc (fun k ho _ => hk k (ho.2 rfl)), hz⟩
theorem R20.put16b (h10 : b10 = true) {c : List Value} (h : R20 X1 X2 t1 t2 wc b1 b2 b3 b4 b6 b7 b8 b9 b10 b11 b12 b13 m1 m2 m3 m4 m6 m7 m8 m9 g16 g17 w) (hc : Kd.FK k39 w (okb b10 b11 g16 g17) (rd_T39 t1 0) c) (hbl : Below wc.heap.size wc w1) (hs : w1.heap.size = w.heap.size) (hk : ∀ k, k ≠ g16 → w1.heap[k]? = w.heap[k]?) (hz : w1.heap[g16]? = some (.cells c.toArray 39 (0, 0))) :
    R20 X1 X2 t1 t2 wc b1 b2 b3 b4 b6 b7 b8 b9 b10 b11 true b13 m1 m2 m3 m4 m6 m7 m8 m9 g16 g17 w1 := by subst h10; exact h.put16 hc hbl hs hk hz
theorem R20.put17b (h11 : b11 = true) {c : List Value} (h : R20 X1 X2 t1 t2 wc b1 b2 b3 b4 b6 b7 b8 b9 b10 b11 b12 b13 m1 m2 m3 m4 m6 m7 m8 m9 g16 g17 w) (hc : Kd.FK k39 w (okb b10 b11 g16 g17) (rd_T39 t2 0) c) (hbl : Below wc.heap.size wc w1) (hs : w1.heap.size = w.heap.size) (hk : ∀ k, k ≠ g17 → w1.heap[k]? = w.heap[k]?) (hz : w1.heap[g17]? = some (.cells c.toArray 39 (0, 0))) :
    R20 X1 X2 t1 t2 wc b1 b2 b3 b4 b6 b7 b8 b9 b10 b11 b12 true m1 m2 m3 m4 m6 m7 m8 m9 g16 g17 w1 := by subst h11; exact h.put17 hc hbl hs hk hz
/-- A block's cells stored anew. -/
theorem set_all {w : World} {g : Nat} {t : TypeId} {z : Array Value} {cs : List Value} (hb : w.heap[g]? = some (.cells z t (0, 0))) (hl : cs.length = z.size) :
    (w.setCells g 0 cs).heap[g]? = some (.cells cs.toArray t (0, 0)) ∧ (w.setCells g 0 cs).heap.size = w.heap.size ∧ (∀ k, k ≠ g → (w.setCells g 0 cs).heap[k]? = w.heap[k]?) ∧ w.grownBy (w.setCells g 0 cs) (some g) := by
  have hg := Go.Proofs.Ytiodebjjbgcbhaa.RowK.grown_setCells g cs 0 w
  have hs := Go.Proofs.Ytiodebjjbgcbhaa.Fill.setCells_size g cs 0 w
  have h2 := Go.Proofs.Ytiodebjjbgcbhaa.RowK.heap_setCells (b := g) cs 0 w z.toList (show w.heap[g]? = some (.cells z.toList.toArray t (0, 0)) by rw [Array.toArray_toList]; exact hb) (by simp [hl])
  refine ⟨?_, hs, fun k hk => ?_, hg⟩
  · rw [h2]
    simp [Go.Proofs.Ytiodebjjbgcbhaa.RowK.over, hl]
  · by_cases hlt : k < w.heap.size
    · exact hg.block k hlt (fun e => hk (by cases e; rfl))
    · rw [Array.getElem?_eq_none (by omega), Array.getElem?_eq_none (by omega)]
end
def alike.T20 : Bool × List (List Nat × List Nat) := (true, [([], []), ([0], [0]), ([1], [1]), ([2], [2]), ([3], [3]), ([], []), ([5], [5]), ([6, 2], [6]), ([7], [7]), ([8], [8]), ([], []), ([], []), ([10, 4, 7, 0, 1, 2, 3, 4, 10, 11], [4, 10]), ([11, 9, 12, 0, 1, 2, 3, 4, 5, 6, 7, 8, 9, 10, 11, 12], [9, 11])])
def alike.B20 : List Nat := [0, 1, 3, 7, 15, 0, 32, 103, 231, 487, 0, 0, 3327, 8191]
theorem alike.tab20 : rtab .any (opsOf Try.f4 20) = alike.T20 := by kernel_rfl
theorem alike.bits20 : waitsOk alike.T20.2 alike.B20 = true := by kernel_rfl
set_option maxHeartbeats 8000000 in
set_option maxRecDepth 100000 in
theorem alike.reg20 (k : Nat) {xl yl : List S38} {t1 t2 : List S39} {A0 A1 : Option Addr} {c0 c1 g0 g1 : Nat} {a : Act} {wc : World} {Q : Exit → Act → World → Prop} (hsz : Nat.ble 165 a.tmps.size = true) (h7 : a.tmps[7]? = some (.pointer (some ⟨g0, 0, none⟩))) (h8 : a.tmps[8]? = some (.pointer (some ⟨g1, 0, none⟩)))
    (hx0 : xl.length ≤ c0) (hx : Kd.F k38 wc (fun k => k < wc.heap.size) A0 xl.length xl) (hy0 : yl.length ≤ c1) (hy : Kd.F k38 wc (fun k => k < wc.heap.size) A1 yl.length yl)
    (hb0 : wc.heap[g0]? = some (.cells #[.slice A0 xl.length c0, .slice none 0 0, .int .i64 0, .int .i64 0, .int .i64 0] 30 (0, 0)))
    (hb1 : wc.heap[g1]? = some (.cells #[.slice A1 yl.length c1, .slice none 0 0, .int .i64 0, .int .i64 0, .int .i64 0] 30 (0, 0)))
    (ht1 : coraclelaw18_batches.f k [(⟨(⟨xl, [], 0⟩ : S28), 0, 0⟩ : S30)] = some t1) (hp1 : 0 < t1.length) (ht2 : coraclelaw18_batches.f k [(⟨(⟨yl, [], 0⟩ : S28), 0, 0⟩ : S30)] = some t2) (hp2 : 0 < t2.length)
    (hend : ∀ (v107 v108 v109 v110 v111 v112 v113 v114 v115 v116 : Value) (g16 g17 : Nat) (w : World), R20 (⟨(⟨xl, [], 0⟩ : S28), 0, 0⟩ : S30) (⟨(⟨yl, [], 0⟩ : S28), 0, 0⟩ : S30) t1 t2 wc true true true true true true true true true true true true v108 v109 v110 v111 v113 v114 v115 v116 g16 g17 w →
      Q .normal ((((((((((((a.put (some 107) v107).put (some 108) v108).put (some 109) v109).put (some 110) v110).put (some 111) v111).put (some 112) v112).put (some 113) v113).put (some 114) v114).put (some 115) v115).put (some 116) v116).put (some 16) (.pointer (some ⟨g16, 0, none⟩))).put (some 17) (.pointer (some ⟨g17, 0, none⟩))) w) :
    Code.wp Try.prog (Code.region 20 (opsOf Try.f4 20) true) Q a wc := by
  have HX := Aside0.mk hx
  have HY := Aside0.mk hy
  have HX0 := Aside0.mk hx0
  have HY0 := Aside0.mk hy0
  have HB0 := Aside0.mk hb0
  have HB1 := Aside0.mk hb1
  have HT1 := Aside0.mk ht1
  have HT2 := Aside0.mk ht2
  have HE := Aside0.mk hend
  have HS : ∀ n, n < 165 → Nat.ble (n + 1) a.tmps.size = true := fun n hn => Nat.ble_eq_true_of_le (Nat.le_trans hn (Nat.le_of_ble_eq_true hsz))
  have H7 := Aside0.mk h7
  have H8 := Aside0.mk h8
  clear hx hy hx0 hy0 hb0 hb1 ht1 ht2 hend h7 h8
  conv => arg 2; arg 2; whnf
  refine start_ (n := 14) (S := fun w' => True) (ds := []) #[false, false, false, false, false, false, false, false, false, false, false, false, false, false] (by kernel_rfl) (by kernel_rfl) rfl trivial (fun hHeld => ?_)
  refine with_tabW alike.tab20 alike.bits20 (fun HT_ HW_ => ?_)
  refine inv_at [0, 1, 2, 3, 4, 5, 6, 7, 8, 9, 10, 11, 12, 13] (fun a0_ b a w' => ∃ (m1 m2 m3 m4 m6 m7 m8 m9 : Value) (g16 g17 : Nat), a = putSel a0_ b [(0, 107, .agg #[.slice A0 xl.length c0, .slice none 0 0, .int .i64 0, .int .i64 0, .int .i64 0]), (1, 108, m1), (2, 109, m2), (3, 110, m3), (4, 111, m4), (5, 112, .agg #[.slice A1 yl.length c1, .slice none 0 0, .int .i64 0, .int .i64 0, .int .i64 0]), (6, 113, m6), (7, 114, m7), (8, 115, m8), (9, 116, m9), (10, 16, .pointer (some ⟨g16, 0, none⟩)), (11, 17, .pointer (some ⟨g17, 0, none⟩))] ∧
    R20 (⟨(⟨xl, [], 0⟩ : S28), 0, 0⟩ : S30) (⟨(⟨yl, [], 0⟩ : S28), 0, 0⟩ : S30) t1 t2 wc (b 1) (b 2) (b 3) (b 4) (b 6) (b 7) (b 8) (b 9) (b 10) (b 11) (b 12) (b 13) m1 m2 m3 m4 m6 m7 m8 m9 g16 g17 w') HT_.out HW_.out (by kernel_rfl) (by kernel_rfl) ?_ ?_ ?_
  · exact ⟨.bool false, .bool false, .bool false, .bool false, .bool false, .bool false, .bool false, .bool false, 0, 0, by simp only [putSel, Bool.false_eq_true, if_false], ⟨below_drew1 (Below.refl _ _), fun e => absurd e (by decide), fun e => absurd e (by decide), fun e => absurd e (by decide), fun e => absurd e (by decide), fun e => absurd e (by decide), fun e => absurd e (by decide), fun e => absurd e (by decide), fun e => absurd e (by decide), fun e => absurd e (by decide), fun e => absurd e (by decide), fun e => absurd e (by decide), fun e => absurd e (by decide), fun e => absurd e (by decide), fun e => absurd e (by decide), fun e => absurd e (by decide)⟩⟩
  refine steps_cons ?_ ?_
  · rintro b a w' ⟨m1, m2, m3, m4, m6, m7, m8, m9, g16, g17, ha, hR⟩ hb_ hon hoff
    refine ⟨_, rfl, fun K hK => ?_⟩
    have off3 := hoff 3 (by kernel_rfl)
    have off4 := hoff 4 (by kernel_rfl)
    have off8 := hoff 8 (by kernel_rfl)
    have off9 := hoff 9 (by kernel_rfl)
    have off12 := hoff 12 (by kernel_rfl)
    have off13 := hoff 13 (by kernel_rfl)
    have e7 : a.tmps[7]? = some (.pointer (some ⟨g0, 0, none⟩)) := by rw [ha]; exact (putSel_off rfl).trans H7.out
    have HR := Aside0.mk hR
    have HA := Aside0.mk ha
    have hbk := blk_below HB0.out hR.below
    have hc0 : w'.cell? ⟨g0, 0, none⟩ = some (.slice A0 xl.length c0) := (blk_cell hbk 0).trans rfl
    have hc1 : w'.cell? ⟨g0, 1, none⟩ = some (.slice none 0 0) := (blk_cell hbk 1).trans rfl
    have hc2 : w'.cell? ⟨g0, 2, none⟩ = some (.int .i64 0) := (blk_cell hbk 2).trans rfl
    have hc3 : w'.cell? ⟨g0, 3, none⟩ = some (.int .i64 0) := (blk_cell hbk 3).trans rfl
    have hc4 : w'.cell? ⟨g0, 4, none⟩ = some (.int .i64 0) := (blk_cell hbk 4).trans rfl
    clear hR ha hbk
    refine value_ (w1 := w') (v := .agg #[.slice A0 xl.length c0, .slice none 0 0, .int .i64 0, .int .i64 0, .int .i64 0]) (by rfl) rfl ?_ ?_
    · go_simp
      try rfl
    · refine hK.out _ _ ⟨m1, m2, m3, m4, m6, m7, m8, m9, g16, g17, ?_, HR.out⟩
      rw [HA.out]
      exact putSel_upk 0 hb_ rfl rfl rfl
  refine steps_cons ?_ ?_
  · rintro b a w' ⟨m1, m2, m3, m4, m6, m7, m8, m9, g16, g17, ha, hR⟩ hb_ hon hoff
    refine ⟨_, rfl, fun K hK => ?_⟩
    have e107 : a.tmps[107]? = some (.agg #[.slice A0 xl.length c0, .slice none 0 0, .int .i64 0, .int .i64 0, .int .i64 0]) := by rw [ha]; exact putSel_on (e := (0, 107, .agg #[.slice A0 xl.length c0, .slice none 0 0, .int .i64 0, .int .i64 0, .int .i64 0])) 0 rfl rfl (hon 0 (by kernel_rfl)) (HS 107 (by decide))
    have off3 := hoff 3 (by kernel_rfl)
    have off4 := hoff 4 (by kernel_rfl)
    have off8 := hoff 8 (by kernel_rfl)
    have off9 := hoff 9 (by kernel_rfl)
    have off12 := hoff 12 (by kernel_rfl)
    have off13 := hoff 13 (by kernel_rfl)
    have HR := Aside0.mk hR
    have HA := Aside0.mk ha
    clear ha
    have hF : Kd.F k38 w' (okb (b 10) (b 11) g16 g17) A0 xl.length xl := Kd.F_mono (Kd.F_below HX.out hR.below) (fun k hk => ⟨fun e => by have := (hR.lt16 e).1; omega, fun e => by have := (hR.lt17 e).1; omega⟩)
    have HF := Aside0.mk hF
    have hfr : okb (b 10) (b 11) g16 g17 w'.heap.size := ⟨fun e => by have := (hR.lt16 e).2; omega, fun e => by have := (hR.lt17 e).2; omega⟩
    have HFR := Aside0.mk hfr
    clear hR hF hfr
    refine Kd.N_lit_step k30 (w0 := w') w'.heap.size 30 (by rfl) (N' := 108) rfl (xs := [(⟨(⟨xl, [], 0⟩ : S28), 0, 0⟩ : S30)]) (inner := [.slice A0 xl.length c0, .slice none 0 0, .int .i64 0, .int .i64 0, .int .i64 0]) (ok := okb (b 10) (b 11) g16 g17) (okp := okb (b 10) (b 11) g16 g17) ?hr ?hp (fun _ hk => hk) HFR.out (Below.refl _ _) (Nat.le_refl _) (by simp) ?_
    case hr => go_simp; try rfl
    case hp => exact (Reps.c5 (show Kd.FK k30 _ _ (⟨(⟨xl, [], 0⟩ : S28), 0, 0⟩ : S30) [.slice A0 xl.length c0, .slice none 0 0, .int .i64 0, .int .i64 0, .int .i64 0] from (k30_mkF _ _ (⟨(⟨xl, [], 0⟩ : S28), 0, 0⟩ : S30) HX0.out HF.out (Nat.le_refl _) (Kd.F_nil _ _ _))) (Reps.none _ _))
    intro v1 w1 hN hb _ _
    have hR1 := HR.out.step hb
    refine hK.out _ _ ⟨v1, m2, m3, m4, m6, m7, m8, m9, g16, g17, ?_, { hR1 with l1 := fun _ => Kd.N_V hN }⟩
    rw [HA.out]
    exact putSel_upk 1 hb_ rfl rfl rfl
  refine steps_cons ?_ ?_
  · rintro b a w' ⟨m1, m2, m3, m4, m6, m7, m8, m9, g16, g17, ha, hR⟩ hb_ hon hoff
    refine ⟨_, rfl, fun K hK => ?_⟩
    have e108 : a.tmps[108]? = some (m1) := by rw [ha]; exact putSel_on (e := (1, 108, m1)) 1 rfl rfl (hon 1 (by kernel_rfl)) (HS 108 (by decide))
    have on1 := hon 1 (by kernel_rfl)
    have off3 := hoff 3 (by kernel_rfl)
    have off4 := hoff 4 (by kernel_rfl)
    have off8 := hoff 8 (by kernel_rfl)
    have off9 := hoff 9 (by kernel_rfl)
    have off12 := hoff 12 (by kernel_rfl)
    have off13 := hoff 13 (by kernel_rfl)
    have HR := Aside0.mk hR
    have HA := Aside0.mk ha
    clear ha
    have hV := hR.l1 on1
    clear hR
    obtain ⟨A, c, hv, hl, hF⟩ := hV
    have HF := Aside0.mk hF
    have HL := Aside0.mk hl
    have HV := Aside0.mk hv
    rw [hv] at e108
    clear hv hF hl
    refine call_ 10 #[.slice A 1 c] (by rfl) rfl ?_ ?_
    · go_simp
      try rfl
    · refine (coraclelaw18_batches.calls k (okb (b 10) (b 11) g16 g17) A c [(⟨(⟨xl, [], 0⟩ : S28), 0, 0⟩ : S30)] t1 w' ⟨A, c, rfl, HL.out, HF.out⟩ HT1.out).mono ?_
      rintro e w1 ⟨v, rfl, hN, hb⟩
      have hR1 := HR.out.step hb
      have hN1 : Kd.N k39 39 w1 wc.heap.size (okb (b 10) (b 11) g16 g17) v t1 := Kd.N_lower (Kd.N_mono hN (fun k hk => hk.elim id (fun hk => ⟨fun e => by have := (HR.out.lt16 e).2; omega, fun e => by have := (HR.out.lt17 e).2; omega⟩))) HR.out.below.size
      refine ⟨v, rfl, hK.out _ _ ⟨m1, v, m3, m4, m6, m7, m8, m9, g16, g17, ?_, { hR1 with r2 := fun _ => hN1, i3 := fun e => absurd (off3.symm.trans e) (by decide) }⟩⟩
      rw [HA.out]
      exact putSel_upk 2 hb_ rfl rfl rfl
  refine steps_cons ?_ ?_
  · rintro b a w' ⟨m1, m2, m3, m4, m6, m7, m8, m9, g16, g17, ha, hR⟩ hb_ hon hoff
    refine ⟨_, rfl, fun K hK => ?_⟩
    have e109 : a.tmps[109]? = some (m2) := by rw [ha]; exact putSel_on (e := (2, 109, m2)) 2 rfl rfl (hon 2 (by kernel_rfl)) (HS 109 (by decide))
    have on1 := hon 1 (by kernel_rfl)
    have on2 := hon 2 (by kernel_rfl)
    have off4 := hoff 4 (by kernel_rfl)
    have off12 := hoff 12 (by kernel_rfl)
    have off13 := hoff 13 (by kernel_rfl)
    have HR := Aside0.mk hR
    have HA := Aside0.mk ha
    clear ha
    obtain ⟨g, c, hv, _, _, _⟩ := Kd.N_form (hR.r2 on2) hp1
    clear hR
    have HV := Aside0.mk hv
    rw [hv] at e109
    clear hv
    have hp_ := eq_true (show (0 : Int) < (t1.length : Int) by omega)
    have hq_ := eq_true (show 0 < t1.length by omega)
    refine value_ (w1 := w') (v := .pointer (some ⟨g, 0, none⟩)) (by rfl) rfl ?_ ?_
    · go_simp
      try rfl
    · refine hK.out _ _ ⟨m1, m2, .pointer (some ⟨g, 0, none⟩), m4, m6, m7, m8, m9, g16, g17, ?_, { HR.out with i3 := fun _ => ⟨g, c, HV.out, rfl⟩, d4 := fun e => absurd (off4.symm.trans e) (by decide) }⟩
      rw [HA.out]
      exact putSel_upk 3 hb_ rfl rfl rfl
  refine steps_cons ?_ ?_
  · rintro b a w' ⟨m1, m2, m3, m4, m6, m7, m8, m9, g16, g17, ha, hR⟩ hb_ hon hoff
    refine ⟨_, rfl, fun K hK => ?_⟩
    have e110 : a.tmps[110]? = some (m3) := by rw [ha]; exact putSel_on (e := (3, 110, m3)) 3 rfl rfl (hon 3 (by kernel_rfl)) (HS 110 (by decide))
    have on1 := hon 1 (by kernel_rfl)
    have on2 := hon 2 (by kernel_rfl)
    have on3 := hon 3 (by kernel_rfl)
    have off12 := hoff 12 (by kernel_rfl)
    have off13 := hoff 13 (by kernel_rfl)
    have HR := Aside0.mk hR
    have HA := Aside0.mk ha
    clear ha
    obtain ⟨g, c, hv, hm⟩ := hR.i3 on3
    have hN := hR.r2 on2
    rw [hv] at hN
    obtain ⟨cs, hcl, hK0, hcc, _⟩ := Kd.N_elem hN z39 0 (by decide) (by omega)
    have hF : Kd.FK k39 w' (okb (b 10) (b 11) g16 g17) (rd_T39 t1 0) cs := Kd.FK_mono hK0 (fun k hk => hk.1)
    obtain ⟨B0, d0, B1, d1, rfl, _, _, _, _⟩ := k39_openF hF
    have HF := Aside0.mk hF
    have hc0 : w'.cell? ⟨g, 0, none⟩ = some (.slice B0 (rd_T39 t1 0).f0.f0.length d0) := hcc 0 _ rfl
    have hc1 : w'.cell? ⟨g, 1, none⟩ = some (.slice B1 (rd_T39 t1 0).f0.f1.length d1) := hcc 1 _ rfl
    have hc2 : w'.cell? ⟨g, 2, none⟩ = some (.int .i64 (rd_T39 t1 0).f0.f2) := hcc 2 _ rfl
    have hc3 : w'.cell? ⟨g, 3, none⟩ = some (.int .i64 (rd_T39 t1 0).f1) := hcc 3 _ rfl
    have hc4 : w'.cell? ⟨g, 4, none⟩ = some (.int .i64 (rd_T39 t1 0).f2) := hcc 4 _ rfl
    rw [hm] at e110
    clear hR hv hm hN hcl hK0 hcc hF
    refine value_ (w1 := w') (v := .agg #[.slice B0 (rd_T39 t1 0).f0.f0.length d0, .slice B1 (rd_T39 t1 0).f0.f1.length d1, .int .i64 (rd_T39 t1 0).f0.f2, .int .i64 (rd_T39 t1 0).f1, .int .i64 (rd_T39 t1 0).f2]) (by rfl) rfl ?_ ?_
    · go_simp
      try rfl
    · refine hK.out _ _ ⟨m1, m2, m3, _, m6, m7, m8, m9, g16, g17, ?_, { HR.out with d4 := fun _ => ⟨_, rfl, HF.out⟩ }⟩
      rw [HA.out]
      exact putSel_upk 4 hb_ rfl rfl rfl
  refine steps_cons ?_ ?_
  · rintro b a w' ⟨m1, m2, m3, m4, m6, m7, m8, m9, g16, g17, ha, hR⟩ hb_ hon hoff
    refine ⟨_, rfl, fun K hK => ?_⟩
    have off8 := hoff 8 (by kernel_rfl)
    have off9 := hoff 9 (by kernel_rfl)
    have off12 := hoff 12 (by kernel_rfl)
    have off13 := hoff 13 (by kernel_rfl)
    have e8 : a.tmps[8]? = some (.pointer (some ⟨g1, 0, none⟩)) := by rw [ha]; exact (putSel_off rfl).trans H8.out
    have HR := Aside0.mk hR
    have HA := Aside0.mk ha
    have hbk := blk_below HB1.out hR.below
    have hc0 : w'.cell? ⟨g1, 0, none⟩ = some (.slice A1 yl.length c1) := (blk_cell hbk 0).trans rfl
    have hc1 : w'.cell? ⟨g1, 1, none⟩ = some (.slice none 0 0) := (blk_cell hbk 1).trans rfl
    have hc2 : w'.cell? ⟨g1, 2, none⟩ = some (.int .i64 0) := (blk_cell hbk 2).trans rfl
    have hc3 : w'.cell? ⟨g1, 3, none⟩ = some (.int .i64 0) := (blk_cell hbk 3).trans rfl
    have hc4 : w'.cell? ⟨g1, 4, none⟩ = some (.int .i64 0) := (blk_cell hbk 4).trans rfl
    clear hR ha hbk
    refine value_ (w1 := w') (v := .agg #[.slice A1 yl.length c1, .slice none 0 0, .int .i64 0, .int .i64 0, .int .i64 0]) (by rfl) rfl ?_ ?_
    · go_simp
      try rfl
    · refine hK.out _ _ ⟨m1, m2, m3, m4, m6, m7, m8, m9, g16, g17, ?_, HR.out⟩
      rw [HA.out]
      exact putSel_upk 5 hb_ rfl rfl rfl
  refine steps_cons ?_ ?_
  · rintro b a w' ⟨m1, m2, m3, m4, m6, m7, m8, m9, g16, g17, ha, hR⟩ hb_ hon hoff
    refine ⟨_, rfl, fun K hK => ?_⟩
    have e112 : a.tmps[112]? = some (.agg #[.slice A1 yl.length c1, .slice none 0 0, .int .i64 0, .int .i64 0, .int .i64 0]) := by rw [ha]; exact putSel_on (e := (5, 112, .agg #[.slice A1 yl.length c1, .slice none 0 0, .int .i64 0, .int .i64 0, .int .i64 0])) 5 rfl rfl (hon 5 (by kernel_rfl)) (HS 112 (by decide))
    have off8 := hoff 8 (by kernel_rfl)
    have off9 := hoff 9 (by kernel_rfl)
    have off12 := hoff 12 (by kernel_rfl)
    have off13 := hoff 13 (by kernel_rfl)
    have HR := Aside0.mk hR
    have HA := Aside0.mk ha
    clear ha
    have hF : Kd.F k38 w' (okb (b 10) (b 11) g16 g17) A1 yl.length yl := Kd.F_mono (Kd.F_below HY.out hR.below) (fun k hk => ⟨fun e => by have := (hR.lt16 e).1; omega, fun e => by have := (hR.lt17 e).1; omega⟩)
    have HF := Aside0.mk hF
    have hfr : okb (b 10) (b 11) g16 g17 w'.heap.size := ⟨fun e => by have := (hR.lt16 e).2; omega, fun e => by have := (hR.lt17 e).2; omega⟩
    have HFR := Aside0.mk hfr
    clear hR hF hfr
    refine Kd.N_lit_step k30 (w0 := w') w'.heap.size 30 (by rfl) (N' := 113) rfl (xs := [(⟨(⟨yl, [], 0⟩ : S28), 0, 0⟩ : S30)]) (inner := [.slice A1 yl.length c1, .slice none 0 0, .int .i64 0, .int .i64 0, .int .i64 0]) (ok := okb (b 10) (b 11) g16 g17) (okp := okb (b 10) (b 11) g16 g17) ?hr ?hp (fun _ hk => hk) HFR.out (Below.refl _ _) (Nat.le_refl _) (by simp) ?_
    case hr => go_simp; try rfl
    case hp => exact (Reps.c5 (show Kd.FK k30 _ _ (⟨(⟨yl, [], 0⟩ : S28), 0, 0⟩ : S30) [.slice A1 yl.length c1, .slice none 0 0, .int .i64 0, .int .i64 0, .int .i64 0] from (k30_mkF _ _ (⟨(⟨yl, [], 0⟩ : S28), 0, 0⟩ : S30) HY0.out HF.out (Nat.le_refl _) (Kd.F_nil _ _ _))) (Reps.none _ _))
    intro v1 w1 hN hb _ _
    have hR1 := HR.out.step hb
    refine hK.out _ _ ⟨m1, m2, m3, m4, v1, m7, m8, m9, g16, g17, ?_, { hR1 with l6 := fun _ => Kd.N_V hN }⟩
    rw [HA.out]
    exact putSel_upk 6 hb_ rfl rfl rfl
  refine steps_cons ?_ ?_
  · rintro b a w' ⟨m1, m2, m3, m4, m6, m7, m8, m9, g16, g17, ha, hR⟩ hb_ hon hoff
    refine ⟨_, rfl, fun K hK => ?_⟩
    have e113 : a.tmps[113]? = some (m6) := by rw [ha]; exact putSel_on (e := (6, 113, m6)) 6 rfl rfl (hon 6 (by kernel_rfl)) (HS 113 (by decide))
    have on1 := hon 1 (by kernel_rfl)
    have on2 := hon 2 (by kernel_rfl)
    have on6 := hon 6 (by kernel_rfl)
    have off8 := hoff 8 (by kernel_rfl)
    have off9 := hoff 9 (by kernel_rfl)
    have off12 := hoff 12 (by kernel_rfl)
    have off13 := hoff 13 (by kernel_rfl)
    have HR := Aside0.mk hR
    have HA := Aside0.mk ha
    clear ha
    have hV := hR.l6 on6
    clear hR
    obtain ⟨A, c, hv, hl, hF⟩ := hV
    have HF := Aside0.mk hF
    have HL := Aside0.mk hl
    have HV := Aside0.mk hv
    rw [hv] at e113
    clear hv hF hl
    refine call_ 10 #[.slice A 1 c] (by rfl) rfl ?_ ?_
    · go_simp
      try rfl
    · refine (coraclelaw18_batches.calls k (okb (b 10) (b 11) g16 g17) A c [(⟨(⟨yl, [], 0⟩ : S28), 0, 0⟩ : S30)] t2 w' ⟨A, c, rfl, HL.out, HF.out⟩ HT2.out).mono ?_
      rintro e w1 ⟨v, rfl, hN, hb⟩
      have hR1 := HR.out.step hb
      have hN1 : Kd.N k39 39 w1 wc.heap.size (okb (b 10) (b 11) g16 g17) v t2 := Kd.N_lower (Kd.N_mono hN (fun k hk => hk.elim id (fun hk => ⟨fun e => by have := (HR.out.lt16 e).2; omega, fun e => by have := (HR.out.lt17 e).2; omega⟩))) HR.out.below.size
      refine ⟨v, rfl, hK.out _ _ ⟨m1, m2, m3, m4, m6, v, m8, m9, g16, g17, ?_, { hR1 with r7 := fun _ => hN1, i8 := fun e => absurd (off8.symm.trans e) (by decide) }⟩⟩
      rw [HA.out]
      exact putSel_upk 7 hb_ rfl rfl rfl
  refine steps_cons ?_ ?_
  · rintro b a w' ⟨m1, m2, m3, m4, m6, m7, m8, m9, g16, g17, ha, hR⟩ hb_ hon hoff
    refine ⟨_, rfl, fun K hK => ?_⟩
    have e114 : a.tmps[114]? = some (m7) := by rw [ha]; exact putSel_on (e := (7, 114, m7)) 7 rfl rfl (hon 7 (by kernel_rfl)) (HS 114 (by decide))
    have on1 := hon 1 (by kernel_rfl)
    have on2 := hon 2 (by kernel_rfl)
    have on6 := hon 6 (by kernel_rfl)
    have on7 := hon 7 (by kernel_rfl)
    have off9 := hoff 9 (by kernel_rfl)
    have off13 := hoff 13 (by kernel_rfl)
    have HR := Aside0.mk hR
    have HA := Aside0.mk ha
    clear ha
    obtain ⟨g, c, hv, _, _, _⟩ := Kd.N_form (hR.r7 on7) hp2
    clear hR
    have HV := Aside0.mk hv
    rw [hv] at e114
    clear hv
    have hp_ := eq_true (show (0 : Int) < (t2.length : Int) by omega)
    have hq_ := eq_true (show 0 < t2.length by omega)
    refine value_ (w1 := w') (v := .pointer (some ⟨g, 0, none⟩)) (by rfl) rfl ?_ ?_
    · go_simp
      try rfl
    · refine hK.out _ _ ⟨m1, m2, m3, m4, m6, m7, .pointer (some ⟨g, 0, none⟩), m9, g16, g17, ?_, { HR.out with i8 := fun _ => ⟨g, c, HV.out, rfl⟩, d9 := fun e => absurd (off9.symm.trans e) (by decide) }⟩
      rw [HA.out]
      exact putSel_upk 8 hb_ rfl rfl rfl
  refine steps_cons ?_ ?_
  · rintro b a w' ⟨m1, m2, m3, m4, m6, m7, m8, m9, g16, g17, ha, hR⟩ hb_ hon hoff
    refine ⟨_, rfl, fun K hK => ?_⟩
    have e115 : a.tmps[115]? = some (m8) := by rw [ha]; exact putSel_on (e := (8, 115, m8)) 8 rfl rfl (hon 8 (by kernel_rfl)) (HS 115 (by decide))
    have on1 := hon 1 (by kernel_rfl)
    have on2 := hon 2 (by kernel_rfl)
    have on6 := hon 6 (by kernel_rfl)
    have on7 := hon 7 (by kernel_rfl)
    have on8 := hon 8 (by kernel_rfl)
    have off13 := hoff 13 (by kernel_rfl)
    have HR := Aside0.mk hR
    have HA := Aside0.mk ha
    clear ha
    obtain ⟨g, c, hv, hm⟩ := hR.i8 on8
    have hN := hR.r7 on7
    rw [hv] at hN
    obtain ⟨cs, hcl, hK0, hcc, _⟩ := Kd.N_elem hN z39 0 (by decide) (by omega)
    have hF : Kd.FK k39 w' (okb (b 10) (b 11) g16 g17) (rd_T39 t2 0) cs := Kd.FK_mono hK0 (fun k hk => hk.1)
    obtain ⟨B0, d0, B1, d1, rfl, _, _, _, _⟩ := k39_openF hF
    have HF := Aside0.mk hF
    have hc0 : w'.cell? ⟨g, 0, none⟩ = some (.slice B0 (rd_T39 t2 0).f0.f0.length d0) := hcc 0 _ rfl
    have hc1 : w'.cell? ⟨g, 1, none⟩ = some (.slice B1 (rd_T39 t2 0).f0.f1.length d1) := hcc 1 _ rfl
    have hc2 : w'.cell? ⟨g, 2, none⟩ = some (.int .i64 (rd_T39 t2 0).f0.f2) := hcc 2 _ rfl
    have hc3 : w'.cell? ⟨g, 3, none⟩ = some (.int .i64 (rd_T39 t2 0).f1) := hcc 3 _ rfl
    have hc4 : w'.cell? ⟨g, 4, none⟩ = some (.int .i64 (rd_T39 t2 0).f2) := hcc 4 _ rfl
    rw [hm] at e115
    clear hR hv hm hN hcl hK0 hcc hF
    refine value_ (w1 := w') (v := .agg #[.slice B0 (rd_T39 t2 0).f0.f0.length d0, .slice B1 (rd_T39 t2 0).f0.f1.length d1, .int .i64 (rd_T39 t2 0).f0.f2, .int .i64 (rd_T39 t2 0).f1, .int .i64 (rd_T39 t2 0).f2]) (by rfl) rfl ?_ ?_
    · go_simp
      try rfl
    · refine hK.out _ _ ⟨m1, m2, m3, m4, m6, m7, m8, _, g16, g17, ?_, { HR.out with d9 := fun _ => ⟨_, rfl, HF.out⟩ }⟩
      rw [HA.out]
      exact putSel_upk 9 hb_ rfl rfl rfl
  refine steps_cons ?_ ?_
  · rintro b a w' ⟨m1, m2, m3, m4, m6, m7, m8, m9, g16, g17, ha, hR⟩ hb_ hon hoff
    refine ⟨_, rfl, fun K hK => ?_⟩
    have off12 := hoff 12 (by kernel_rfl)
    have off13 := hoff 13 (by kernel_rfl)
    have HR := Aside0.mk hR
    have HA := Aside0.mk ha
    clear ha hR
    refine box_step (by rfl) (N := 16) rfl (cs := #[.slice none 0 0, .slice none 0 0, .int .i64 0, .int .i64 0, .int .i64 0]) (t := 39) ?hr ?_
    case hr => go_simp; try rfl
    intro g hg w1 hz hb
    have hR := HR.out
    rw [hb_] at hR
    refine hK.out _ _ ⟨m1, m2, m3, m4, m6, m7, m8, m9, g, g17, ?_, hR.new16 off12 hg hb hz⟩
    rw [HA.out]
    exact putSel_upk 10 hb_ rfl rfl rfl
  refine steps_cons ?_ ?_
  · rintro b a w' ⟨m1, m2, m3, m4, m6, m7, m8, m9, g16, g17, ha, hR⟩ hb_ hon hoff
    refine ⟨_, rfl, fun K hK => ?_⟩
    have off12 := hoff 12 (by kernel_rfl)
    have off13 := hoff 13 (by kernel_rfl)
    have HR := Aside0.mk hR
    have HA := Aside0.mk ha
    clear ha hR
    refine box_step (by rfl) (N := 17) rfl (cs := #[.slice none 0 0, .slice none 0 0, .int .i64 0, .int .i64 0, .int .i64 0]) (t := 39) ?hr ?_
    case hr => go_simp; try rfl
    intro g hg w1 hz hb
    have hR := HR.out
    rw [hb_] at hR
    refine hK.out _ _ ⟨m1, m2, m3, m4, m6, m7, m8, m9, g16, g, ?_, hR.new17 off13 hg hb hz⟩
    rw [HA.out]
    exact putSel_upk 11 hb_ rfl rfl rfl
  refine steps_cons ?_ ?_
  · rintro b a w' ⟨m1, m2, m3, m4, m6, m7, m8, m9, g16, g17, ha, hR⟩ hb_ hon hoff
    refine ⟨_, rfl, fun K hK => ?_⟩
    have e111 : a.tmps[111]? = some (m4) := by rw [ha]; exact putSel_on (e := (4, 111, m4)) 4 rfl rfl (hon 4 (by kernel_rfl)) (HS 111 (by decide))
    have e16 : a.tmps[16]? = some (.pointer (some ⟨g16, 0, none⟩)) := by rw [ha]; exact putSel_on (e := (10, 16, .pointer (some ⟨g16, 0, none⟩))) 10 rfl rfl (hon 10 (by kernel_rfl)) (HS 16 (by decide))
    have on1 := hon 1 (by kernel_rfl)
    have on2 := hon 2 (by kernel_rfl)
    have on3 := hon 3 (by kernel_rfl)
    have on4 := hon 4 (by kernel_rfl)
    have on6 := hon 6 (by kernel_rfl)
    have on7 := hon 7 (by kernel_rfl)
    have on10 := hon 10 (by kernel_rfl)
    have on11 := hon 11 (by kernel_rfl)
    have off13 := hoff 13 (by kernel_rfl)
    have HR := Aside0.mk hR
    have HA := Aside0.mk ha
    obtain ⟨c, hv, hF⟩ := hR.d4 on4
    obtain ⟨B0, d0, B1, d1, rfl, _, _, _, _⟩ := k39_openF hF
    have HF := Aside0.mk hF
    rw [hv] at e111
    have hz := hR.z16 on10 hb_
    have HZ := Aside0.mk hz
    have hlt := hR.lt16 on10
    have HLT := Aside0.mk hlt
    have hc0 : w'.cell? ⟨g16, 0, none⟩ = some _ := (blk_cell hz 0).trans rfl
    have hc1 : w'.cell? ⟨g16, 1, none⟩ = some _ := (blk_cell hz 1).trans rfl
    have hc2 : w'.cell? ⟨g16, 2, none⟩ = some _ := (blk_cell hz 2).trans rfl
    have hc3 : w'.cell? ⟨g16, 3, none⟩ = some _ := (blk_cell hz 3).trans rfl
    have hc4 : w'.cell? ⟨g16, 4, none⟩ = some _ := (blk_cell hz 4).trans rfl
    have hf0 := blk_frozen hz 0
    have hf1 := blk_frozen hz 1
    have hf2 := blk_frozen hz 2
    have hf3 := blk_frozen hz 3
    have hf4 := blk_frozen hz 4
    clear ha hR hv hF hz hlt
    refine skip_ (w1 := w'.setCells g16 0 [.slice B0 (rd_T39 t1 0).f0.f0.length d0, .slice B1 (rd_T39 t1 0).f0.f1.length d1, .int .i64 (rd_T39 t1 0).f0.f2, .int .i64 (rd_T39 t1 0).f1, .int .i64 (rd_T39 t1 0).f2]) (by rfl) rfl ?_ ?_
    · go_simp
      try rfl
    · have hs := set_all (cs := [.slice B0 (rd_T39 t1 0).f0.f0.length d0, .slice B1 (rd_T39 t1 0).f0.f1.length d1, .int .i64 (rd_T39 t1 0).f0.f2, .int .i64 (rd_T39 t1 0).f1, .int .i64 (rd_T39 t1 0).f2]) HZ.out rfl
      refine hK.out _ _ ⟨m1, m2, m3, m4, m6, m7, m8, m9, g16, g17, ?_, HR.out.put16b on10 HF.out (pw_below_grown HR.out.below (some g16) HR.out.below.size hs.2.2.2 (fun k e => by cases e; exact HLT.out.1)) hs.2.1 hs.2.2.1 hs.1⟩
      rw [HA.out]
      exact (putSel_same rfl).symm
  refine steps_cons ?_ ?_
  · rintro b a w' ⟨m1, m2, m3, m4, m6, m7, m8, m9, g16, g17, ha, hR⟩ hb_ hon hoff
    refine ⟨_, rfl, fun K hK => ?_⟩
    have e116 : a.tmps[116]? = some (m9) := by rw [ha]; exact putSel_on (e := (9, 116, m9)) 9 rfl rfl (hon 9 (by kernel_rfl)) (HS 116 (by decide))
    have e17 : a.tmps[17]? = some (.pointer (some ⟨g17, 0, none⟩)) := by rw [ha]; exact putSel_on (e := (11, 17, .pointer (some ⟨g17, 0, none⟩))) 11 rfl rfl (hon 11 (by kernel_rfl)) (HS 17 (by decide))
    have on1 := hon 1 (by kernel_rfl)
    have on2 := hon 2 (by kernel_rfl)
    have on3 := hon 3 (by kernel_rfl)
    have on4 := hon 4 (by kernel_rfl)
    have on6 := hon 6 (by kernel_rfl)
    have on7 := hon 7 (by kernel_rfl)
    have on8 := hon 8 (by kernel_rfl)
    have on9 := hon 9 (by kernel_rfl)
    have on10 := hon 10 (by kernel_rfl)
    have on11 := hon 11 (by kernel_rfl)
    have on12 := hon 12 (by kernel_rfl)
    have HR := Aside0.mk hR
    have HA := Aside0.mk ha
    obtain ⟨c, hv, hF⟩ := hR.d9 on9
    obtain ⟨B0, d0, B1, d1, rfl, _, _, _, _⟩ := k39_openF hF
    have HF := Aside0.mk hF
    rw [hv] at e116
    have hz := hR.z17 on11 hb_
    have HZ := Aside0.mk hz
    have hlt := hR.lt17 on11
    have HLT := Aside0.mk hlt
    have hc0 : w'.cell? ⟨g17, 0, none⟩ = some _ := (blk_cell hz 0).trans rfl
    have hc1 : w'.cell? ⟨g17, 1, none⟩ = some _ := (blk_cell hz 1).trans rfl
    have hc2 : w'.cell? ⟨g17, 2, none⟩ = some _ := (blk_cell hz 2).trans rfl
    have hc3 : w'.cell? ⟨g17, 3, none⟩ = some _ := (blk_cell hz 3).trans rfl
    have hc4 : w'.cell? ⟨g17, 4, none⟩ = some _ := (blk_cell hz 4).trans rfl
    have hf0 := blk_frozen hz 0
    have hf1 := blk_frozen hz 1
    have hf2 := blk_frozen hz 2
    have hf3 := blk_frozen hz 3
    have hf4 := blk_frozen hz 4
    clear ha hR hv hF hz hlt
    refine skip_ (w1 := w'.setCells g17 0 [.slice B0 (rd_T39 t2 0).f0.f0.length d0, .slice B1 (rd_T39 t2 0).f0.f1.length d1, .int .i64 (rd_T39 t2 0).f0.f2, .int .i64 (rd_T39 t2 0).f1, .int .i64 (rd_T39 t2 0).f2]) (by rfl) rfl ?_ ?_
    · go_simp
      try rfl
    · have hs := set_all (cs := [.slice B0 (rd_T39 t2 0).f0.f0.length d0, .slice B1 (rd_T39 t2 0).f0.f1.length d1, .int .i64 (rd_T39 t2 0).f0.f2, .int .i64 (rd_T39 t2 0).f1, .int .i64 (rd_T39 t2 0).f2]) HZ.out rfl
      refine hK.out _ _ ⟨m1, m2, m3, m4, m6, m7, m8, m9, g16, g17, ?_, HR.out.put17b on11 HF.out (pw_below_grown HR.out.below (some g17) HR.out.below.size hs.2.2.2 (fun k e => by cases e; exact HLT.out.1)) hs.2.1 hs.2.2.1 hs.1⟩
      rw [HA.out]
      exact (putSel_same rfl).symm
  exact steps_nil
  · rintro b a w' hall ⟨m1, m2, m3, m4, m6, m7, m8, m9, g16, g17, ha, hR⟩
    have hb0_ := hall 0 (by kernel_rfl)
    have hb1_ := hall 1 (by kernel_rfl)
    have hb2_ := hall 2 (by kernel_rfl)
    have hb3_ := hall 3 (by kernel_rfl)
    have hb4_ := hall 4 (by kernel_rfl)
    have hb5_ := hall 5 (by kernel_rfl)
    have hb6_ := hall 6 (by kernel_rfl)
    have hb7_ := hall 7 (by kernel_rfl)
    have hb8_ := hall 8 (by kernel_rfl)
    have hb9_ := hall 9 (by kernel_rfl)
    have hb10_ := hall 10 (by kernel_rfl)
    have hb11_ := hall 11 (by kernel_rfl)
    have hb12_ := hall 12 (by kernel_rfl)
    have hb13_ := hall 13 (by kernel_rfl)
    simp only [hb1_, hb2_, hb3_, hb4_, hb6_, hb7_, hb8_, hb9_, hb10_, hb11_, hb12_, hb13_] at hR
    have h := HE.out (.agg #[.slice A0 xl.length c0, .slice none 0 0, .int .i64 0, .int .i64 0, .int .i64 0]) m1 m2 m3 m4 (.agg #[.slice A1 yl.length c1, .slice none 0 0, .int .i64 0, .int .i64 0, .int .i64 0]) m6 m7 m8 m9 g16 g17 w' hR
    subst ha
    simp only [putSel, hb0_, hb1_, hb2_, hb3_, hb4_, hb5_, hb6_, hb7_, hb8_, hb9_, hb10_, hb11_, if_true]
    exact h

end Go.Proofs.Ytiodebjjbgcbhaa.QRep
