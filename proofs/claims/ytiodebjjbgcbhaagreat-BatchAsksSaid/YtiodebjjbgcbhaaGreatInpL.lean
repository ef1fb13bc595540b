import Derived.Test.YtiodebjjbgcbhaaGreatInpJ
import Derived.Test.YtiodebjjbgcbhaaGreatLayC
namespace Go.Proofs.YtiodebjjbgcbhaaGreat.Inp
open Go.RowKit Go.Sort Go.Lib Go.Shelf Go.Proofs YtiodebjjbgcbhaaGreatW.PrintWords YtiodebjjbgcbhaaGreatW.PrintLast YtiodebjjbgcbhaaGreatW.PrintMore YtiodebjjbgcbhaaGreat Hand RowK Fill OrdO QLef
attribute [local go_sem ↓ high] Wide.hv44 Wide.hv33 Wide.hv37
set_option linter.unusedVariables false
set_option linter.unusedSectionVars false
set_option linter.unusedSimpArgs false
variable {α : Type}
set_option maxHeartbeats 1000000 in
theorem ins_nil (fv : Value) (w : World) : Calls Tryz.prog 89 #[.slice none 0 0, .int .i64 0, .int .i64 0, fv] w fun e w' => e = .returned (.tuple #[]) ∧ Below w.heap.size w w' := by
 go_enter Tryz.func89, Tryz.ntmps89
 go_wp2
 go_loopg [8] 0 (fun kq v wr => v = .int .i64 1 ∧ wr = w)
 case atStart => exact ⟨by go_num, rfl⟩
 case round =>
  obtain ⟨rfl, rfl⟩ := hrel
  go_wp2
  go_end0
  exact ⟨rfl, Below.refl _ _⟩
set_option maxHeartbeats 1000000 in
theorem stable_nil (fv : Value) (w : World) : Calls Tryz.prog 75 #[.slice none 0 0, .int .i64 0, fv] w fun e w' => e = .returned (.tuple #[]) ∧ Below w.heap.size w w' := by
 have HI := Ak (ins_nil fv)
 go_enter Tryz.func75, Tryz.ntmps75
 go_wp2
 go_loopg [7, 8] 0 (fun kq va vb wr => va = .int .i64 0 ∧ vb = .int .i64 20 ∧ wr = w)
 case atStart => exact ⟨rfl, by go_num, rfl⟩
 case round =>
  obtain ⟨rfl, rfl, rfl⟩ := hrel
  go_wp2_with (go_at_call 89; refine (HI.1 _).mono ?_; rintro e w2 ⟨rfl, hb⟩; have HB := Ak hb; clear hb)
  go_loopg [6] 0 (fun kq v wr => v = .int .i64 20 ∧ wr = w2)
  case atStart => exact ⟨by go_num, rfl⟩
  case round =>
   obtain ⟨rfl, rfl⟩ := hrel
   go_wp2
   go_end0
   exact ⟨rfl, HB.1⟩
set_option maxHeartbeats 1000000 in
theorem sort_nil (fv : Value) (w : World) : Calls Tryz.prog 47 #[.slice none 0 0, fv] w fun e w' => e = .returned (.tuple #[]) ∧ Below w.heap.size w w' := by
 have HI := Ak (stable_nil fv)
 go_enter Tryz.func47, Tryz.ntmps47
 go_wp2_with (go_at_call 75; refine (HI.1 _).mono ?_; rintro e w2 ⟨rfl, hb⟩; have HB := Ak hb; clear hb)
 go_end0
 exact ⟨rfl, HB.1⟩
def OwnI (I : Spec α) (w : World) (base : Nat) (v : Value) (l : List α) : Prop :=
 (v = .slice none 0 0 ∧ l = []) ∨ ∃ (g cap : Nat) (cur : List Value), v = .slice (some ⟨g, 0, none⟩) l.length cap ∧ base ≤ g ∧ w.heap[g]? = some (.cells cur.toArray 38 (0, 0)) ∧ l.length ≤ cap ∧ cap ≤ maxLen ∧ cur.length = cap * 44 ∧ cur.take (l.length * 44) = l.flatMap I.enc
theorem reps_flat (I : Spec α) : ∀ (l : List α) (cs : List Value), Reps (fun x c => c = I.enc x) 44 l cs → cs = l.flatMap I.enc
 | [], cs, h => by have := h.1; simp at this; simp [this]
 | x :: l, cs, h => by
  have h0 := h.2 0 x rfl
  rw [Nat.zero_mul, List.drop_zero] at h0
  have hl := h.1
  have ih := reps_flat I l (cs.drop 44) ⟨by rw [List.length_drop, hl, List.length_cons]; omega, fun j p hj => by
   have := h.2 (j + 1) p (by simpa using hj)
   rwa [show (j + 1) * 44 = 44 + j * 44 by omega, ← List.drop_drop] at this⟩
  rw [List.flatMap_cons, ← ih, ← h0, List.take_append_drop]
theorem own_of {I : Spec α} {w : World} {base : Nat} {v : Value} {l : List α} (h : OwnRow (fun x c => c = I.enc x) 38 44 w base v l) : OwnI I w base v l := by
 obtain ⟨inner, ho, hr⟩ := h
 have hf := reps_flat I l inner hr
 rcases ho.2 with ⟨rfl, hz⟩ | ⟨g, cap, cur, rfl, hb1, hb2, r1, r2, r3, r4⟩
 ·exact .inl ⟨rfl, List.length_eq_zero_iff.1 hz⟩
 ·exact .inr ⟨g, cap, cur.toList, rfl, hb1, by rw [Array.toArray_toList]; exact hb2, r1, r2, by simpa using r3, by rw [r4, hf]⟩
theorem OwnI.below {I : Spec α} {w w' : World} {base : Nat} {v : Value} {l : List α} (h : OwnI I w base v l) (hb : Below w.heap.size w w') : OwnI I w' base v l := by
 rcases h with h | ⟨g, cap, cur, h1, h2, h3, h4⟩
 ·exact .inl h
 ·exact .inr ⟨g, cap, cur, h1, h2, blk_below h3 hb, h4⟩
theorem OwnI.lower {I : Spec α} {w : World} {base b0 : Nat} {v : Value} {l : List α} (h : OwnI I w base v l) (hb : b0 ≤ base) : OwnI I w b0 v l := by
 rcases h with h | ⟨g, cap, cur, h1, h2, h3, h4⟩
 ·exact .inl h
 ·exact .inr ⟨g, cap, cur, h1, Nat.le_trans hb h2, h3, h4⟩
theorem below_grown {w w' : World} {g base : Nat} (h : w.grownBy w' (some g)) (h1 : base ≤ g) (h2 : base ≤ w.heap.size) : Below base w w' :=
 ⟨h.os, h.tape, h.output, h.size, fun k hk => h.block k (by omega) (by simp; omega)⟩
theorem del_own (I : Spec α) (g : Nat) (lb : Array Value) (eg : ∀ args w, (callFunc g args).run Tryz.prog w = .ok (.enter g args) w) (p : α → Bool) {W : World} {base : Nat} {v : Value} {l : List α} (h : OwnI I W base v l) (hbase : base ≤ W.heap.size)
 (hp : ∀ W' y, W.grownBy W' v.ownBlock → Calls Tryz.prog g (#[.agg (I.enc y).toArray] ++ lb) W' fun e w' => e = .returned (.bool (p y)) ∧ Below W'.heap.size W' w') :
 Calls Tryz.prog 43 #[v, .func (.func g) #[] lb] W fun e w' => ∃ v', e = .returned v' ∧ OwnI I w' base v' (l.filter fun y => !p y) ∧ Below base W w' := by
 rcases h with ⟨rfl, rfl⟩ | ⟨b, cap, cur, rfl, hb1, hb2, r1, r2, r3, r4⟩
 ·refine (DelI.del_none g lb eg W).mono ?_
  rintro e w' ⟨rfl, hb⟩
  exact ⟨_, rfl, .inl ⟨rfl, rfl⟩, hb.mono hbase⟩
 ·refine (DelI.del_row g lb eg p I.enc l (fun y _ => I.hk y) (fun y _ => I.h1 y) b cap cur W hb2 r3 r1 r2 r4 (fun W' y _ hg => hp W' y hg)).mono ?_
  rintro e w' ⟨rfl, hg, cur', k1, k2, k3⟩
  refine ⟨_, rfl, .inr ⟨b, cap, cur', rfl, hb1, k1, ?_, r2, k2, k3⟩, below_grown hg hb1 hbase⟩
  exact Nat.le_trans (List.length_filter_le _ _) r1
theorem sort_own [Inhabited α] (I : Spec α) (fg : Nat) (cb : Array Value) (eg : ∀ args w, (callFunc fg args).run Tryz.prog w = .ok (.enter fg args) w) (cf : α → α → Int) (hcf : OrdQ.Law cf) {W : World} {base : Nat} {v : Value} {l : List α} (h : OwnI I W base v l) (hbase : base ≤ W.heap.size) (hl : l.length < 1000000)
 (hp : ∀ W' x y, W.grownBy W' v.ownBlock → Calls Tryz.prog fg (#[.agg (I.enc x).toArray, .agg (I.enc y).toArray] ++ cb) W' fun e w' => e = .returned (.int .i64 (cf x y)) ∧ Below W'.heap.size W' w') :
 Calls Tryz.prog 47 #[v, .func (.func fg) #[] cb] W fun e w' => e = .returned (.tuple #[]) ∧ OwnI I w' base v (OrdQ.sortV cf l) ∧ Below base W w' := by
 rcases h with ⟨rfl, rfl⟩ | ⟨b, cap, cur, rfl, hb1, hb2, r1, r2, r3, r4⟩
 ·refine (sort_nil _ W).mono ?_
  rintro e w' ⟨rfl, hb⟩
  exact ⟨rfl, .inl ⟨rfl, rfl⟩, hb.mono hbase⟩
 ·have hz : (l.zipIdx.toArray.toList.flatMap fun u : α × Nat => I.enc u.1) = l.flatMap I.enc := by
   have e : (l.zipIdx.map Prod.fst).flatMap I.enc = l.flatMap I.enc := by simp
   rw [← e, List.flatMap_map]
  have hs : l.zipIdx.toArray.size = l.length := by simp
  have hlen := (OrdQ.sortV_perm cf l).length_eq
  have hle : l.length * 44 ≤ cur.length := by rw [r3]; exact Nat.mul_le_mul_right _ r1
  refine (Stb.sortStable (α := α × Nat) (enc := fun u => I.enc u.1) (g := b) (m := cur.length) (w0 := W) (d := l.zipIdx.toArray) (N := l.length) (cap := cap) (cf := fun u v => cf u.1 v.1) (lt := OrdQ.lt2 cf) Prod.snd (OrdQ.lt2_trans hcf) (fun u v huv => ⟨fun h => .inl (by simpa [Stb.lto] using h), fun h => ?_⟩) eg (fun W' hg x y => hp W' x.1 y.1 hg) hs hl (fun x hx => ?_) ⟨fun x => I.hk x.1, fun x => I.h1 x.1, ⟨cur, hb2, rfl, by rw [hs]; exact hle, by rw [hs, hz, r4]⟩, ⟨rfl, rfl, rfl, Nat.le_refl _, fun _ _ _ => rfl⟩⟩).mono ?_
  ·have h' : ¬ cf v.1 u.1 < 0 := by simpa [Stb.lto] using h
   have := hcf.flip u.1 v.1
   by_cases e : cf u.1 v.1 = 0
   ·exact .inr ⟨e, huv⟩
   ·exact .inl (by omega)
  ·unfold Stb.D
   rw [getElem!_pos _ x (by rw [hs]; exact hx)]
   simp
  ·rintro e w' ⟨rfl, d', k1, k2, k3, k4⟩
   obtain ⟨cur', c1, c2, c3, c4⟩ := k4.blk
   have e1 := OrdQ.sort_eq hcf l d' k1 k2 k3
   refine ⟨rfl, .inr ⟨b, cap, cur', by rw [hlen], hb1, c1, by rw [hlen]; exact r1, r2, by rw [c2, r3], ?_⟩, below_grown k4.gb hb1 hbase⟩
   rw [hlen, ← k1, c4, ← e1, List.flatMap_map]
theorem cmpR_law (I : Spec α) (rt : α → Int) : OrdQ.Law (cmpR I rt) := by
 have h1 : OrdQ.Law (fun x y => cmp3 (rt y) (rt x)) := (OrdQ.Law.of_key rt).of_flip
 have h2 : OrdQ.Law (fun x y => cmp3 (I.dl x) (I.dl y)) := OrdQ.Law.of_key I.dl
 have h := h1.lex (h2.lex (OrdQ.placeI_law I))
 have e : cmpR I rt = OrdQ.lex (fun x y => cmp3 (rt y) (rt x)) (OrdQ.lex (fun x y => cmp3 (I.dl x) (I.dl y)) (placeI I)) := by
  funext x y
  show (if cmpI (rt y) (rt x) = 0 then (if cmpI (I.dl x) (I.dl y) = 0 then (if placeI I x y = 0 then 0 else placeI I x y) else cmpI (I.dl x) (I.dl y)) else cmpI (rt y) (rt x)) = (if cmp3 (rt y) (rt x) = 0 then (if cmp3 (I.dl x) (I.dl y) = 0 then placeI I x y else cmp3 (I.dl x) (I.dl y)) else cmp3 (rt y) (rt x))
  have e3 : (if placeI I x y = 0 then 0 else placeI I x y) = placeI I x y := by split <;> simp_all
  rw [e3]
  rfl
 rw [e]
 exact h
def orderV (I : Spec α) (ck rt : α → Int) (next : Int) (l : List α) : List α := OrdQ.sortV (cmpR I rt) (l.filter fun y => !out1 I ck next y)
theorem own_ne {I : Spec α} {w : World} {base q : Nat} {v : Value} {l : List α} (h : OwnI I w base v l) (hq : q < base) : some q ≠ v.ownBlock := by
 rcases h with ⟨rfl, _⟩ | ⟨g, cap, cur, rfl, h2, _⟩
 ·simp [Value.ownBlock]
 ·simp only [Value.ownBlock, ne_eq, Option.some.injEq]; omega
theorem own_ge {I : Spec α} {w : World} {base q : Nat} {v : Value} {l : List α} (h : OwnI I w base v l) (hq : w.heap.size ≤ q) : some q ≠ v.ownBlock := by
 rcases h with ⟨rfl, _⟩ | ⟨g, cap, cur, rfl, h2, h3, _⟩
 ·simp [Value.ownBlock]
 ·have := (Array.getElem?_eq_some_iff.1 h3).1
  simp only [Value.ownBlock, ne_eq, Option.some.injEq]; omega
set_option maxHeartbeats 8000000 in
set_option maxRecDepth 100000 in
theorem order_calls [Inhabited α] (I : Spec α) (ck rt : α → Int) (next : Int) (hC : Checked I ck) (hR : Rated I next rt) (l : List α) (A : Option Addr) (c : Nat) (w : World) (hA : ReadsRow (fun x c => c = I.enc x) 44 w A l.length l) (hl : l.length < 100000) :
 Calls Tryz.prog 15 #[.slice A l.length c, .int .i64 next] w fun e w' => ∃ v, e = .returned v ∧ OwnI I w' w.heap.size v (orderV I ck rt next l) ∧ Below w.heap.size w w' := by
 have e53 : ∀ args w, (callFunc 45 args).run Tryz.prog w = .ok (.enter 45 args) w := enters_of Tryz.func45 (by kernel_rfl) rfl
 have e77 : ∀ args w, (callFunc 76 args).run Tryz.prog w = .ok (.enter 76 args) w := enters_of Tryz.func76 (by kernel_rfl) rfl
 have CL := Ak (fun W (hb : Below w.heap.size w W) => by
  have hinf : (Tryz.prog.info? 38).map (fun i => (i.zero, i.size, i.bytes)) = some (some (.agg #[(.int .u8 0), (.int .u8 0), (.int .u8 0), (.int .u8 0), (.int .u8 0), (.int .u8 0), (.int .u8 0), (.int .u8 0), (.int .u8 0), (.int .u8 0), (.int .u8 0), (.int .u8 0), (.int .u8 0), (.int .u8 0), (.int .u8 0), (.int .u8 0), (.int .u8 0), (.int .u8 0), (.int .u8 0), (.int .u8 0), (.int .u8 0), (.int .u8 0), (.int .u8 0), (.int .u8 0), (.int .u8 0), (.int .u8 0), (.int .u8 0), (.int .u8 0), (.int .u8 0), (.int .u8 0), (.int .u8 0), (.int .u8 0), (.int .i64 0), (.int .i64 0), (.int .i64 0), (.int .i64 0), (.string ⟨#[]⟩), (.int .i64 0), (.int .i64 0), (.int .i64 0), (.int .i64 0), (.int .i64 0), (.int .i64 0), (.int .i64 0)]), 44, 136) := by kernel_rfl
  cases hi : Tryz.prog.info? 38 with
  | none => rw [hi] at hinf; cases hinf
  | some i0 =>
   rw [hi] at hinf
   have h2 := Option.some.inj hinf
   exact (CloneQ.clone_row LayC.cloneInput i0 _ 44 136 hi (congrArg (fun q => q.1) h2) (congrArg (fun q => q.2.1) h2) (congrArg (fun q => q.2.2) h2) rfl (by decide) Tryz.sizeOf38 I.enc I.hk I.h1 A c l W (ReadsRow.imp_ hA hb (fun _ _ h => h)) (by omega) (by unfold maxLen; omega)))
 have E53 := Ak e53
 have E77 := Ak e77
 have HC := Ak hC
 have HR := Ak hR
 have HB := Ak (Below.refl w.heap.size w)
 have HL := Ak hl
 clear e53 e77 hC hR hA hl
 go_enter Tryz.func15, Tryz.ntmps15
 go_wp2_with (first | ((with_reducible refine gate_dst (N := 3) rfl ?_); refine box_event ?hg (N := 3) ?hd (cs := #[.int .i64 next]) (t := 3) ?hr ?_; (case hd => rfl); (case hg => rfl); (case hr => first | (go_simp; done) | (go_simp; rfl)); intro q1 hg w1 hbox hb; have m_HB := Ak (below_step HB.1 hb); have BQ := Ak hbox; have HQ := Ak (show q1 < w1.heap.size from (Array.getElem?_eq_some_iff.1 hbox).1); clear HB hbox hb hg; have HB := m_HB; clear m_HB) | ((with_reducible refine gate_callee (f := 44) rfl ?_); refine goesL_ (some 7) rfl rfl Tryz.func44 (by kernel_rfl) rfl #[.slice A l.length c] rfl (by (try simp only [lm_, lc_, ln_]); first | done | rfl) ?_; refine (CL.1 _ HB.1).mono ?_; rintro e w2 ⟨v2, rfl, ho, hb⟩; refine ⟨_, rfl, ?_⟩; have OV := Ak (own_of ho); have m_BQ := Ak (blk_below BQ.1 hb); have HB2 := Ak (below_step HB.1 hb); have HS2 := Ak hb.size; clear BQ ho hb; have BQ := m_BQ; clear m_BQ) | (go_at_call 43; refine (del_own I 45 #[.pointer (some ⟨q1, 0, none⟩)] E53.1 (out1 I ck next) OV.1 HS2.1 (fun W' y hg => order1_calls I next ck HC.1 y q1 W' ((hg.block q1 (Nat.lt_of_lt_of_le HQ.1 HS2.1) (own_ne OV.1 HQ.1)).trans BQ.1))).mono ?_; rintro e w3 ⟨v3, rfl, ho, hb⟩; have OV3 := Ak ho; have m_BQ := Ak ((hb.block q1 HQ.1).trans BQ.1); have HB3 := Ak (HB2.1.trans (hb.mono HB.1.size)); have HS3 := Ak (Nat.le_trans HS2.1 hb.size); clear BQ OV ho hb; have BQ := m_BQ; clear m_BQ; have kq : w3.cell? ⟨q1, 0, none⟩ = some (.int .i64 next) := (blk_cell BQ.1 0).trans rfl) | ((with_reducible refine gate_callee (f := 48) rfl ?_); refine goesL_ (some 12) rfl rfl Tryz.func48 (by kernel_rfl) rfl #[.int .i64 next] rfl (by (try simp only [lm_, lc_, ln_]); first | done | rfl) ?_; refine (mkRate_calls next _).mono ?_; rintro e w4 ⟨q2, rfl, hq, hbq, hb⟩; refine ⟨_, rfl, ?_⟩; have OV4 := Ak (OV3.1.below hb); have BQ2 := Ak hbq; have HQ2 := Ak (show q2 < w4.heap.size from (Array.getElem?_eq_some_iff.1 hbq).1); have HN := Ak (own_ge OV3.1 hq); have HB4 := Ak (below_step HB3.1 hb); have HS4 := Ak (Nat.le_trans HS3.1 hb.size); clear OV3 BQ kq hq hbq hb) | (go_at_call 47; refine (sort_own I 76 #[.pointer (some ⟨q2, 0, none⟩)] E77.1 (cmpR I rt) (cmpR_law I rt) OV4.1 HS4.1 (Nat.lt_of_le_of_lt (List.length_filter_le _ _) (Nat.lt_trans HL.1 (by decide))) (fun W' x y hg => byRate_calls I next rt HR.1 x y q2 W' ((hg.block q2 HQ2.1 HN.1).trans BQ2.1))).mono ?_; rintro e w5 ⟨rfl, ho, hb⟩; have OV5 := Ak ho; have HB5 := Ak (HB4.1.trans (hb.mono HB.1.size)); clear ho hb))
 go_ret
 exact ⟨_, rfl, OV5.1.lower HB.1.size, HB5.1⟩
end Go.Proofs.YtiodebjjbgcbhaaGreat.Inp
