import Derived.Test.YtiodebjjbgcbhaaGreatMixA
import Derived.Test.YtiodebjjbgcbhaaGreatWMore
namespace Go.Proofs.YtiodebjjbgcbhaaGreat.Mix
open Go Go.RowKit Go.Proofs YtiodebjjbgcbhaaGreatW.PrintLast YtiodebjjbgcbhaaGreatW.PrintWords YtiodebjjbgcbhaaGreatW.PrintMore
variable {P : Program} {ops : Array Oper} {Q : Exit → Act → World → Prop} {md : Region.Mode} {S : World → Prop} {ds : List Nat}
theorem put_comm (a : Act) {n m : Tmp} (u v : Value) (h : n ≠ m) : (a.put (some n) u).put (some m) v = (a.put (some m) v).put (some n) u := by
 simp only [Act.put]
 rw [Array.setIfInBounds_comm _ _ h]
theorem eval_put (a : Act) {n : Tmp} (v : Value) (h : n < a.tmps.size) : (a.put (some n) v).eval (.tmp n) = v := by
 simp [Act.put, Act.eval, h]
theorem eval_ne (a : Act) {n m : Tmp} (v : Value) (h : n ≠ m) : (a.put (some n) v).eval (.tmp m) = a.eval (.tmp m) := by
 simp [Act.put, Act.eval, Array.getD_eq_getD_getElem?, Array.getElem?_setIfInBounds_ne h]
theorem size_put (a : Act) {n : Tmp} (v : Value) : (a.put (some n) v).tmps.size = a.tmps.size := by simp [Act.put]
theorem parts {α : Type} (d : Kd α) (hd : d.E = []) (t e : TypeId) (z : Value) (bytes : Nat) {Rr : α → List Value → Prop} {r : PlanO} {NE NX NA NL NY : Tmp} {oE oA oL : Oper} {A : Option Addr} {m c : Nat} {xs : List α} {y : α} {cs : List Value} {a : Act} {w : World}
 (gE : oE.guard = none) (gA : oA.guard = none) (gL : oL.guard = none) (dE : oE.dst = some NE) (dA : oA.dst = some NA) (dL : oL.dst = some NL)
 (hN : (NE != NX && NE != NA && NE != NL && NE != NY && NA != NX && NA != NL && NA != NY && NL != NX && NL != NY && Nat.blt NE a.tmps.size && Nat.blt NA a.tmps.size && Nat.blt NL a.tmps.size) = true)
 (oA' : oA.op = .call { callee := .builtin .append, args := #[.tmp NE, .tmp NX], argTypes := #[t, t] })
 (rE : ∀ (a' : Act) (W : World), (execOp a'.eval oE).run P W = .ok (.value (.slice (some ⟨W.heap.size, 0, none⟩) 0 0)) (W.alloc (.cells #[] e)))
 (rL : ∀ (a' : Act) (W : World), a'.eval (.tmp NY) = .agg cs.toArray → (execOp a'.eval oL).run P W = .ok (.value (.slice (some ⟨W.heap.size, 0, none⟩) 1 1)) (W.alloc (.cells cs.toArray e)))
 (ht : P.underlying t = some (.slice e)) (hinfo : (P.info? e).map (fun i => (i.zero, i.size, i.bytes)) = some (some z, d.sz, bytes)) (hz : z.cells.size = d.sz) (hs0 : 0 < d.sz) (hb0 : 0 < bytes)
 (hX : a.eval (.tmp NX) = .slice A m c) (hY : a.eval (.tmp NY) = .agg cs.toArray) (hM : ∀ W base ok, d.M W base ok y cs) (hc : cs.length = d.sz) (hKM : ∀ W base ok x cs, Rr x cs → d.M W base ok x cs)
 (hR : ∀ W, Below w.heap.size w W → ReadsRow Rr d.sz W A m xs) (hl : m * bytes ≤ 140737488355328) (hS : ∀ W, Below w.heap.size w W → S W)
 (h : ∀ vE vA vL W, d.R e W w.heap.size (fun _ => True) vA xs → d.R e W w.heap.size (fun _ => True) vL [y] → (∀ k, vL.ownBlock = some k → some k ≠ vA.ownBlock) → Below w.heap.size w W → At P ops Q S r (((a.put (some NE) vE).put (some NA) vA).put (some NL) vL) W) :
 At P ops Q S (.w oE oL (.w oA oL (.e oL r) (.e oA r)) (.e oE (.e oA r))) a w := by
 simp only [Bool.and_eq_true, bne_iff_ne, ne_eq, Nat.blt_eq] at hN
 obtain ⟨⟨⟨⟨⟨⟨⟨⟨⟨⟨⟨n1, n2⟩, n3⟩, n4⟩, n5⟩, n6⟩, n7⟩, n8⟩, n9⟩, s1⟩, s2⟩, s3⟩ := hN
 have wE : ∀ a' : Act, Region.wanted oE (yielded ops a'.tmps) = true := fun a' => by simp [Region.wanted, gE]
 have wA : ∀ a' : Act, Region.wanted oA (yielded ops a'.tmps) = true := fun a' => by simp [Region.wanted, gA]
 have wL : ∀ a' : Act, Region.wanted oL (yielded ops a'.tmps) = true := fun a' => by simp [Region.wanted, gL]
 have lE : ∀ (a' : Act) (W : World) (C : Act → World → Prop), Below w.heap.size w W → (∀ v W', d.R e W' w.heap.size (fun _ => True) v [] → Below w.heap.size w W' → W.grownBy W' none → (∃ b, v.ownBlock = some b ∧ W.heap.size ≤ b) → C (a'.put (some NE) v) W') → Ev P ops Q oE C a' W := fun a' W C hb hh =>
  ev dE (fun K hK => by
   have := Kd.R_lit_step d (ops := ops) (o := oE) (a := a') (Q := Q) (Kc := K) (w0 := w) (W := W) w.heap.size e (wE a') dE (xs := ([] : List α)) (inner := []) (ok := fun _ => True) (okp := fun _ => False) (rE a' W) (Reps.none _ _) (fun _ hk => hk.elim) trivial hb hb.size (by simp) (fun v W' h1 h2 h3 h4 => by rw [dE]; exact hK.out _ _ (hh v W' h1 h2 h3 h4))
   rwa [dE] at this)
 have lL : ∀ (a' : Act) (W : World) (C : Act → World → Prop), a'.eval (.tmp NY) = .agg cs.toArray → Below w.heap.size w W → (∀ v W', d.R e W' w.heap.size (fun _ => True) v [y] → Below w.heap.size w W' → W.grownBy W' none → (∃ b, v.ownBlock = some b ∧ W.heap.size ≤ b) → C (a'.put (some NL) v) W') → Ev P ops Q oL C a' W := fun a' W C hy hb hh =>
  ev dL (fun K hK => by
   have := Kd.R_lit_step d (ops := ops) (o := oL) (a := a') (Q := Q) (Kc := K) (w0 := w) (W := W) w.heap.size e (wL a') dL (xs := [y]) (inner := cs) (ok := fun _ => True) (okp := fun _ => False) (rL a' W hy) (by have h0 := Reps.snoc (Reps.none (d.M W w.heap.size (fun _ => False)) d.sz) (hM W w.heap.size (fun _ => False)) hc; simpa using h0) (fun _ hk => hk.elim) trivial hb hb.size (by simp) (fun v W' h1 h2 h3 h4 => by rw [dL]; exact hK.out _ _ (hh v W' h1 h2 h3 h4))
   rwa [dL] at this)
 have lA : ∀ (a' : Act) (W : World) (C : Act → World → Prop) (u : Value), a'.eval (.tmp NE) = u → a'.eval (.tmp NX) = .slice A m c → d.R e W w.heap.size (fun _ => True) u [] → Below w.heap.size w W → (∀ v W', d.R e W' w.heap.size (fun _ => True) v xs → Below w.heap.size w W' → W.grownBy W' u.ownBlock → (v.ownBlock = u.ownBlock ∨ ∃ b, v.ownBlock = some b ∧ W.heap.size ≤ b) → C (a'.put (some NA) v) W') → Ev P ops Q oA C a' W := fun a' W C u hu hx hr hb hh =>
  ev dA (fun K hK => by
   have := Kd.R_append_rows_step d (ops := ops) (o := oA) (a := a') (Q := Q) (Kc := K) (w0 := w) (W := W) w.heap.size (wA a') (.tmp NE) (.tmp NX) t e z bytes oA' ht hinfo hz hs0 hb0 u [] xs A m c (fun _ => True) (fun _ => False) hu hx hr (hR W hb) (hKM _ _ _) (fun _ hk => hk.elim) (fun _ _ => trivial) hb hb.size (by simpa using hl) (fun v W' h1 h2 h3 h4 => by rw [dA]; exact hK.out _ _ (hh v W' (by simpa using h1) h2 h3 h4))
   rwa [dA] at this)
 refine ⟨?_, ?_⟩
 ·refine lE _ _ _ (Below.refl _ _) (fun vE w1 r1 b1 g1 o1 => ⟨hS _ b1, ?_, ?_⟩)
  ·refine lA _ _ _ vE (eval_put _ _ s1) ((eval_ne _ _ n1).trans hX) r1 b1 (fun vA w2 r2 b2 g2 o2 => ⟨hS _ b2, ?_⟩)
   refine lL _ _ _ ((eval_ne _ _ n7).trans ((eval_ne _ _ n4).trans hY)) b2 (fun vL w3 r3 b3 g3 o3 => ⟨hS _ b3, ?_⟩)
   exact h vE vA vL w3 (Kd.R_grown r2 g3 (fun _ _ => by simp)) r3 (fun k hk hh => by obtain ⟨b, hb, hle⟩ := o3; have := Kd.R_lt r2 k hh.symm; rw [hk] at hb; cases hb; omega) b3
  ·refine lL _ _ _ ((eval_ne _ _ n4).trans hY) b1 (fun vL w2 r2 b2 g2 o2 => ⟨hS _ b2, ?_⟩)
   refine lA _ _ _ vE ((eval_ne _ _ (Ne.symm n3)).trans (eval_put _ _ s1)) ((eval_ne _ _ n8).trans ((eval_ne _ _ n1).trans hX)) (Kd.R_grown r1 g2 (fun _ _ => by simp)) b2 (fun vA w3 r3 b3 g3 o3 => ⟨hS _ b3, ?_⟩)
   rw [put_comm _ _ _ (Ne.symm n6)]
   obtain ⟨bL, hbL, hle⟩ := o2
   have hEL : ∀ k, vE.ownBlock = some k → k < bL := fun k hk => by have := Kd.R_lt r1 k hk; omega
   exact h vE vA vL w3 r3 (Kd.R_grown2 r2 hd g3 (fun k hk hh => by rw [hbL] at hh; cases hh; have := hEL _ hk; omega)) (fun k hk hh => by
    rw [hbL] at hk; cases hk
    rcases o3 with o3 | ⟨b, hb, hle3⟩
    ·rw [o3] at hh; have := hEL _ hh.symm; omega
    ·rw [hb] at hh; cases hh; have := Kd.R_lt r2 _ hbL; omega) b3
 ·refine lL _ _ _ hY (Below.refl _ _) (fun vL w1 r1 b1 g1 o1 => ⟨hS _ b1, ?_⟩)
  refine lE _ _ _ b1 (fun vE w2 r2 b2 g2 o2 => ⟨hS _ b2, ?_⟩)
  refine lA _ _ _ vE (eval_put _ _ (by rw [size_put]; exact s1)) ((eval_ne _ _ n1).trans ((eval_ne _ _ n8).trans hX)) r2 b2 (fun vA w3 r3 b3 g3 o3 => ⟨hS _ b3, ?_⟩)
  rw [put_comm _ _ _ (Ne.symm n3), put_comm _ _ _ (Ne.symm n6)]
  obtain ⟨bE, hbE, hle⟩ := o2
  have hEL : ∀ k, vL.ownBlock = some k → k < bE := fun k hk => by have := Kd.R_lt r1 k hk; omega
  exact h vE vA vL w3 r3 (Kd.R_grown2 (Kd.R_grown r1 g2 (fun _ _ => by simp)) hd g3 (fun k hk hh => by rw [hbE] at hk; cases hk; have := hEL _ hh.symm; omega)) (fun k hk hh => by
   have := hEL _ hk
   rcases o3 with o3 | ⟨b, hb, hle3⟩
   ·rw [o3, hbE] at hh; cases hh; omega
   ·rw [hb] at hh; cases hh; have := Kd.R_lt r2 _ hbE; omega) b3
end Go.Proofs.YtiodebjjbgcbhaaGreat.Mix
namespace Go.Proofs.YtiodebjjbgcbhaaGreat.Mix
open Go Go.Proofs YtiodebjjbgcbhaaGreatW.PrintLast YtiodebjjbgcbhaaGreatW.PrintWords
variable {P : Program} {ops : Array Oper} {Q : Exit → Act → World → Prop} {S : World → Prop}
theorem three {r : PlanO} {NE NX NA NL NY : Tmp} {oE oA oL : Oper} {a : Act} {w : World} (I : Option Value → Option Value → Option Value → World → Prop)
 (hN : (NE != NX && NE != NA && NE != NL && NE != NY && NA != NX && NA != NL && NA != NY && NL != NX && NL != NY && Nat.blt NE a.tmps.size) = true) (h0 : I none none none w) (hS : ∀ x y z W, I x y z W → S W)
 (wE0 : Region.wanted oE (yielded ops a.tmps) = true) (wE1 : ∀ v, Region.wanted oE (yielded ops (a.put (some NL) v).tmps) = true)
 (wA1 : ∀ v, Region.wanted oA (yielded ops (a.put (some NE) v).tmps) = true) (wA2 : ∀ u v, Region.wanted oA (yielded ops ((a.put (some NE) u).put (some NL) v).tmps) = true) (wA3 : ∀ u v, Region.wanted oA (yielded ops ((a.put (some NL) u).put (some NE) v).tmps) = true)
 (wL0 : Region.wanted oL (yielded ops a.tmps) = true) (wL1 : ∀ v, Region.wanted oL (yielded ops (a.put (some NE) v).tmps) = true) (wL2 : ∀ u v, Region.wanted oL (yielded ops ((a.put (some NE) u).put (some NA) v).tmps) = true)
 (lE : ∀ (a' : Act) (z : Option Value) (W : World) (C : Act → World → Prop), Region.wanted oE (yielded ops a'.tmps) = true → I none none z W → a'.eval (.tmp NX) = a.eval (.tmp NX) → (∀ v W', I (some v) none z W' → C (a'.put (some NE) v) W') → Ev P ops Q oE C a' W)
 (lA : ∀ (a' : Act) (x : Value) (z : Option Value) (W : World) (C : Act → World → Prop), Region.wanted oA (yielded ops a'.tmps) = true → I (some x) none z W → a'.eval (.tmp NE) = x → (∀ v W', I (some x) (some v) z W' → C (a'.put (some NA) v) W') → Ev P ops Q oA C a' W)
 (lL : ∀ (a' : Act) (x y : Option Value) (W : World) (C : Act → World → Prop), Region.wanted oL (yielded ops a'.tmps) = true → I x y none W → a'.eval (.tmp NY) = a.eval (.tmp NY) → (∀ v W', I x y (some v) W' → C (a'.put (some NL) v) W') → Ev P ops Q oL C a' W)
 (h : ∀ vE vA vL W, I (some vE) (some vA) (some vL) W → At P ops Q S r (((a.put (some NE) vE).put (some NA) vA).put (some NL) vL) W) :
 At P ops Q S (.w oE oL (.w oA oL (.e oL r) (.e oA r)) (.e oE (.e oA r))) a w := by
 simp only [Bool.and_eq_true, bne_iff_ne, ne_eq, Nat.blt_eq] at hN
 obtain ⟨⟨⟨⟨⟨⟨⟨⟨⟨n1, n2⟩, n3⟩, n4⟩, n5⟩, n6⟩, n7⟩, n8⟩, n9⟩, s1⟩ := hN
 refine ⟨lE _ _ _ _ wE0 h0 rfl (fun vE w1 i1 => ⟨hS _ _ _ _ i1, ?_, ?_⟩), ?_⟩
 ·refine lA _ _ _ _ _ (wA1 _) i1 (eval_put _ _ s1) (fun vA w2 i2 => ⟨hS _ _ _ _ i2, ?_⟩)
  exact lL _ _ _ _ _ (wL2 _ _) i2 ((eval_ne _ _ n7).trans (eval_ne _ _ n4)) (fun vL w3 i3 => ⟨hS _ _ _ _ i3, h vE vA vL w3 i3⟩)
 ·refine lL _ _ _ _ _ (wL1 _) i1 (eval_ne _ _ n4) (fun vL w2 i2 => ⟨hS _ _ _ _ i2, ?_⟩)
  refine lA _ _ _ _ _ (wA2 _ _) i2 ((eval_ne _ _ (Ne.symm n3)).trans (eval_put _ _ s1)) (fun vA w3 i3 => ⟨hS _ _ _ _ i3, ?_⟩)
  rw [put_comm _ _ _ (Ne.symm n6)]
  exact h vE vA vL w3 i3
 ·refine lL _ _ _ _ _ wL0 h0 rfl (fun vL w1 i1 => ⟨hS _ _ _ _ i1, ?_⟩)
  refine lE _ _ _ _ (wE1 _) i1 (eval_ne _ _ n8) (fun vE w2 i2 => ⟨hS _ _ _ _ i2, ?_⟩)
  refine lA _ _ _ _ _ (wA3 _ _) i2 (eval_put _ _ (by rw [size_put]; exact s1)) (fun vA w3 i3 => ⟨hS _ _ _ _ i3, ?_⟩)
  rw [put_comm _ _ _ (Ne.symm n3), put_comm _ _ _ (Ne.symm n6)]
  exact h vE vA vL w3 i3
end Go.Proofs.YtiodebjjbgcbhaaGreat.Mix
