/- The batch that the first input begins, and what is left. -/
import Derived.Test.YtiodebjjbgcbhaaRowI
import Derived.ScopeJumps
import Derived.WalkMore
namespace Go.Proofs.Ytiodebjjbgcbhaa.Inp
open Go.RowKit Go.Sort Go.Lib Go.Shelf Go.Proofs.Ytiodebjjbgcbhaa.Hand Go.Proofs.YtiodebjjbgcbhaaW.PrintWords Go.Proofs.YtiodebjjbgcbhaaW.PrintLast Go.Proofs.YtiodebjjbgcbhaaW.PrintMore Go.Proofs.Ytiodebjjbgcbhaa.RowK Go.Proofs.Ytiodebjjbgcbhaa.Fill Go.Proofs.Ytiodebjjbgcbhaa.OrdO Go.Proofs.Ytiodebjjbgcbhaa.QLef
attribute [local go_sem ↓ high] Wide.hv44 Wide.hv33 Wide.hv37
set_option linter.unusedVariables false
set_option linter.unusedSectionVars false
set_option linter.unusedSimpArgs false
variable {α : Type}
theorem wp_turn {P : Program} {c : Code} {Q Q' : Exit → Act → World → Prop} {a : Act} {w : World} (h : c.wp P Q a w) (hq : ∀ e a w, Q e a w → Q' e a w) : c.wp P Q' a w := fun b k cs => by
 obtain ⟨e, a1, w1, h1, h2⟩ := h b k cs
 exact ⟨e, a1, w1, hq _ _ _ h1, h2⟩
/-- A scope with one label, gone back to: what holds there is shown first. -/
theorem scope_two {P : Program} {Q : Exit → Act → World → Prop} {a : Act} {w : World} {c rest : Code} (l : Nat) (J : Act → World → Prop) (μ : Act → World → Nat) (hf : findLabel c l = some (Code.skip.seq rest))
 (pass : ∀ a w, J a w → rest.wp P (Exit.jump l (fun a' w' => J a' w' ∧ μ a' w' < μ a w) Q) a w)
 (first : (∀ a w, J a w → rest.wp P (Exit.jump l J Q) a w) → c.wp P (Exit.jump l J Q) a w) : (Code.scope c).wp P Q a w :=
 wp_scope_jumps l J μ hf (first fun a w h => wp_turn (pass a w h) (fun e a' w' hq => by
  cases e with
  | goto l' => exact ⟨hq.1, hq.2.1⟩
  | _ => exact hq)) (fun a w h => wp_seq (wp_skip (pass a w h)))
theorem run_app {P : Program} {ρ : Operand → Value} {o : Oper} {c : Call} {xs : Array Value} {w w1 : World} {v : Value} (ho : o.op = .call c) (hc : c.callee = .builtin .append) (hx : c.args.map ρ = xs) (h : (Builtin.append_ c.argTypes o.type xs).run P w = .ok v w1) : (execOp ρ o).run P w = .ok (.value v) w1 := by
 subst hx
 simp [execOp, ho, resolve, hc, invoke, builtin, h]
/-- How far one has come. -/
structure Os (α : Type) where
 W : List α
 L : List α
 b : Bt
 ok : Bool
def oneStep (fit : List α → Bt × Bool) (ge : α → Bool) (s : Os α) (x : α) : Os α := if ge x && (fit (s.W ++ [x])).2 then ⟨s.W ++ [x], s.L, (fit (s.W ++ [x])).1, true⟩ else ⟨s.W, s.L ++ [x], s.b, s.ok⟩
def oneS (fit : List α → Bt × Bool) (ge : α → Bool) (l : List α) (i : Nat) : Os α := ((l.take i).drop 1).foldl (oneStep fit ge) ⟨l.take 1, [], (fit (l.take 1)).1, (fit (l.take 1)).2⟩
theorem oneS_one (fit : List α → Bt × Bool) (ge : α → Bool) (l : List α) : oneS fit ge l 1 = ⟨l.take 1, [], (fit (l.take 1)).1, (fit (l.take 1)).2⟩ := by
 unfold oneS
 rw [List.drop_of_length_le (by rw [List.length_take]; omega)]
 rfl
theorem oneS_succ (fit : List α → Bt × Bool) (ge : α → Bool) (l : List α) (i : Nat) (h1 : 1 ≤ i) (h : i < l.length) : oneS fit ge l (i + 1) = oneStep fit ge (oneS fit ge l i) l[i] := by
 unfold oneS
 rw [List.take_succ_eq_append_getElem h, List.drop_append, show 1 - (l.take i).length = 0 by rw [List.length_take]; omega, List.drop_zero, List.foldl_append]
 rfl
theorem oneS_len (fit : List α → Bt × Bool) (ge : α → Bool) (l : List α) (i : Nat) (h1 : 1 ≤ i) (h : i ≤ l.length) : (oneS fit ge l i).W.length + (oneS fit ge l i).L.length = i ∧ 0 < (oneS fit ge l i).W.length := by
 obtain ⟨j, rfl⟩ : ∃ j, i = j + 1 := ⟨i - 1, by omega⟩
 clear h1
 induction j with
 | zero => rw [oneS_one]; simp; omega
 | succ j ih =>
  have := ih (by omega)
  rw [oneS_succ _ _ _ _ (by omega) (by omega)]
  unfold oneStep
  split <;> simp <;> omega
/-- What is in memory there. -/
structure OneM (I : Spec α) (l : List α) (ad : Addr) (next limit key : Int) (g2 g4 : Nat) (w0 : World) (s : Os α) (v6 v8 v0 v1 : Value) (b8 : Option Nat) (w : World) : Prop where
 b2 : w.heap[g2]? = some (.cells #[.int .i64 next, .int .i64 limit, .int .i64 key] 96 (0, 0))
 b4 : w.heap[g4]? = some (.cells #[v0, v1, .int .i64 s.b.lock, .int .i64 s.b.fee, .int .i64 s.b.rate] 39 (0, 0))
 h0 : Kd.R k38 38 w w0.heap.size (fun _ => True) v0 s.b.ins
 h1 : Kd.R k64 64 w w0.heap.size (fun _ => True) v1 s.b.outs
 h6 : OwnI I w w0.heap.size v6 s.L
 h8 : With I w0 w ad l v8 s.W b8
 ap : ∀ k, b8 = some k → some k ≠ v6.ownBlock
 hb : Below w0.heap.size w0 w
theorem OneM.below {I : Spec α} {l : List α} {ad : Addr} {next limit key : Int} {g2 g4 : Nat} {w0 : World} {s : Os α} {v6 v8 v0 v1 : Value} {b8 : Option Nat} {w w' : World} (h : OneM I l ad next limit key g2 g4 w0 s v6 v8 v0 v1 b8 w) (hb : Below w.heap.size w w') : OneM I l ad next limit key g2 g4 w0 s v6 v8 v0 v1 b8 w' :=
 ⟨blk_below h.b2 hb, blk_below h.b4 hb, Kd.R_below h.h0 hb, Kd.R_below h.h1 hb, h.h6.below hb, h.h8.below hb, h.ap, below_step h.hb hb⟩
theorem OneM.drew {I : Spec α} {l : List α} {ad : Addr} {next limit key : Int} {g2 g4 : Nat} {w0 : World} {s : Os α} {v6 v8 v0 v1 : Value} {b8 : Option Nat} {w : World} (h : OneM I l ad next limit key g2 g4 w0 s v6 v8 v0 v1 b8 w) : OneM I l ad next limit key g2 g4 w0 s v6 v8 v0 v1 b8 w.drew := h.below (below_drew1 (Below.refl _ _))
/-- Behind an append at what goes together. -/
theorem OneM.app {I : Spec α} {l : List α} {ad : Addr} {next limit key : Int} {g2 g4 : Nat} {w0 : World} {s : Os α} {v6 v8 v0 v1 : Value} {b8 : Option Nat} {w w' : World} (h : OneM I l ad next limit key g2 g4 w0 s v6 v8 v0 v1 b8 w) (hg : w.grownBy w' b8) (h8 : With I w0 w' ad l v8 s.W b8) (hbase : ∀ k, b8 = some k → w0.heap.size ≤ k) : OneM I l ad next limit key g2 g4 w0 s v6 v8 v0 v1 b8 w' :=
 ⟨blk_grown h.b2 hg (h.h8.ne_blk h.b2 (by decide)), blk_grown h.b4 hg (h.h8.ne_blk h.b4 (by decide)), Kd.R_grown2 h.h0 rfl hg (h.h8.ne_row h.h0 (by decide)), Kd.R_grown2 h.h1 rfl hg (h.h8.ne_row h.h1 (by decide)), h.h6.grown hg (fun k hk e => h.ap k e.symm hk.symm), h8, h.ap, pw_below_grown h.hb b8 h.hb.size hg hbase⟩
theorem With.base {I : Spec α} {w0 w : World} {ad : Addr} {l W : List α} {v : Value} {b : Option Nat} (h : With I w0 w ad l v W b) : ∀ k, b = some k → w0.heap.size ≤ k := by
 rcases h with ⟨_, _, rfl⟩ | ⟨ho, rfl⟩
 ·intro k hk; cases hk
 ·intro k hk; exact own_base ho.owns k hk
theorem OneM.left {I : Spec α} {l : List α} {ad : Addr} {next limit key : Int} {g2 g4 : Nat} {w0 : World} {s : Os α} {v6 v8 v0 v1 v' : Value} {b8 : Option Nat} {w w' : World} {x : α} (h : OneM I l ad next limit key g2 g4 w0 s v6 v8 v0 v1 b8 w) (hg : w.grownBy w' v6.ownBlock) (ho : OwnI I w' w0.heap.size v' (s.L ++ [x])) (hat : ∀ k, v'.ownBlock = some k → v6.ownBlock = some k ∨ w.heap.size ≤ k) : OneM I l ad next limit key g2 g4 w0 ⟨s.W, s.L ++ [x], s.b, s.ok⟩ v' v8 v0 v1 b8 w' :=
 ⟨blk_grown h.b2 hg (h.h6.ne_blk h.b2 (by decide)), blk_grown h.b4 hg (h.h6.ne_blk h.b4 (by decide)), Kd.R_grown2 h.h0 rfl hg (h.h6.ne_row h.h0 (by decide)), Kd.R_grown2 h.h1 rfl hg (h.h6.ne_row h.h1 (by decide)), ho, h.h8.grown hg (fun k hk => h.ap k hk), fun k hk e => by
  rcases hat k e.symm with h1 | h1
  ·exact h.ap k hk h1.symm
  ·have := h.h8.lt k hk; omega, pw_below_grown h.hb v6.ownBlock h.hb.size hg (fun k hk => own_base h.h6.owns k hk)⟩
/-- Behind a turn of another batch's block. -/
theorem OneM.put {I : Spec α} {l : List α} {ad : Addr} {next limit key : Int} {g2 g4 g : Nat} {w0 : World} {s : Os α} {v6 v8 v0 v1 : Value} {b8 : Option Nat} {w w' : World} {z : Array Value} (h : OneM I l ad next limit key g2 g4 w0 s v6 v8 v0 v1 b8 w) (hz : w.heap[g]? = some (.cells z 39 (0, 0))) (hne : g4 ≠ g) (hbase : w0.heap.size ≤ g) (hg : w.grownBy w' (some g)) : OneM I l ad next limit key g2 g4 w0 s v6 v8 v0 v1 b8 w' :=
 ⟨blk_grown h.b2 hg (fun e => by have := blk_ne h.b2 hz (by decide); exact this (Option.some.inj e)), blk_grown h.b4 hg (by simpa using hne), Kd.R_grown2 h.h0 rfl hg (fun k e => by cases e; exact Kd.R_ne h.h0 hz (by decide)), Kd.R_grown2 h.h1 rfl hg (fun k e => by cases e; exact Kd.R_ne h.h1 hz (by decide)), h.h6.grown hg (fun k hk e => h.h6.ne_blk hz (by decide) (e.symm.trans hk.symm)), h.h8.grown hg (fun k hk e => h.h8.ne_blk hz (by decide) (e.symm.trans hk.symm)), h.ap, pw_below_grown h.hb (some g) h.hb.size hg (fun k e => by cases e; exact hbase)⟩
/-- Behind a store of the batch's own cells. -/
theorem OneM.same {I : Spec α} {l : List α} {ad : Addr} {next limit key : Int} {g2 g4 : Nat} {w0 : World} {s : Os α} {v6 v8 v0 v1 : Value} {b8 : Option Nat} {w w' : World} (h : OneM I l ad next limit key g2 g4 w0 s v6 v8 v0 v1 b8 w) (hz : w'.heap[g4]? = some (.cells #[v0, v1, .int .i64 s.b.lock, .int .i64 s.b.fee, .int .i64 s.b.rate] 39 (0, 0))) (hg : w.grownBy w' (some g4)) (hb : w0.heap.size ≤ g4) : OneM I l ad next limit key g2 g4 w0 s v6 v8 v0 v1 b8 w' :=
 ⟨blk_grown h.b2 hg (fun e => by have := blk_ne h.b2 h.b4 (by decide); exact this (Option.some.inj e)), hz, Kd.R_grown2 h.h0 rfl hg (fun k e => by cases e; exact Kd.R_ne h.h0 h.b4 (by decide)), Kd.R_grown2 h.h1 rfl hg (fun k e => by cases e; exact Kd.R_ne h.h1 h.b4 (by decide)), h.h6.grown hg (fun k hk e => h.h6.ne_blk h.b4 (by decide) (e.symm.trans hk.symm)), h.h8.grown hg (fun k hk e => h.h8.ne_blk h.b4 (by decide) (e.symm.trans hk.symm)), h.ap, pw_below_grown h.hb (some g4) h.hb.size hg (fun k e => by cases e; exact hb)⟩
/-- The new batch is taken. -/
theorem OneM.took {I : Spec α} {l : List α} {ad : Addr} {next limit key : Int} {g2 g4 : Nat} {w0 : World} {s : Os α} {v6 v8 v0 v1 v9 n0 n1 : Value} {b8 : Option Nat} {w w' : World} {x : α} {fb : Bt} (h : OneM I l ad next limit key g2 g4 w0 s v6 v8 v0 v1 b8 w) (hz : w'.heap[g4]? = some (.cells [n0, n1, .int .i64 fb.lock, .int .i64 fb.fee, .int .i64 fb.rate].toArray 39 (0, 0))) (hg : w.grownBy w' (some g4)) (hb : w0.heap.size ≤ g4) (ho : OwnI I w w0.heap.size v9 (s.W ++ [x])) (hat : ∀ k, v9.ownBlock = some k → some k ≠ v6.ownBlock) (h0 : Kd.R k38 38 w w0.heap.size (fun _ => True) n0 fb.ins) (h1 : Kd.R k64 64 w w0.heap.size (fun _ => True) n1 fb.outs) : OneM I l ad next limit key g2 g4 w0 ⟨s.W ++ [x], s.L, fb, true⟩ v6 v9 n0 n1 v9.ownBlock w' :=
 ⟨blk_grown h.b2 hg (fun e => by have := blk_ne h.b2 h.b4 (by decide); exact this (Option.some.inj e)), hz, Kd.R_grown2 h0 rfl hg (fun k e => by cases e; exact Kd.R_ne h0 h.b4 (by decide)), Kd.R_grown2 h1 rfl hg (fun k e => by cases e; exact Kd.R_ne h1 h.b4 (by decide)), h.h6.grown hg (fun k hk e => h.h6.ne_blk h.b4 (by decide) (e.symm.trans hk.symm)), .inr ⟨ho.grown hg (fun k hk e => ho.ne_blk h.b4 (by decide) (e.symm.trans hk.symm)), rfl⟩, hat, pw_below_grown h.hb (some g4) h.hb.size hg (fun k e => by cases e; exact hb)⟩
theorem list44 {l : List Value} (h : l.length = 44) : ∃ u0 u1 u2 u3 u4 u5 u6 u7 u8 u9 u10 u11 u12 u13 u14 u15 u16 u17 u18 u19 u20 u21 u22 u23 u24 u25 u26 u27 u28 u29 u30 u31 u32 u33 u34 u35 u36 u37 u38 u39 u40 u41 u42 u43 : Value, l = [u0, u1, u2, u3, u4, u5, u6, u7, u8, u9, u10, u11, u12, u13, u14, u15, u16, u17, u18, u19, u20, u21, u22, u23, u24, u25, u26, u27, u28, u29, u30, u31, u32, u33, u34, u35, u36, u37, u38, u39, u40, u41, u42, u43] := by
 rcases l with _ | ⟨u0, l⟩
 ·simp at h
 rcases l with _ | ⟨u1, l⟩
 ·simp at h
 rcases l with _ | ⟨u2, l⟩
 ·simp at h
 rcases l with _ | ⟨u3, l⟩
 ·simp at h
 rcases l with _ | ⟨u4, l⟩
 ·simp at h
 rcases l with _ | ⟨u5, l⟩
 ·simp at h
 rcases l with _ | ⟨u6, l⟩
 ·simp at h
 rcases l with _ | ⟨u7, l⟩
 ·simp at h
 rcases l with _ | ⟨u8, l⟩
 ·simp at h
 rcases l with _ | ⟨u9, l⟩
 ·simp at h
 rcases l with _ | ⟨u10, l⟩
 ·simp at h
 rcases l with _ | ⟨u11, l⟩
 ·simp at h
 rcases l with _ | ⟨u12, l⟩
 ·simp at h
 rcases l with _ | ⟨u13, l⟩
 ·simp at h
 rcases l with _ | ⟨u14, l⟩
 ·simp at h
 rcases l with _ | ⟨u15, l⟩
 ·simp at h
 rcases l with _ | ⟨u16, l⟩
 ·simp at h
 rcases l with _ | ⟨u17, l⟩
 ·simp at h
 rcases l with _ | ⟨u18, l⟩
 ·simp at h
 rcases l with _ | ⟨u19, l⟩
 ·simp at h
 rcases l with _ | ⟨u20, l⟩
 ·simp at h
 rcases l with _ | ⟨u21, l⟩
 ·simp at h
 rcases l with _ | ⟨u22, l⟩
 ·simp at h
 rcases l with _ | ⟨u23, l⟩
 ·simp at h
 rcases l with _ | ⟨u24, l⟩
 ·simp at h
 rcases l with _ | ⟨u25, l⟩
 ·simp at h
 rcases l with _ | ⟨u26, l⟩
 ·simp at h
 rcases l with _ | ⟨u27, l⟩
 ·simp at h
 rcases l with _ | ⟨u28, l⟩
 ·simp at h
 rcases l with _ | ⟨u29, l⟩
 ·simp at h
 rcases l with _ | ⟨u30, l⟩
 ·simp at h
 rcases l with _ | ⟨u31, l⟩
 ·simp at h
 rcases l with _ | ⟨u32, l⟩
 ·simp at h
 rcases l with _ | ⟨u33, l⟩
 ·simp at h
 rcases l with _ | ⟨u34, l⟩
 ·simp at h
 rcases l with _ | ⟨u35, l⟩
 ·simp at h
 rcases l with _ | ⟨u36, l⟩
 ·simp at h
 rcases l with _ | ⟨u37, l⟩
 ·simp at h
 rcases l with _ | ⟨u38, l⟩
 ·simp at h
 rcases l with _ | ⟨u39, l⟩
 ·simp at h
 rcases l with _ | ⟨u40, l⟩
 ·simp at h
 rcases l with _ | ⟨u41, l⟩
 ·simp at h
 rcases l with _ | ⟨u42, l⟩
 ·simp at h
 rcases l with _ | ⟨u43, l⟩
 ·simp at h
 rcases l with _ | ⟨u, l⟩
 ·exact ⟨u0, u1, u2, u3, u4, u5, u6, u7, u8, u9, u10, u11, u12, u13, u14, u15, u16, u17, u18, u19, u20, u21, u22, u23, u24, u25, u26, u27, u28, u29, u30, u31, u32, u33, u34, u35, u36, u37, u38, u39, u40, u41, u42, u43, rfl⟩
 ·simp at h
def atOf (a : Act) : Nat := match a.tmps.getD 9 undef with | .int _ n => n.toNat | _ => 0
/-- The frame at the label. -/
def OneJ (I : Spec α) (fit : List α → Bt × Bool) (ge : α → Bool) (l : List α) (ad : Addr) (c : Nat) (next limit key rate : Int) (g2 g4 : Nat) (w0 : World) (a : Act) (w : World) : Prop :=
 ∃ (i : Nat) (s : Os α) (v6 v8 v0 v1 : Value) (b8 : Option Nat) (u3 u10 u11 u12 u13 u14 u15 u16 u17 u18 u19 u20 u21 u22 u23 u24 u25 u26 u27 u28 u29 u30 u31 u32 u33 u34 u35 u36 u37 u38 u39 u40 u41 u42 u43 u44 u45 u46 u47 u48 u49 u50 u51 u52 u53 u54 u55 u56 u57 u58 u59 u60 u61 u62 u63 u64 u65 u66 u67 u68 u69 u70 u71 u72 u73 u74 u75 u76 : Value), a = { tmps := List.toArray (.agg #[.int .i64 next, .int .i64 limit, .int .i64 key] :: .slice (some ad) l.length c :: .pointer (some ⟨g2, 0, none⟩) :: u3 :: .pointer (some ⟨g4, 0, none⟩) :: .bool s.ok :: v6 :: .int .i64 rate :: v8 :: .int .i64 i :: u10 :: u11 :: u12 :: u13 :: u14 :: u15 :: u16 :: u17 :: u18 :: u19 :: u20 :: u21 :: u22 :: u23 :: u24 :: u25 :: u26 :: u27 :: u28 :: u29 :: u30 :: u31 :: u32 :: u33 :: u34 :: u35 :: u36 :: u37 :: u38 :: u39 :: u40 :: u41 :: u42 :: u43 :: u44 :: u45 :: u46 :: u47 :: u48 :: u49 :: u50 :: u51 :: u52 :: u53 :: u54 :: u55 :: u56 :: u57 :: u58 :: u59 :: u60 :: u61 :: u62 :: u63 :: u64 :: u65 :: u66 :: u67 :: u68 :: u69 :: u70 :: u71 :: u72 :: u73 :: u74 :: u75 :: u76 :: []), defers := [] } ∧ s = oneS fit ge l i ∧ 1 ≤ i ∧ i ≤ l.length ∧ OneM I l ad next limit key g2 g4 w0 s v6 v8 v0 v1 b8 w
theorem reads_at (I : Spec α) {w W : World} {A : Option Addr} {l : List α} (hA : ReadsRow (fun x c => c = I.enc x) 44 w A l.length l) (hb : Below w.heap.size w W) {ad : Addr} (e : A = some ad) {j : Nat} {x : α} (hx : l[j]? = some x) : Sem.run Try.prog (Wide.heavy0 (ad.add (j * 44)) 44) W = .ok (I.enc x).toArray W := by
 obtain ⟨hj, rfl⟩ := List.getElem?_eq_some_iff.1 hx
 exact reads_load I hA hb e hj
/-- What one returns. -/
def OneR (I : Spec α) (w : World) (e : Ending) (w' : World) (s : Os α) : Prop := ∃ v0 v1 v6 : Value, e = .returned (.tuple #[.agg #[v0, v1, .int .i64 s.b.lock, .int .i64 s.b.fee, .int .i64 s.b.rate], .bool s.ok, v6]) ∧ Kd.R k38 38 w' w.heap.size (fun _ => True) v0 s.b.ins ∧ Kd.R k64 64 w' w.heap.size (fun _ => True) v1 s.b.outs ∧ OwnI I w' w.heap.size v6 s.L ∧ Below w.heap.size w w'
/-- What fits is asked. -/
def Fitted (I : Spec α) (next limit key : Int) (fits : List α → Int → Bt × Bool) : Prop := ∀ (l : List α) (A : Option Addr) (c : Nat) (rate : Int) (W : World), ReadsRow (fun x c => c = I.enc x) 44 W A l.length l → l.length < 100000 →
 Calls Try.prog 73 #[.agg #[.int .i64 next, .int .i64 limit, .int .i64 key], .slice A l.length c, .int .i64 rate] W fun e w' => Fit W e w' (fits l rate).1 (fits l rate).2
set_option maxHeartbeats 16000000 in
set_option maxRecDepth 100000 in
theorem one_calls (I : Spec α) (rt : α → Int) (hrb : ∀ x, 0 ≤ rt x ∧ rt x ≤ 1000000000) (next limit key : Int) (hR : Rated I next rt) (fits : List α → Int → Bt × Bool) (hF : Fitted I next limit key fits) (x0 : α) (l : List α) (h0 : l[0]? = some x0) (A : Option Addr) (c : Nat) (hc : l.length ≤ c) (w : World) (hA : ReadsRow (fun x c => c = I.enc x) 44 w A l.length l) (hl : l.length < 100000) :
 Calls Try.prog 42 #[.agg #[.int .i64 next, .int .i64 limit, .int .i64 key], .slice A l.length c] w fun e w' => OneR I w e w' (oneS (fun W => fits W (rt x0)) (fun x => decide (Int.tdiv (rt x0) 2 ≤ rt x)) l l.length) := by
 have hpos : 0 < l.length := (List.getElem?_eq_some_iff.1 h0).1
 obtain ⟨ad, rfl, _⟩ := hA.2.2 hpos
 have HA := Aside0.mk hA
 have HL := Aside0.mk hl
 have HR := Aside0.mk hR
 have HF := Aside0.mk hF
 have H00 := Aside0.mk h0
 have HP := Aside0.mk hpos
 have HCC := Aside0.mk hc
 obtain ⟨fit, hfit⟩ : ∃ f, (fun W => fits W (rt x0)) = f := ⟨_, rfl⟩
 obtain ⟨ge, hge⟩ : ∃ f, (fun x => decide (Int.tdiv (rt x0) 2 ≤ rt x)) = f := ⟨_, rfl⟩
 obtain ⟨rate, hrate⟩ : ∃ r, rt x0 = r := ⟨_, rfl⟩
 rw [hfit, hge]
 rw [hrate] at hfit hge
 have FT := Aside0.mk hfit
 have GE := Aside0.mk hge
 have RT := Aside0.mk hrate
 have RB := Aside0.mk (show 0 ≤ rate ∧ rate ≤ 1000000000 by rw [← hrate]; exact hrb x0)
 have HB := Aside0.mk (Below.refl w.heap.size w)
 clear hA hl hR hF h0 hpos hc hfit hge hrate hrb
 generalize hn : l.length = n
 have HN := Aside0.mk hn
 clear hn
 go_enter Try.func42, Try.ntmps42
 go_wp2_with (first | ((with_reducible refine gate_dst (N := 2) rfl ?_); refine box_event ?hg (N := 2) ?hd (cs := #[.int .i64 next, .int .i64 limit, .int .i64 key]) (t := 96) ?hr ?_; (case hd => rfl); (case hg => rfl); (case hr => first | (go_simp; done) | (go_simp; rfl)); intro g2 hg w1 hbox hb; have m_HB := Aside0.mk (below_step HB.out hb); have B2 := Aside0.mk hbox; clear HB hbox hb hg; have HB := m_HB; clear m_HB) | ((with_reducible refine gate_dst (N := 4) rfl ?_); refine box_event ?hg (N := 4) ?hd (cs := #[.slice none 0 0, .slice none 0 0, .int .i64 0, .int .i64 0, .int .i64 0]) (t := 39) ?hr ?_; (case hd => rfl); (case hg => rfl); (case hr => first | (go_simp; done) | (go_simp; rfl)); intro g4 hg w2 hbox hb; have G4 := Aside0.mk (show w.heap.size ≤ g4 by rw [hg]; exact HB.out.size); have m_B2 := Aside0.mk (blk_below B2.out hb); have m_HB := Aside0.mk (below_step HB.out hb); have B4 := Aside0.mk hbox; clear HB B2 hbox hb hg; have HB := m_HB; have B2 := m_B2; clear m_HB m_B2))
 refine scope_two 0 (OneJ I fit ge l ad c next limit key rate g2 g4 w) (fun a' _ => n - atOf a') rfl ?pass ?first
 case first =>
  intro hpass
  have CX := Aside0.mk (HR.out x0)
  rw [RT.out] at CX
  have LX := Aside0.mk (fun W (hb : Below w.heap.size w W) => by have h := reads_at I HA.out hb rfl H00.out; rwa [show ad.add (0 * 44) = ad by simp [Addr.add]] at h)
  generalize I.enc x0 = cx at CX LX
  have p0 : (0 : Int) < (n : Int) := by have := HP.out; have := HN.out; omega
  have p1 : 0 < n := by have := HP.out; have := HN.out; omega
  try go_wp2_with fail
  have m_B2 := Aside0.mk (blk_drew B2.out)
  have m_B4 := Aside0.mk (blk_drew B4.out)
  have m_HB := Aside0.mk (below_drew1 HB.out)
  clear B2 B4 HB
  have B2 := m_B2
  have B4 := m_B4
  have HB := m_HB
  clear m_B2 m_B4 m_HB
  refine start_ (n := 7) (S := (fun w' => Sem.run Try.prog (Wide.heavy0 ad 44) w' = .ok cx.toArray w' ∧ w'.cell? ⟨g2, 0, none⟩ = some (.int .i64 next))) (ds := []) #[false, false, false, false, false, false, false] (by kernel_rfl) rfl rfl ⟨LX.out _ HB.out, (blk_cell B2.out 0).trans rfl⟩ (fun hHeld => ?_)
  generalize w2.drew = w3 at B2 B4 HB hHeld ⊢
  refine pure_ (i := 0) (N := some 12) (v := ?_) (a' := ?_) #[true, false, false, false, false, false, false] rfl rfl (by kernel_rfl) (fun _ _ _ h => h) (Or.inl ⟨by rfl, ?_⟩) ?_ ?_
  rotate_left
  ·intro w'
   go_simp
   with_reducible rfl
  rotate_left
  ·simp only [Act.put, List.setIfInBounds_toArray, List.set_cons_zero, List.set_cons_succ, i64_w, i32_w]
   rfl
  refine pure_ (i := 1) (N := some 13) (v := ?_) (a' := ?_) #[true, true, false, false, false, false, false] rfl rfl (by kernel_rfl) (fun _ _ _ h => h) (Or.inl ⟨by rfl, ?_⟩) ?_ ?_
  rotate_left
  ·intro w'
   go_simp
   with_reducible rfl
  rotate_left
  ·simp only [Act.put, List.setIfInBounds_toArray, List.set_cons_zero, List.set_cons_succ, i64_w, i32_w]
   rfl
  refine take_ (i := 2) (N := some 14) (v := ?_) (a' := ?_) #[true, true, true, false, false, false, false] rfl rfl (by kernel_rfl) (fun _ _ _ h => h) (Or.inl ⟨by rfl, ?_⟩) hHeld ?_ ?_
  rotate_left
  ·rintro w' ⟨hl0, hn0⟩
   go_simp
   with_reducible rfl
  rotate_left
  ·simp only [Act.put, List.setIfInBounds_toArray, List.set_cons_zero, List.set_cons_succ, i64_w, i32_w]
   rfl
  refine pure_ (i := 3) (N := some 15) (v := ?_) (a' := ?_) #[true, true, true, true, false, false, false] rfl rfl (by kernel_rfl) (fun _ _ _ h => h) (Or.inl ⟨by rfl, ?_⟩) ?_ ?_
  rotate_left
  ·intro w'
   go_simp
   with_reducible rfl
  rotate_left
  ·simp only [Act.put, List.setIfInBounds_toArray, List.set_cons_zero, List.set_cons_succ, i64_w, i32_w]
   rfl
  refine take_ (i := 4) (N := some 16) (v := ?_) (a' := ?_) #[true, true, true, true, true, false, false] rfl rfl (by kernel_rfl) (fun _ _ _ h => h) (Or.inl ⟨by rfl, ?_⟩) hHeld ?_ ?_
  rotate_left
  ·rintro w' ⟨hl0, hn0⟩
   go_simp
   with_reducible rfl
  rotate_left
  ·simp only [Act.put, List.setIfInBounds_toArray, List.set_cons_zero, List.set_cons_succ, i64_w, i32_w]
   rfl
  refine one_ (i := 5) (N := some 17) #[true, true, true, true, true, true, false] rfl rfl (by kernel_rfl) (by decide) (fun K hK => ?_)
  refine goes_ Try.func72 (by kernel_rfl) rfl #[.agg cx.toArray, .int .i64 next] (by rfl) rfl rfl (by (try simp only [List.map_toArray, List.map_cons, List.map_nil]); first | done | rfl) ?_
  refine (CX.out _).mono ?_
  rintro e w4 ⟨rfl, hb⟩
  refine ⟨_, rfl, ?_⟩
  have m_B2 := Aside0.mk (blk_below B2.out hb)
  have m_B4 := Aside0.mk (blk_below B4.out hb)
  have m_HB := Aside0.mk (below_step HB.out hb)
  clear B2 B4 HB
  have B2 := m_B2
  have B4 := m_B4
  have HB := m_HB
  clear m_B2 m_B4 m_HB
  clear hb
  refine hK.out _ _ ⟨LX.out _ HB.out, (blk_cell B2.out 0).trans rfl⟩ (fun hHeld => ?_)
  clear hK K
  refine norm_ (a' := ?_) ?_ ?_
  rotate_left
  ·show Act.put _ (some 17) _ = _
   simp only [Act.put, List.setIfInBounds_toArray, List.set_cons_zero, List.set_cons_succ, i64_w, i32_w]
   rfl
  refine pure_ (i := 6) (N := some 7) (v := ?_) (a' := ?_) #[true, true, true, true, true, true, true] rfl rfl (by kernel_rfl) (fun _ _ _ h => h) (Or.inl ⟨by rfl, ?_⟩) ?_ ?_
  rotate_left
  ·intro w'
   go_simp
   with_reducible rfl
  rotate_left
  ·simp only [Act.put, List.setIfInBounds_toArray, List.set_cons_zero, List.set_cons_succ, i64_w, i32_w]
   rfl
  refine done_ (by kernel_rfl) ?_
  clear hHeld
  have kA0 : w4.cell? ⟨g2, 0, none⟩ = some (.int .i64 next) := (blk_cell B2.out 0).trans rfl
  have kA1 : w4.cell? ⟨g2, 1, none⟩ = some (.int .i64 limit) := (blk_cell B2.out 1).trans rfl
  have kA2 : w4.cell? ⟨g2, 2, none⟩ = some (.int .i64 key) := (blk_cell B2.out 2).trans rfl
  have pc : 1 ≤ c := by have := HP.out; have := HCC.out; omega
  have pcz : (1 : Int) ≤ (c : Int) := by omega
  have ht1 : l.take 1 = [x0] := by
   have h := H00.out
   cases l with
   | nil => simp at h
   | cons y ys => simp at h; subst h; rfl
  have HT1 := Aside0.mk ht1
  have HS1 := Aside0.mk (show (⟨[x0], [], (fits [x0] rate).1, (fits [x0] rate).2⟩ : Os α) = oneS fit ge l 1 from by rw [oneS_one, ht1, ← FT.out])
  have W8 := Aside0.mk (fun W (hb : Below w.heap.size w W) => (show ∃ A cap, Value.slice (some ad) 1 1 = .slice A ([x0] : List α).length cap ∧ ReadsRow (fun x c => c = I.enc x) 44 W A ([x0] : List α).length [x0] from (show With I w W ad l (.slice (some ad) 1 1) [x0] none from .inl ⟨rfl, ht1.symm, rfl⟩).reads HA.out hb HP.out))
  clear ht1
  go_wp2_with (first | ((with_reducible refine gate_callee (f := 73) rfl ?_); refine goesL_ (some 24) rfl rfl Try.func73 (by kernel_rfl) rfl #[.agg #[.int .i64 next, .int .i64 limit, .int .i64 key], .slice (some ad) 1 1, .int .i64 rate] rfl (by (try simp only [List.map_toArray, List.map_cons, List.map_nil]); first | done | rfl) ?_; refine (HF.out [x0] (some ad) 1 rate _ (by obtain ⟨A', c', e', h'⟩ := W8.out _ HB.out; cases e'; exact h') (by simp)).mono ?_; rintro e w5 ⟨v0, v1, rfl, h0, h1, hb⟩; refine ⟨_, rfl, ?_⟩; have H0 := Aside0.mk (Kd.R_lower h0 HB.out.size); have H1 := Aside0.mk (Kd.R_lower h1 HB.out.size); clear h0 h1 kA0 kA1 kA2; obtain ⟨A0, c0, e0⟩ := Kd.R_slice H0.out; subst e0; obtain ⟨A1, c1, e1⟩ := Kd.R_slice H1.out; subst e1; have m_B2 := Aside0.mk (blk_below B2.out hb); have m_B4 := Aside0.mk (blk_below B4.out hb); have m_HB := Aside0.mk (below_step HB.out hb); clear B2 B4 HB; have B2 := m_B2; have B4 := m_B4; have HB := m_HB; clear m_B2 m_B4 m_HB; clear hb) | ((with_reducible refine gate_store (t := 39) (p := 4) rfl ?_); refine PutW.store_event ?b1 ?b2 39 (.tmp 4) (.tmp 25) ?b3 (g := g4) (t := 39) (cells := #[.slice A0 (fits [x0] rate).1.ins.length c0, .slice A1 (fits [x0] rate).1.outs.length c1, .int .i64 (fits [x0] rate).1.lock, .int .i64 (fits [x0] rate).1.fee, .int .i64 (fits [x0] rate).1.rate]) ?a1 ?a2 B4.out ?a3 ?a4 ?a5 ?_; (case b1 => rfl); (case b2 => rfl); (case b3 => rfl); (case a1 => first | rfl | (go_simp; done)); (case a2 => first | rfl | (go_simp; done)); (case a3 => rfl); (case a4 => kernel_rfl); (case a5 => first | rfl | kernel_rfl | (simp [Value.oneCell']; done)); intro w6 hz3 hs3 hg3; have N24 := Aside0.mk (blk_ne B2.out B4.out (by decide)); have m_HB := Aside0.mk (pw_below_grown HB.out (some g4) HB.out.size hg3 (fun k e => by cases e; exact G4.out)); have m_B2 := Aside0.mk (blk_grown B2.out hg3 (by simpa using N24.out)); have m_H0 := Aside0.mk (Kd.R_grown2 H0.out rfl hg3 (fun k e => by cases e; exact Kd.R_ne H0.out B4.out (by decide))); have m_H1 := Aside0.mk (Kd.R_grown2 H1.out rfl hg3 (fun k e => by cases e; exact Kd.R_ne H1.out B4.out (by decide))); have m_B4 := Aside0.mk hz3; clear hz3 hs3 hg3 HB B2 B4 H0 H1; have HB := m_HB; have B2 := m_B2; have B4 := m_B4; have H0 := m_H0; have H1 := m_H1; clear m_HB m_B2 m_B4 m_H0 m_H1))
  go_step3
  simp only [Exit.then]
  refine ‹∀ (a : Act) (w : World), Code.wp _ _ _ a w → _› _ _ ?_
  clear FT GE RT H00 HF HR LX CX W8
  refine hpass _ _ ?_
  have e := HN.out
  subst e
  exact ⟨1, ⟨[x0], [], (fits [x0] rate).1, (fits [x0] rate).2⟩, .slice none 0 0, .slice (some ad) 1 1, _, _, none, _, _, _, _, _, _, _, _, _, _, _, _, _, _, _, _, _, _, _, _, _, _, _, _, _, _, _, _, _, _, _, _, _, _, _, _, _, _, _, _, _, _, _, _, _, _, _, _, _, _, _, _, _, _, _, _, _, _, _, _, _, _, _, _, _, _, _, _, rfl, HS1.out, Nat.le_refl _, HP.out, ⟨B2.out, B4.out, H0.out, H1.out, .inl ⟨rfl, rfl⟩, .inl ⟨rfl, HT1.out.symm, rfl⟩, (fun k hk => by cases hk), HB.out⟩⟩
 case pass =>
  have GG4 := G4
  clear B2 B4 HB H00
  rintro a' wr ⟨i, s, v6, v8, v0, v1, b8, u3, u10, u11, u12, u13, u14, u15, u16, u17, u18, u19, u20, u21, u22, u23, u24, u25, u26, u27, u28, u29, u30, u31, u32, u33, u34, u35, u36, u37, u38, u39, u40, u41, u42, u43, u44, u45, u46, u47, u48, u49, u50, u51, u52, u53, u54, u55, u56, u57, u58, u59, u60, u61, u62, u63, u64, u65, u66, u67, u68, u69, u70, u71, u72, u73, u74, u75, u76, rfl, hs, hi1, hi2, hm⟩
  have M := Aside0.mk hm
  have HS := Aside0.mk hs
  clear hm hs
  obtain ⟨A0, c0, e0⟩ := Kd.R_slice M.out.h0
  subst e0
  obtain ⟨A1, c1, e1⟩ := Kd.R_slice M.out.h1
  subst e1
  obtain ⟨A8, c8, e8, hr8⟩ := M.out.h8.reads HA.out M.out.hb HP.out
  clear hr8
  subst e8
  have e := HN.out
  subst e
  have hlb := HL.out
  have HWL := Aside0.mk (oneS_len fit ge l i hi1 hi2)
  rw [← HS.out] at HWL
  by_cases hlt : i < l.length
  ·have hltz : (i : Int) < (l.length : Int) := by omega
   have hneq : ((i : Int) == (l.length : Int)) = false := by simp; omega
   have hneq2 := eq_false (show ¬ (i : Int) = (l.length : Int) by omega)
   have ew : IntKind.i64.wrap ((i : Int) + 1) = ((i + 1 : Nat) : Int) := by rw [IntKind.wrap_i64]; omega
   obtain ⟨x, hx⟩ : ∃ x, l[i]? = some x := ⟨_, List.getElem?_eq_getElem hlt⟩
   have LX := Aside0.mk (fun W (hb : Below w.heap.size w W) => reads_at I HA.out hb rfl hx)
   have CX := Aside0.mk (HR.out x)
   have ST := Aside0.mk (show oneS fit ge l (i + 1) = oneStep fit ge s x by rw [oneS_succ fit ge l i hi1 hlt, HS.out, show l[i] = x from by rw [List.getElem?_eq_getElem hlt] at hx; exact Option.some.inj hx])
   have GX := Aside0.mk (show ge x = decide (rate.tdiv 2 ≤ rt x) by rw [← GE.out])
   have HXL := Aside0.mk (I.hk x)
   have AP := Aside0.mk (fun (W : World) (g : Nat) (h : W.heap[g]? = some (.cells (I.enc x).toArray 90 (0, 0))) => h)
   generalize rt x = rx at CX GX
   obtain ⟨cx, hcx⟩ : ∃ cx, I.enc x = cx := ⟨_, rfl⟩
   rw [hcx] at LX CX HXL
   have ECX := Aside0.mk hcx
   clear hcx hx
   have qd : IntKind.i64.wrap (rate.tdiv 2) = rate.tdiv 2 := by have := RB.out; rw [Int.tdiv_eq_ediv_of_nonneg this.1, IntKind.wrap_i64]; omega
   go_wp2_with fail
   have m_M := Aside0.mk M.out.drew
   clear M
   have M := m_M
   clear m_M
   refine start_ (n := 10) (S := (fun w' => Sem.run Try.prog (Wide.heavy0 (ad.add (i * 44)) 44) w' = .ok cx.toArray w' ∧ w'.cell? ⟨g2, 0, none⟩ = some (.int .i64 next))) (ds := []) #[false, false, false, false, false, false, false, false, false, false] (by kernel_rfl) rfl rfl ⟨LX.out _ M.out.hb, (blk_cell M.out.b2 0).trans rfl⟩ (fun hHeld => ?_)
   generalize wr.drew = w3 at M hHeld ⊢
   refine pure_ (i := 0) (N := some 34) (v := ?_) (a' := ?_) #[true, false, false, false, false, false, false, false, false, false] rfl rfl (by kernel_rfl) (fun _ _ _ h => h) (Or.inl ⟨by rfl, ?_⟩) ?_ ?_
   rotate_left
   ·intro w'
    go_simp
    with_reducible rfl
   rotate_left
   ·simp only [Act.put, List.setIfInBounds_toArray, List.set_cons_zero, List.set_cons_succ, i64_w, i32_w]
    rfl
   refine pure_ (i := 1) (N := some 35) (v := ?_) (a' := ?_) #[true, true, false, false, false, false, false, false, false, false] rfl rfl (by kernel_rfl) (fun _ _ _ h => h) (Or.inl ⟨by rfl, ?_⟩) ?_ ?_
   rotate_left
   ·intro w'
    go_simp
    with_reducible rfl
   rotate_left
   ·simp only [Act.put, List.setIfInBounds_toArray, List.set_cons_zero, List.set_cons_succ, i64_w, i32_w]
    rfl
   refine pure_ (i := 2) (N := some 36) (v := ?_) (a' := ?_) #[true, true, true, false, false, false, false, false, false, false] rfl rfl (by kernel_rfl) (fun _ _ _ h => h) (Or.inl ⟨by rfl, ?_⟩) ?_ ?_
   rotate_left
   ·intro w'
    go_simp
    with_reducible rfl
   rotate_left
   ·simp only [Act.put, List.setIfInBounds_toArray, List.set_cons_zero, List.set_cons_succ, i64_w, i32_w]
    rfl
   refine take_ (i := 3) (N := some 37) (v := ?_) (a' := ?_) #[true, true, true, true, false, false, false, false, false, false] rfl rfl (by kernel_rfl) (fun _ _ _ h => h) (Or.inl ⟨by rfl, ?_⟩) hHeld ?_ ?_
   rotate_left
   ·rintro w' ⟨hl0, hn0⟩
    go_simp
    with_reducible rfl
   rotate_left
   ·simp only [Act.put, List.setIfInBounds_toArray, List.set_cons_zero, List.set_cons_succ, i64_w, i32_w]
    rfl
   refine pure_ (i := 4) (N := some 38) (v := ?_) (a' := ?_) #[true, true, true, true, true, false, false, false, false, false] rfl rfl (by kernel_rfl) (fun _ _ _ h => h) (Or.inl ⟨by rfl, ?_⟩) ?_ ?_
   rotate_left
   ·intro w'
    go_simp
    with_reducible rfl
   rotate_left
   ·simp only [Act.put, List.setIfInBounds_toArray, List.set_cons_zero, List.set_cons_succ, i64_w, i32_w]
    rfl
   refine take_ (i := 5) (N := some 39) (v := ?_) (a' := ?_) #[true, true, true, true, true, true, false, false, false, false] rfl rfl (by kernel_rfl) (fun _ _ _ h => h) (Or.inl ⟨by rfl, ?_⟩) hHeld ?_ ?_
   rotate_left
   ·rintro w' ⟨hl0, hn0⟩
    go_simp
    with_reducible rfl
   rotate_left
   ·simp only [Act.put, List.setIfInBounds_toArray, List.set_cons_zero, List.set_cons_succ, i64_w, i32_w]
    rfl
   refine pure_ (i := 7) (N := some 41) (v := ?_) (a' := ?_) #[true, true, true, true, true, true, false, true, false, false] rfl rfl (by kernel_rfl) (fun _ _ _ h => h) (Or.inl ⟨by rfl, ?_⟩) ?_ ?_
   rotate_left
   ·intro w'
    go_simp
    with_reducible rfl
   rotate_left
   ·simp only [Act.put, List.setIfInBounds_toArray, List.set_cons_zero, List.set_cons_succ, i64_w, i32_w]
    rfl
   refine pure_ (i := 8) (N := some 42) (v := ?_) (a' := ?_) #[true, true, true, true, true, true, false, true, true, false] rfl rfl (by kernel_rfl) (fun _ _ _ h => h) (Or.inl ⟨by rfl, ?_⟩) ?_ ?_
   rotate_left
   ·intro w'
    go_simp
    with_reducible rfl
   rotate_left
   ·simp only [Act.put, List.setIfInBounds_toArray, List.set_cons_zero, List.set_cons_succ, i64_w, i32_w]
    rfl
   refine one_ (i := 6) (N := some 40) #[true, true, true, true, true, true, true, true, true, false] rfl rfl (by kernel_rfl) (by decide) (fun K hK => ?_)
   refine goes_ Try.func72 (by kernel_rfl) rfl #[.agg cx.toArray, .int .i64 next] (by rfl) rfl rfl (by (try simp only [List.map_toArray, List.map_cons, List.map_nil]); first | done | rfl) ?_
   refine (CX.out _).mono ?_
   rintro e w4 ⟨rfl, hb⟩
   refine ⟨_, rfl, ?_⟩
   have m_M := Aside0.mk (M.out.below hb)
   clear M
   have M := m_M
   clear m_M
   clear hb
   refine hK.out _ _ ⟨LX.out _ M.out.hb, (blk_cell M.out.b2 0).trans rfl⟩ (fun hHeld => ?_)
   clear hK K
   refine norm_ (a' := ?_) ?_ ?_
   rotate_left
   ·show Act.put _ (some 40) _ = _
    simp only [Act.put, List.setIfInBounds_toArray, List.set_cons_zero, List.set_cons_succ, i64_w, i32_w]
    rfl
   refine pure_ (i := 9) (N := some 43) (v := ?_) (a' := ?_) #[true, true, true, true, true, true, true, true, true, true] rfl rfl (by kernel_rfl) (fun _ _ _ h => h) (Or.inl ⟨by rfl, ?_⟩) ?_ ?_
   rotate_left
   ·intro w'
    go_simp
    with_reducible rfl
   rotate_left
   ·simp only [Act.put, List.setIfInBounds_toArray, List.set_cons_zero, List.set_cons_succ, i64_w, i32_w]
    rfl
   refine done_ (by kernel_rfl) ?_
   clear hHeld
   by_cases hge : rate.tdiv 2 ≤ rx
   ·have g1 := eq_true hge
    first | rw [decide_eq_true hge] | simp only [g1, decide_true]
    have GT := Aside0.mk (show ge x = true by rw [GX.out]; exact decide_eq_true hge)
    clear hge
    go_wp2_with fail
    obtain ⟨fb, fs, hfb⟩ : ∃ b s', fits (s.W ++ [x]) rate = (b, s') := ⟨_, _, rfl⟩
    have FB0 := Aside0.mk hfb
    have FB := Aside0.mk (show fit (s.W ++ [x]) = (fb, fs) by rw [← FT.out]; exact hfb)
    clear hfb
    have m_M := Aside0.mk M.out.drew
    clear M
    have M := m_M
    clear m_M
    refine start_ (n := 16) (S := (fun w' => Sem.run Try.prog (Wide.heavy0 (ad.add (i * 44)) 44) w' = .ok cx.toArray w' ∧ w'.cell? ⟨g2, 0, none⟩ = some (.int .i64 next) ∧ w'.cell? ⟨g2, 1, none⟩ = some (.int .i64 limit) ∧ w'.cell? ⟨g2, 2, none⟩ = some (.int .i64 key))) (ds := []) #[false, false, false, false, false, false, false, false, false, false, false, false, false, false, false, false] (by kernel_rfl) rfl rfl ⟨LX.out _ M.out.hb, (blk_cell M.out.b2 0).trans rfl, (blk_cell M.out.b2 1).trans rfl, (blk_cell M.out.b2 2).trans rfl⟩ (fun hHeld => ?_)
    generalize w4.drew = w5 at M hHeld ⊢
    refine take_ (i := 0) (N := some 45) (v := ?_) (a' := ?_) #[true, false, false, false, false, false, false, false, false, false, false, false, false, false, false, false] rfl rfl (by kernel_rfl) (fun _ _ _ h => h) (Or.inl ⟨by rfl, ?_⟩) hHeld ?_ ?_
    rotate_left
    ·rintro w' ⟨hl0, hn0, hn1, hn2⟩
     go_simp
     with_reducible rfl
    rotate_left
    ·simp only [Act.put, List.setIfInBounds_toArray, List.set_cons_zero, List.set_cons_succ, i64_w, i32_w]
     rfl
    refine pure_ (i := 1) (N := some 46) (v := ?_) (a' := ?_) #[true, true, false, false, false, false, false, false, false, false, false, false, false, false, false, false] rfl rfl (by kernel_rfl) (fun _ _ _ h => h) (Or.inl ⟨by rfl, ?_⟩) ?_ ?_
    rotate_left
    ·intro w'
     go_simp
     with_reducible rfl
    rotate_left
    ·simp only [Act.put, List.setIfInBounds_toArray, List.set_cons_zero, List.set_cons_succ, i64_w, i32_w]
     rfl
    refine pure_ (i := 2) (N := some 47) (v := ?_) (a' := ?_) #[true, true, true, false, false, false, false, false, false, false, false, false, false, false, false, false] rfl rfl (by kernel_rfl) (fun _ _ _ h => h) (Or.inl ⟨by rfl, ?_⟩) ?_ ?_
    rotate_left
    ·intro w'
     go_simp
     with_reducible rfl
    rotate_left
    ·simp only [Act.put, List.setIfInBounds_toArray, List.set_cons_zero, List.set_cons_succ, i64_w, i32_w]
     rfl
    refine pure_ (i := 3) (N := some 48) (v := ?_) (a' := ?_) #[true, true, true, true, false, false, false, false, false, false, false, false, false, false, false, false] rfl rfl (by kernel_rfl) (fun _ _ _ h => h) (Or.inl ⟨by rfl, ?_⟩) ?_ ?_
    rotate_left
    ·intro w'
     go_simp
     with_reducible rfl
    rotate_left
    ·simp only [Act.put, List.setIfInBounds_toArray, List.set_cons_zero, List.set_cons_succ, i64_w, i32_w]
     rfl
    refine pure_ (i := 4) (N := some 49) (v := ?_) (a' := ?_) #[true, true, true, true, true, false, false, false, false, false, false, false, false, false, false, false] rfl rfl (by kernel_rfl) (fun _ _ _ h => h) (Or.inl ⟨by rfl, ?_⟩) ?_ ?_
    rotate_left
    ·intro w'
     go_simp
     with_reducible rfl
    rotate_left
    ·simp only [Act.put, List.setIfInBounds_toArray, List.set_cons_zero, List.set_cons_succ, i64_w, i32_w]
     rfl
    refine take_ (i := 5) (N := some 50) (v := ?_) (a' := ?_) #[true, true, true, true, true, true, false, false, false, false, false, false, false, false, false, false] rfl rfl (by kernel_rfl) (fun _ _ _ h => h) (Or.inl ⟨by rfl, ?_⟩) hHeld ?_ ?_
    rotate_left
    ·rintro w' ⟨hl0, hn0, hn1, hn2⟩
     go_simp
     with_reducible rfl
    rotate_left
    ·simp only [Act.put, List.setIfInBounds_toArray, List.set_cons_zero, List.set_cons_succ, i64_w, i32_w]
     rfl
    refine pure_ (i := 8) (N := some 53) (v := ?_) (a' := ?_) #[true, true, true, true, true, true, false, false, true, false, false, false, false, false, false, false] rfl rfl (by kernel_rfl) (fun _ _ _ h => h) (Or.inl ⟨by rfl, ?_⟩) ?_ ?_
    rotate_left
    ·intro w'
     go_simp
     with_reducible rfl
    rotate_left
    ·simp only [Act.put, List.setIfInBounds_toArray, List.set_cons_zero, List.set_cons_succ, i64_w, i32_w]
     rfl
    refine join_ (σ := Nat × Nat × Value × Value × Value) 2 #[true, true, true, true, true, true, true, true, true, true, true, true, true, true, false, false] (fun s_ => [(51, .slice (some ⟨s_.1, 0, none⟩) 1 1), (52, s_.2.2.1), (54, .tuple #[.agg #[s_.2.2.2.1, s_.2.2.2.2, .int .i64 fb.lock, .int .i64 fb.fee, .int .i64 fb.rate], .bool fs]), (10, .pointer (some ⟨s_.2.1, 0, none⟩)), (44, .tuple #[.agg #[s_.2.2.2.1, s_.2.2.2.2, .int .i64 fb.lock, .int .i64 fb.fee, .int .i64 fb.rate], .bool fs]), (55, .agg #[s_.2.2.2.1, s_.2.2.2.2, .int .i64 fb.lock, .int .i64 fb.fee, .int .i64 fb.rate]), (56, .bool fs)]) (fun s_ w' => ((fun w' => Sem.run Try.prog (Wide.heavy0 (ad.add (i * 44)) 44) w' = .ok cx.toArray w' ∧ w'.cell? ⟨g2, 0, none⟩ = some (.int .i64 next) ∧ w'.cell? ⟨g2, 1, none⟩ = some (.int .i64 limit) ∧ w'.cell? ⟨g2, 2, none⟩ = some (.int .i64 key)) w') ∧ OneM I l ad next limit key g2 g4 w s v6 (.slice A8 s.W.length c8) (.slice A0 s.b.ins.length c0) (.slice A1 s.b.outs.length c1) b8 w' ∧ w'.heap[s_.2.1]? = some (.cells #[.slice none 0 0, .slice none 0 0, .int .i64 0, .int .i64 0, .int .i64 0] 39 (0, 0)) ∧ g4 ≠ s_.2.1 ∧ w.heap.size ≤ s_.2.1 ∧ Kd.R k38 38 w' w.heap.size (fun _ => True) s_.2.2.2.1 fb.ins ∧ Kd.R k64 64 w' w.heap.size (fun _ => True) s_.2.2.2.2 fb.outs) ?_ ?_
    rotate_left
    ·intro hCont
     refine two_ (i := 6) (j := 13) (Ni := some 51) (Nj := some 10) #[true, true, true, true, true, true, true, false, true, false, false, false, false, false, false, false] #[true, true, true, true, true, true, false, false, true, false, false, false, false, true, false, false] rfl rfl rfl rfl (by kernel_rfl) (by decide) (by decide) (fun K hK => ?_) (fun K hK => ?_)
     ·skip
      obtain ⟨g6, hg6⟩ : ∃ g, w5.heap.size = g := ⟨_, rfl⟩
      refine value_ (w1 := w5.alloc (.cells cx.toArray 90)) (v := .slice (some ⟨g6, 0, none⟩) 1 1) (by rfl) rfl ?_ ?_
      ·clear LX CX ECX
       obtain ⟨q0, q1, q2, q3, q4, q5, q6, q7, q8, q9, q10, q11, q12, q13, q14, q15, q16, q17, q18, q19, q20, q21, q22, q23, q24, q25, q26, q27, q28, q29, q30, q31, q32, q33, q34, q35, q36, q37, q38, q39, q40, q41, q42, q43, rfl⟩ := list44 HXL.out
       rw [← hg6]
       first | (go_simp; done) | (go_simp; rfl)
      have hb := below_alloc (Below.refl w5.heap.size w5) (.cells cx.toArray 90)
      have B6 := Aside0.mk (blk_new w5 (.cells cx.toArray 90))
      rw [hg6] at B6
      have m_M := Aside0.mk (M.out.below hb)
      clear M hb
      have M := m_M
      clear m_M
      generalize w5.alloc (.cells cx.toArray 90) = w6 at M  B6 ⊢
      refine hK.out _ _ ⟨LX.out _ M.out.hb, (blk_cell M.out.b2 0).trans rfl, (blk_cell M.out.b2 1).trans rfl, (blk_cell M.out.b2 2).trans rfl⟩ (fun hHeld => ?_)
      clear hK K
      refine norm_ (a' := ?_) ?_ ?_
      rotate_left
      ·show Act.put _ (some 51) _ = _
       simp only [Act.put, List.setIfInBounds_toArray, List.set_cons_zero, List.set_cons_succ, i64_w, i32_w]
       rfl
      refine two_ (i := 7) (j := 13) (Ni := some 52) (Nj := some 10) #[true, true, true, true, true, true, true, true, true, false, false, false, false, false, false, false] #[true, true, true, true, true, true, true, false, true, false, false, false, false, true, false, false] rfl rfl rfl rfl (by kernel_rfl) (by decide) (by decide) (fun K hK => ?_) (fun K hK => ?_)
      ·skip
       obtain ⟨v52, w7, hr, ho, hgr, hat, h8n⟩ := M.out.h8.app HA.out M.out.hb HP.out (by have := HWL.out; omega) x 1 (show w6.heap[_]? = _ by rw [ECX.out]; exact B6.out) 57
       refine value_ (w1 := w7) (v := v52) (by rfl) rfl (run_app rfl rfl (by simp only [List.map_toArray, List.map_cons, List.map_nil]; rfl) hr) ?_
       have HAT := Aside0.mk (show ∀ k, v52.ownBlock = some k → some k ≠ v6.ownBlock from fun k hk e => by
        rcases hat k hk with h1 | h1
        ·exact M.out.ap k h1 e
        ·have := M.out.h6.lt k e.symm; omega)
       have m_M := Aside0.mk (M.out.app hgr h8n M.out.h8.base)
       have O7 := Aside0.mk ho
       clear M hr ho hgr hat h8n B6
       have M := m_M
       clear m_M 
       refine hK.out _ _ ⟨LX.out _ M.out.hb, (blk_cell M.out.b2 0).trans rfl, (blk_cell M.out.b2 1).trans rfl, (blk_cell M.out.b2 2).trans rfl⟩ (fun hHeld => ?_)
       clear hK K
       refine norm_ (a' := ?_) ?_ ?_
       rotate_left
       ·show Act.put _ (some 52) _ = _
        simp only [Act.put, List.setIfInBounds_toArray, List.set_cons_zero, List.set_cons_succ, i64_w, i32_w]
        rfl
       refine two_ (i := 9) (j := 13) (Ni := some 54) (Nj := some 10) #[true, true, true, true, true, true, true, true, true, true, false, false, false, false, false, false] #[true, true, true, true, true, true, true, true, true, false, false, false, false, true, false, false] rfl rfl rfl rfl (by kernel_rfl) (by decide) (by decide) (fun K hK => ?_) (fun K hK => ?_)
       ·skip
        obtain ⟨A7, c7, e7, hr7⟩ := O7.out.reads
        subst e7
        refine goes_ Try.func73 (by kernel_rfl) rfl #[.agg #[.int .i64 next, .int .i64 limit, .int .i64 key], .slice A7 (s.W ++ [x]).length c7, .int .i64 rate] (by rfl) rfl rfl (by (try simp only [List.map_toArray, List.map_cons, List.map_nil]); first | done | rfl) ?_
        have hfc := HF.out (s.W ++ [x]) A7 c7 rate _ hr7 (by have := HWL.out; rw [List.length_append, List.length_singleton]; omega)
        rw [FB0.out] at hfc
        refine hfc.mono ?_
        rintro e w8 ⟨v0n, v1n, rfl, h0, h1, hb⟩
        refine ⟨_, rfl, ?_⟩
        have H0n := Aside0.mk (Kd.R_lower h0 M.out.hb.size)
        have H1n := Aside0.mk (Kd.R_lower h1 M.out.hb.size)
        clear h0 h1 hr7 O7
        have m_M := Aside0.mk (M.out.below hb)
        clear M hb
        have M := m_M
        clear m_M
        refine hK.out _ _ ⟨LX.out _ M.out.hb, (blk_cell M.out.b2 0).trans rfl, (blk_cell M.out.b2 1).trans rfl, (blk_cell M.out.b2 2).trans rfl⟩ (fun hHeld => ?_)
        clear hK K
        refine norm_ (a' := ?_) ?_ ?_
        rotate_left
        ·show Act.put _ (some 54) _ = _
         simp only [Act.put, List.setIfInBounds_toArray, List.set_cons_zero, List.set_cons_succ, i64_w, i32_w]
         rfl
        refine pure_ (i := 10) (N := some 44) (v := ?_) (a' := ?_) #[true, true, true, true, true, true, true, true, true, true, true, false, false, false, false, false] rfl rfl (by kernel_rfl) (fun _ _ _ h => h) (Or.inl ⟨by rfl, ?_⟩) ?_ ?_
        rotate_left
        ·intro w'
         go_simp
         with_reducible rfl
        rotate_left
        ·simp only [Act.put, List.setIfInBounds_toArray, List.set_cons_zero, List.set_cons_succ, i64_w, i32_w]
         rfl
        refine pure_ (i := 11) (N := some 55) (v := ?_) (a' := ?_) #[true, true, true, true, true, true, true, true, true, true, true, true, false, false, false, false] rfl rfl (by kernel_rfl) (fun _ _ _ h => h) (Or.inl ⟨by rfl, ?_⟩) ?_ ?_
        rotate_left
        ·intro w'
         go_simp
         with_reducible rfl
        rotate_left
        ·simp only [Act.put, List.setIfInBounds_toArray, List.set_cons_zero, List.set_cons_succ, i64_w, i32_w]
         rfl
        refine pure_ (i := 12) (N := some 56) (v := ?_) (a' := ?_) #[true, true, true, true, true, true, true, true, true, true, true, true, true, false, false, false] rfl rfl (by kernel_rfl) (fun _ _ _ h => h) (Or.inl ⟨by rfl, ?_⟩) ?_ ?_
        rotate_left
        ·intro w'
         go_simp
         with_reducible rfl
        rotate_left
        ·simp only [Act.put, List.setIfInBounds_toArray, List.set_cons_zero, List.set_cons_succ, i64_w, i32_w]
         rfl
        refine one_ (i := 13) (N := some 10) #[true, true, true, true, true, true, true, true, true, true, true, true, true, true, false, false] rfl rfl (by kernel_rfl) (by decide) (fun K hK => ?_)
        obtain ⟨g10, hg10⟩ : ∃ g, w8.heap.size = g := ⟨_, rfl⟩
        refine value_ (w1 := w8.alloc (.cells #[.slice none 0 0, .slice none 0 0, .int .i64 0, .int .i64 0, .int .i64 0] 39)) (v := .pointer (some ⟨g10, 0, none⟩)) (by rfl) rfl ?_ ?_
        ·rw [← hg10]
         first | (go_simp; done) | (go_simp; rfl)
        have N10 := Aside0.mk (show g4 ≠ g10 by rw [← hg10]; exact Nat.ne_of_lt (blk_lt M.out.b4))
        have G10 := Aside0.mk (show w.heap.size ≤ g10 by rw [← hg10]; exact M.out.hb.size)
        have hb := below_alloc (Below.refl w8.heap.size w8) (.cells #[.slice none 0 0, .slice none 0 0, .int .i64 0, .int .i64 0, .int .i64 0] 39)
        have B10 := Aside0.mk (blk_new w8 (.cells #[.slice none 0 0, .slice none 0 0, .int .i64 0, .int .i64 0, .int .i64 0] 39))
        rw [hg10] at B10
        have m_M := Aside0.mk (M.out.below hb)
        have m_H0n := Aside0.mk (Kd.R_below H0n.out hb)
        have m_H1n := Aside0.mk (Kd.R_below H1n.out hb)
        clear M H0n H1n hb
        have M := m_M
        have H0n := m_H0n
        have H1n := m_H1n
        clear m_M m_H0n m_H1n
        generalize w8.alloc (.cells #[.slice none 0 0, .slice none 0 0, .int .i64 0, .int .i64 0, .int .i64 0] 39) = w9 at M H0n H1n B10 ⊢
        refine hK.out _ _ ⟨LX.out _ M.out.hb, (blk_cell M.out.b2 0).trans rfl, (blk_cell M.out.b2 1).trans rfl, (blk_cell M.out.b2 2).trans rfl⟩ (fun hHeld => ?_)
        clear hK K
        refine norm_ (a' := ?_) ?_ ?_
        rotate_left
        ·show Act.put _ (some 10) _ = _
         simp only [Act.put, List.setIfInBounds_toArray, List.set_cons_zero, List.set_cons_succ, i64_w, i32_w]
         rfl
        exact norm_ (by simp only [putAll, Act.put, List.setIfInBounds_toArray, List.set_cons_zero, List.set_cons_succ] <;> rfl) (hCont (g6, g10, _, v0n, v1n) _ ⟨hHeld, M.out, B10.out, N10.out, G10.out, H0n.out, H1n.out⟩)
       ·skip
        obtain ⟨g10, hg10⟩ : ∃ g, w7.heap.size = g := ⟨_, rfl⟩
        refine value_ (w1 := w7.alloc (.cells #[.slice none 0 0, .slice none 0 0, .int .i64 0, .int .i64 0, .int .i64 0] 39)) (v := .pointer (some ⟨g10, 0, none⟩)) (by rfl) rfl ?_ ?_
        ·rw [← hg10]
         first | (go_simp; done) | (go_simp; rfl)
        have N10 := Aside0.mk (show g4 ≠ g10 by rw [← hg10]; exact Nat.ne_of_lt (blk_lt M.out.b4))
        have G10 := Aside0.mk (show w.heap.size ≤ g10 by rw [← hg10]; exact M.out.hb.size)
        have hb := below_alloc (Below.refl w7.heap.size w7) (.cells #[.slice none 0 0, .slice none 0 0, .int .i64 0, .int .i64 0, .int .i64 0] 39)
        have B10 := Aside0.mk (blk_new w7 (.cells #[.slice none 0 0, .slice none 0 0, .int .i64 0, .int .i64 0, .int .i64 0] 39))
        rw [hg10] at B10
        have m_M := Aside0.mk (M.out.below hb)
        have m_O7 := Aside0.mk (OwnI.below O7.out hb)
        clear M O7 hb
        have M := m_M
        have O7 := m_O7
        clear m_M m_O7
        generalize w7.alloc (.cells #[.slice none 0 0, .slice none 0 0, .int .i64 0, .int .i64 0, .int .i64 0] 39) = w8 at M O7 B10 ⊢
        refine hK.out _ _ ⟨LX.out _ M.out.hb, (blk_cell M.out.b2 0).trans rfl, (blk_cell M.out.b2 1).trans rfl, (blk_cell M.out.b2 2).trans rfl⟩ (fun hHeld => ?_)
        clear hK K
        refine norm_ (a' := ?_) ?_ ?_
        rotate_left
        ·show Act.put _ (some 10) _ = _
         simp only [Act.put, List.setIfInBounds_toArray, List.set_cons_zero, List.set_cons_succ, i64_w, i32_w]
         rfl
        refine one_ (i := 9) (N := some 54) #[true, true, true, true, true, true, true, true, true, true, false, false, false, true, false, false] rfl rfl (by kernel_rfl) (by decide) (fun K hK => ?_)
        obtain ⟨A7, c7, e7, hr7⟩ := O7.out.reads
        subst e7
        refine goes_ Try.func73 (by kernel_rfl) rfl #[.agg #[.int .i64 next, .int .i64 limit, .int .i64 key], .slice A7 (s.W ++ [x]).length c7, .int .i64 rate] (by rfl) rfl rfl (by (try simp only [List.map_toArray, List.map_cons, List.map_nil]); first | done | rfl) ?_
        have hfc := HF.out (s.W ++ [x]) A7 c7 rate _ hr7 (by have := HWL.out; rw [List.length_append, List.length_singleton]; omega)
        rw [FB0.out] at hfc
        refine hfc.mono ?_
        rintro e w9 ⟨v0n, v1n, rfl, h0, h1, hb⟩
        refine ⟨_, rfl, ?_⟩
        have H0n := Aside0.mk (Kd.R_lower h0 M.out.hb.size)
        have H1n := Aside0.mk (Kd.R_lower h1 M.out.hb.size)
        clear h0 h1 hr7 O7
        have m_M := Aside0.mk (M.out.below hb)
        have m_B10 := Aside0.mk (blk_below B10.out hb)
        clear M B10 hb
        have M := m_M
        have B10 := m_B10
        clear m_M m_B10
        refine hK.out _ _ ⟨LX.out _ M.out.hb, (blk_cell M.out.b2 0).trans rfl, (blk_cell M.out.b2 1).trans rfl, (blk_cell M.out.b2 2).trans rfl⟩ (fun hHeld => ?_)
        clear hK K
        refine norm_ (a' := ?_) ?_ ?_
        rotate_left
        ·show Act.put _ (some 54) _ = _
         simp only [Act.put, List.setIfInBounds_toArray, List.set_cons_zero, List.set_cons_succ, i64_w, i32_w]
         rfl
        refine pure_ (i := 10) (N := some 44) (v := ?_) (a' := ?_) #[true, true, true, true, true, true, true, true, true, true, true, false, false, true, false, false] rfl rfl (by kernel_rfl) (fun _ _ _ h => h) (Or.inl ⟨by rfl, ?_⟩) ?_ ?_
        rotate_left
        ·intro w'
         go_simp
         with_reducible rfl
        rotate_left
        ·simp only [Act.put, List.setIfInBounds_toArray, List.set_cons_zero, List.set_cons_succ, i64_w, i32_w]
         rfl
        refine pure_ (i := 11) (N := some 55) (v := ?_) (a' := ?_) #[true, true, true, true, true, true, true, true, true, true, true, true, false, true, false, false] rfl rfl (by kernel_rfl) (fun _ _ _ h => h) (Or.inl ⟨by rfl, ?_⟩) ?_ ?_
        rotate_left
        ·intro w'
         go_simp
         with_reducible rfl
        rotate_left
        ·simp only [Act.put, List.setIfInBounds_toArray, List.set_cons_zero, List.set_cons_succ, i64_w, i32_w]
         rfl
        refine pure_ (i := 12) (N := some 56) (v := ?_) (a' := ?_) #[true, true, true, true, true, true, true, true, true, true, true, true, true, true, false, false] rfl rfl (by kernel_rfl) (fun _ _ _ h => h) (Or.inl ⟨by rfl, ?_⟩) ?_ ?_
        rotate_left
        ·intro w'
         go_simp
         with_reducible rfl
        rotate_left
        ·simp only [Act.put, List.setIfInBounds_toArray, List.set_cons_zero, List.set_cons_succ, i64_w, i32_w]
         rfl
        exact norm_ (by simp only [putAll, Act.put, List.setIfInBounds_toArray, List.set_cons_zero, List.set_cons_succ] <;> rfl) (hCont (g6, g10, _, v0n, v1n) _ ⟨hHeld, M.out, B10.out, N10.out, G10.out, H0n.out, H1n.out⟩)
      ·skip
       obtain ⟨g10, hg10⟩ : ∃ g, w6.heap.size = g := ⟨_, rfl⟩
       refine value_ (w1 := w6.alloc (.cells #[.slice none 0 0, .slice none 0 0, .int .i64 0, .int .i64 0, .int .i64 0] 39)) (v := .pointer (some ⟨g10, 0, none⟩)) (by rfl) rfl ?_ ?_
       ·rw [← hg10]
        first | (go_simp; done) | (go_simp; rfl)
       have N10 := Aside0.mk (show g4 ≠ g10 by rw [← hg10]; exact Nat.ne_of_lt (blk_lt M.out.b4))
       have G10 := Aside0.mk (show w.heap.size ≤ g10 by rw [← hg10]; exact M.out.hb.size)
       have hb := below_alloc (Below.refl w6.heap.size w6) (.cells #[.slice none 0 0, .slice none 0 0, .int .i64 0, .int .i64 0, .int .i64 0] 39)
       have B10 := Aside0.mk (blk_new w6 (.cells #[.slice none 0 0, .slice none 0 0, .int .i64 0, .int .i64 0, .int .i64 0] 39))
       rw [hg10] at B10
       have m_M := Aside0.mk (M.out.below hb)
       have m_B6 := Aside0.mk (blk_below B6.out hb)
       clear M B6 hb
       have M := m_M
       have B6 := m_B6
       clear m_M m_B6
       generalize w6.alloc (.cells #[.slice none 0 0, .slice none 0 0, .int .i64 0, .int .i64 0, .int .i64 0] 39) = w7 at M B6 B10 ⊢
       refine hK.out _ _ ⟨LX.out _ M.out.hb, (blk_cell M.out.b2 0).trans rfl, (blk_cell M.out.b2 1).trans rfl, (blk_cell M.out.b2 2).trans rfl⟩ (fun hHeld => ?_)
       clear hK K
       refine norm_ (a' := ?_) ?_ ?_
       rotate_left
       ·show Act.put _ (some 10) _ = _
        simp only [Act.put, List.setIfInBounds_toArray, List.set_cons_zero, List.set_cons_succ, i64_w, i32_w]
        rfl
       refine one_ (i := 7) (N := some 52) #[true, true, true, true, true, true, true, true, true, false, false, false, false, true, false, false] rfl rfl (by kernel_rfl) (by decide) (fun K hK => ?_)
       obtain ⟨v52, w8, hr, ho, hgr, hat, h8n⟩ := M.out.h8.app HA.out M.out.hb HP.out (by have := HWL.out; omega) x 1 (show w7.heap[_]? = _ by rw [ECX.out]; exact B6.out) 57
       refine value_ (w1 := w8) (v := v52) (by rfl) rfl (run_app rfl rfl (by simp only [List.map_toArray, List.map_cons, List.map_nil]; rfl) hr) ?_
       have m_B10 := Aside0.mk (blk_grown B10.out hgr (M.out.h8.ne_blk B10.out (by decide)))
       have HAT := Aside0.mk (show ∀ k, v52.ownBlock = some k → some k ≠ v6.ownBlock from fun k hk e => by
        rcases hat k hk with h1 | h1
        ·exact M.out.ap k h1 e
        ·have := M.out.h6.lt k e.symm; omega)
       have m_M := Aside0.mk (M.out.app hgr h8n M.out.h8.base)
       have O7 := Aside0.mk ho
       clear M hr ho hgr hat h8n B10 B6
       have M := m_M
       have B10 := m_B10
       clear m_M m_B10
       refine hK.out _ _ ⟨LX.out _ M.out.hb, (blk_cell M.out.b2 0).trans rfl, (blk_cell M.out.b2 1).trans rfl, (blk_cell M.out.b2 2).trans rfl⟩ (fun hHeld => ?_)
       clear hK K
       refine norm_ (a' := ?_) ?_ ?_
       rotate_left
       ·show Act.put _ (some 52) _ = _
        simp only [Act.put, List.setIfInBounds_toArray, List.set_cons_zero, List.set_cons_succ, i64_w, i32_w]
        rfl
       refine one_ (i := 9) (N := some 54) #[true, true, true, true, true, true, true, true, true, true, false, false, false, true, false, false] rfl rfl (by kernel_rfl) (by decide) (fun K hK => ?_)
       obtain ⟨A7, c7, e7, hr7⟩ := O7.out.reads
       subst e7
       refine goes_ Try.func73 (by kernel_rfl) rfl #[.agg #[.int .i64 next, .int .i64 limit, .int .i64 key], .slice A7 (s.W ++ [x]).length c7, .int .i64 rate] (by rfl) rfl rfl (by (try simp only [List.map_toArray, List.map_cons, List.map_nil]); first | done | rfl) ?_
       have hfc := HF.out (s.W ++ [x]) A7 c7 rate _ hr7 (by have := HWL.out; rw [List.length_append, List.length_singleton]; omega)
       rw [FB0.out] at hfc
       refine hfc.mono ?_
       rintro e w9 ⟨v0n, v1n, rfl, h0, h1, hb⟩
       refine ⟨_, rfl, ?_⟩
       have H0n := Aside0.mk (Kd.R_lower h0 M.out.hb.size)
       have H1n := Aside0.mk (Kd.R_lower h1 M.out.hb.size)
       clear h0 h1 hr7 O7
       have m_M := Aside0.mk (M.out.below hb)
       have m_B10 := Aside0.mk (blk_below B10.out hb)
       clear M B10 hb
       have M := m_M
       have B10 := m_B10
       clear m_M m_B10
       refine hK.out _ _ ⟨LX.out _ M.out.hb, (blk_cell M.out.b2 0).trans rfl, (blk_cell M.out.b2 1).trans rfl, (blk_cell M.out.b2 2).trans rfl⟩ (fun hHeld => ?_)
       clear hK K
       refine norm_ (a' := ?_) ?_ ?_
       rotate_left
       ·show Act.put _ (some 54) _ = _
        simp only [Act.put, List.setIfInBounds_toArray, List.set_cons_zero, List.set_cons_succ, i64_w, i32_w]
        rfl
       refine pure_ (i := 10) (N := some 44) (v := ?_) (a' := ?_) #[true, true, true, true, true, true, true, true, true, true, true, false, false, true, false, false] rfl rfl (by kernel_rfl) (fun _ _ _ h => h) (Or.inl ⟨by rfl, ?_⟩) ?_ ?_
       rotate_left
       ·intro w'
        go_simp
        with_reducible rfl
       rotate_left
       ·simp only [Act.put, List.setIfInBounds_toArray, List.set_cons_zero, List.set_cons_succ, i64_w, i32_w]
        rfl
       refine pure_ (i := 11) (N := some 55) (v := ?_) (a' := ?_) #[true, true, true, true, true, true, true, true, true, true, true, true, false, true, false, false] rfl rfl (by kernel_rfl) (fun _ _ _ h => h) (Or.inl ⟨by rfl, ?_⟩) ?_ ?_
       rotate_left
       ·intro w'
        go_simp
        with_reducible rfl
       rotate_left
       ·simp only [Act.put, List.setIfInBounds_toArray, List.set_cons_zero, List.set_cons_succ, i64_w, i32_w]
        rfl
       refine pure_ (i := 12) (N := some 56) (v := ?_) (a' := ?_) #[true, true, true, true, true, true, true, true, true, true, true, true, true, true, false, false] rfl rfl (by kernel_rfl) (fun _ _ _ h => h) (Or.inl ⟨by rfl, ?_⟩) ?_ ?_
       rotate_left
       ·intro w'
        go_simp
        with_reducible rfl
       rotate_left
       ·simp only [Act.put, List.setIfInBounds_toArray, List.set_cons_zero, List.set_cons_succ, i64_w, i32_w]
        rfl
       exact norm_ (by simp only [putAll, Act.put, List.setIfInBounds_toArray, List.set_cons_zero, List.set_cons_succ] <;> rfl) (hCont (g6, g10, _, v0n, v1n) _ ⟨hHeld, M.out, B10.out, N10.out, G10.out, H0n.out, H1n.out⟩)
     ·skip
      obtain ⟨g10, hg10⟩ : ∃ g, w5.heap.size = g := ⟨_, rfl⟩
      refine value_ (w1 := w5.alloc (.cells #[.slice none 0 0, .slice none 0 0, .int .i64 0, .int .i64 0, .int .i64 0] 39)) (v := .pointer (some ⟨g10, 0, none⟩)) (by rfl) rfl ?_ ?_
      ·rw [← hg10]
       first | (go_simp; done) | (go_simp; rfl)
      have N10 := Aside0.mk (show g4 ≠ g10 by rw [← hg10]; exact Nat.ne_of_lt (blk_lt M.out.b4))
      have G10 := Aside0.mk (show w.heap.size ≤ g10 by rw [← hg10]; exact M.out.hb.size)
      have hb := below_alloc (Below.refl w5.heap.size w5) (.cells #[.slice none 0 0, .slice none 0 0, .int .i64 0, .int .i64 0, .int .i64 0] 39)
      have B10 := Aside0.mk (blk_new w5 (.cells #[.slice none 0 0, .slice none 0 0, .int .i64 0, .int .i64 0, .int .i64 0] 39))
      rw [hg10] at B10
      have m_M := Aside0.mk (M.out.below hb)
      clear M hb
      have M := m_M
      clear m_M
      generalize w5.alloc (.cells #[.slice none 0 0, .slice none 0 0, .int .i64 0, .int .i64 0, .int .i64 0] 39) = w6 at M  B10 ⊢
      refine hK.out _ _ ⟨LX.out _ M.out.hb, (blk_cell M.out.b2 0).trans rfl, (blk_cell M.out.b2 1).trans rfl, (blk_cell M.out.b2 2).trans rfl⟩ (fun hHeld => ?_)
      clear hK K
      refine norm_ (a' := ?_) ?_ ?_
      rotate_left
      ·show Act.put _ (some 10) _ = _
       simp only [Act.put, List.setIfInBounds_toArray, List.set_cons_zero, List.set_cons_succ, i64_w, i32_w]
       rfl
      refine one_ (i := 6) (N := some 51) #[true, true, true, true, true, true, true, false, true, false, false, false, false, true, false, false] rfl rfl (by kernel_rfl) (by decide) (fun K hK => ?_)
      obtain ⟨g6, hg6⟩ : ∃ g, w6.heap.size = g := ⟨_, rfl⟩
      refine value_ (w1 := w6.alloc (.cells cx.toArray 90)) (v := .slice (some ⟨g6, 0, none⟩) 1 1) (by rfl) rfl ?_ ?_
      ·clear LX CX ECX
       obtain ⟨q0, q1, q2, q3, q4, q5, q6, q7, q8, q9, q10, q11, q12, q13, q14, q15, q16, q17, q18, q19, q20, q21, q22, q23, q24, q25, q26, q27, q28, q29, q30, q31, q32, q33, q34, q35, q36, q37, q38, q39, q40, q41, q42, q43, rfl⟩ := list44 HXL.out
       rw [← hg6]
       first | (go_simp; done) | (go_simp; rfl)
      have hb := below_alloc (Below.refl w6.heap.size w6) (.cells cx.toArray 90)
      have B6 := Aside0.mk (blk_new w6 (.cells cx.toArray 90))
      rw [hg6] at B6
      have m_M := Aside0.mk (M.out.below hb)
      have m_B10 := Aside0.mk (blk_below B10.out hb)
      clear M B10 hb
      have M := m_M
      have B10 := m_B10
      clear m_M m_B10
      generalize w6.alloc (.cells cx.toArray 90) = w7 at M B10 B6 ⊢
      refine hK.out _ _ ⟨LX.out _ M.out.hb, (blk_cell M.out.b2 0).trans rfl, (blk_cell M.out.b2 1).trans rfl, (blk_cell M.out.b2 2).trans rfl⟩ (fun hHeld => ?_)
      clear hK K
      refine norm_ (a' := ?_) ?_ ?_
      rotate_left
      ·show Act.put _ (some 51) _ = _
       simp only [Act.put, List.setIfInBounds_toArray, List.set_cons_zero, List.set_cons_succ, i64_w, i32_w]
       rfl
      refine one_ (i := 7) (N := some 52) #[true, true, true, true, true, true, true, true, true, false, false, false, false, true, false, false] rfl rfl (by kernel_rfl) (by decide) (fun K hK => ?_)
      obtain ⟨v52, w8, hr, ho, hgr, hat, h8n⟩ := M.out.h8.app HA.out M.out.hb HP.out (by have := HWL.out; omega) x 1 (show w7.heap[_]? = _ by rw [ECX.out]; exact B6.out) 57
      refine value_ (w1 := w8) (v := v52) (by rfl) rfl (run_app rfl rfl (by simp only [List.map_toArray, List.map_cons, List.map_nil]; rfl) hr) ?_
      have m_B10 := Aside0.mk (blk_grown B10.out hgr (M.out.h8.ne_blk B10.out (by decide)))
      have HAT := Aside0.mk (show ∀ k, v52.ownBlock = some k → some k ≠ v6.ownBlock from fun k hk e => by
       rcases hat k hk with h1 | h1
       ·exact M.out.ap k h1 e
       ·have := M.out.h6.lt k e.symm; omega)
      have m_M := Aside0.mk (M.out.app hgr h8n M.out.h8.base)
      have O7 := Aside0.mk ho
      clear M hr ho hgr hat h8n B10 B6
      have M := m_M
      have B10 := m_B10
      clear m_M m_B10
      refine hK.out _ _ ⟨LX.out _ M.out.hb, (blk_cell M.out.b2 0).trans rfl, (blk_cell M.out.b2 1).trans rfl, (blk_cell M.out.b2 2).trans rfl⟩ (fun hHeld => ?_)
      clear hK K
      refine norm_ (a' := ?_) ?_ ?_
      rotate_left
      ·show Act.put _ (some 52) _ = _
       simp only [Act.put, List.setIfInBounds_toArray, List.set_cons_zero, List.set_cons_succ, i64_w, i32_w]
       rfl
      refine one_ (i := 9) (N := some 54) #[true, true, true, true, true, true, true, true, true, true, false, false, false, true, false, false] rfl rfl (by kernel_rfl) (by decide) (fun K hK => ?_)
      obtain ⟨A7, c7, e7, hr7⟩ := O7.out.reads
      subst e7
      refine goes_ Try.func73 (by kernel_rfl) rfl #[.agg #[.int .i64 next, .int .i64 limit, .int .i64 key], .slice A7 (s.W ++ [x]).length c7, .int .i64 rate] (by rfl) rfl rfl (by (try simp only [List.map_toArray, List.map_cons, List.map_nil]); first | done | rfl) ?_
      have hfc := HF.out (s.W ++ [x]) A7 c7 rate _ hr7 (by have := HWL.out; rw [List.length_append, List.length_singleton]; omega)
      rw [FB0.out] at hfc
      refine hfc.mono ?_
      rintro e w9 ⟨v0n, v1n, rfl, h0, h1, hb⟩
      refine ⟨_, rfl, ?_⟩
      have H0n := Aside0.mk (Kd.R_lower h0 M.out.hb.size)
      have H1n := Aside0.mk (Kd.R_lower h1 M.out.hb.size)
      clear h0 h1 hr7 O7
      have m_M := Aside0.mk (M.out.below hb)
      have m_B10 := Aside0.mk (blk_below B10.out hb)
      clear M B10 hb
      have M := m_M
      have B10 := m_B10
      clear m_M m_B10
      refine hK.out _ _ ⟨LX.out _ M.out.hb, (blk_cell M.out.b2 0).trans rfl, (blk_cell M.out.b2 1).trans rfl, (blk_cell M.out.b2 2).trans rfl⟩ (fun hHeld => ?_)
      clear hK K
      refine norm_ (a' := ?_) ?_ ?_
      rotate_left
      ·show Act.put _ (some 54) _ = _
       simp only [Act.put, List.setIfInBounds_toArray, List.set_cons_zero, List.set_cons_succ, i64_w, i32_w]
       rfl
      refine pure_ (i := 10) (N := some 44) (v := ?_) (a' := ?_) #[true, true, true, true, true, true, true, true, true, true, true, false, false, true, false, false] rfl rfl (by kernel_rfl) (fun _ _ _ h => h) (Or.inl ⟨by rfl, ?_⟩) ?_ ?_
      rotate_left
      ·intro w'
       go_simp
       with_reducible rfl
      rotate_left
      ·simp only [Act.put, List.setIfInBounds_toArray, List.set_cons_zero, List.set_cons_succ, i64_w, i32_w]
       rfl
      refine pure_ (i := 11) (N := some 55) (v := ?_) (a' := ?_) #[true, true, true, true, true, true, true, true, true, true, true, true, false, true, false, false] rfl rfl (by kernel_rfl) (fun _ _ _ h => h) (Or.inl ⟨by rfl, ?_⟩) ?_ ?_
      rotate_left
      ·intro w'
       go_simp
       with_reducible rfl
      rotate_left
      ·simp only [Act.put, List.setIfInBounds_toArray, List.set_cons_zero, List.set_cons_succ, i64_w, i32_w]
       rfl
      refine pure_ (i := 12) (N := some 56) (v := ?_) (a' := ?_) #[true, true, true, true, true, true, true, true, true, true, true, true, true, true, false, false] rfl rfl (by kernel_rfl) (fun _ _ _ h => h) (Or.inl ⟨by rfl, ?_⟩) ?_ ?_
      rotate_left
      ·intro w'
       go_simp
       with_reducible rfl
      rotate_left
      ·simp only [Act.put, List.setIfInBounds_toArray, List.set_cons_zero, List.set_cons_succ, i64_w, i32_w]
       rfl
      exact norm_ (by simp only [putAll, Act.put, List.setIfInBounds_toArray, List.set_cons_zero, List.set_cons_succ] <;> rfl) (hCont (g6, g10, _, v0n, v1n) _ ⟨hHeld, M.out, B10.out, N10.out, G10.out, H0n.out, H1n.out⟩)
    rintro ⟨g6, g10, v52, v0n, v1n⟩ w9 ⟨hHeld, m1_, m2_, m3_, m4_, m5_, m6_⟩
    clear M
    have M := Aside0.mk m1_
    have B10 := Aside0.mk m2_
    have N10 := Aside0.mk m3_
    have G10 := Aside0.mk m4_
    have H0n := Aside0.mk m5_
    have H1n := Aside0.mk m6_
    clear m1_ m2_ m3_ m4_ m5_ m6_
    dsimp only at B10 N10 G10 H0n H1n
    obtain ⟨A0n, c0n, e0n⟩ := Kd.R_slice H0n.out
    subst e0n
    obtain ⟨A1n, c1n, e1n⟩ := Kd.R_slice H1n.out
    subst e1n
    refine norm_ (a' := ?_) ?_ ?_
    rotate_left
    ·simp only [putAll, Act.put, List.setIfInBounds_toArray, List.set_cons_zero, List.set_cons_succ]
     rfl
    refine one_ (i := 14) (N := none) #[true, true, true, true, true, true, true, true, true, true, true, true, true, true, true, false] rfl rfl (by kernel_rfl) (by decide) (fun K hK => ?_)
    have q0 : w9.cell? ⟨g10, 0, none⟩ = some (.slice none 0 0) := (blk_cell B10.out 0).trans rfl
    have q1 : w9.cell? ⟨g10, 1, none⟩ = some (.slice none 0 0) := (blk_cell B10.out 1).trans rfl
    have q2 : w9.cell? ⟨g10, 2, none⟩ = some (.int .i64 0) := (blk_cell B10.out 2).trans rfl
    have q3 : w9.cell? ⟨g10, 3, none⟩ = some (.int .i64 0) := (blk_cell B10.out 3).trans rfl
    have q4 : w9.cell? ⟨g10, 4, none⟩ = some (.int .i64 0) := (blk_cell B10.out 4).trans rfl
    have f0 := blk_frozen B10.out 0
    have f1 := blk_frozen B10.out 1
    have f2 := blk_frozen B10.out 2
    have f3 := blk_frozen B10.out 3
    have f4 := blk_frozen B10.out 4
    refine skip_ (w1 := w9.setCells g10 0 [.slice A0n fb.ins.length c0n, .slice A1n fb.outs.length c1n, .int .i64 fb.lock, .int .i64 fb.fee, .int .i64 fb.rate]) (by rfl) rfl ?_ ?_
    ·first | (go_simp; done) | (go_simp; rfl)
    clear q0 q1 q2 q3 q4 f0 f1 f2 f3 f4
    have hgs : w9.grownBy (w9.setCells g10 0 [.slice A0n fb.ins.length c0n, .slice A1n fb.outs.length c1n, .int .i64 fb.lock, .int .i64 fb.fee, .int .i64 fb.rate]) (some g10) := grown_setCells g10 [.slice A0n fb.ins.length c0n, .slice A1n fb.outs.length c1n, .int .i64 fb.lock, .int .i64 fb.fee, .int .i64 fb.rate] 0 w9
    have hst := heap_setCells [.slice A0n fb.ins.length c0n, .slice A1n fb.outs.length c1n, .int .i64 fb.lock, .int .i64 fb.fee, .int .i64 fb.rate] 0 w9 [.slice none 0 0, .slice none 0 0, .int .i64 0, .int .i64 0, .int .i64 0] B10.out (by simp)
    rw [show over [.slice none 0 0, .slice none 0 0, .int .i64 0, .int .i64 0, .int .i64 0] 0 [.slice A0n fb.ins.length c0n, .slice A1n fb.outs.length c1n, .int .i64 fb.lock, .int .i64 fb.fee, .int .i64 fb.rate] = [.slice A0n fb.ins.length c0n, .slice A1n fb.outs.length c1n, .int .i64 fb.lock, .int .i64 fb.fee, .int .i64 fb.rate] by simp [over]] at hst
    have m_M := Aside0.mk (M.out.put B10.out N10.out G10.out hgs)
    have m_H0n := Aside0.mk (Kd.R_grown2 H0n.out rfl hgs (fun k e => by cases e; exact Kd.R_ne H0n.out B10.out (by decide)))
    have m_H1n := Aside0.mk (Kd.R_grown2 H1n.out rfl hgs (fun k e => by cases e; exact Kd.R_ne H1n.out B10.out (by decide)))
    have m_B10 := Aside0.mk hst
    clear M H0n H1n B10 hgs hst hHeld
    have M := m_M
    have H0n := m_H0n
    have H1n := m_H1n
    have B10 := m_B10
    clear m_M m_H0n m_H1n m_B10
    generalize w9.setCells g10 0 [.slice A0n fb.ins.length c0n, .slice A1n fb.outs.length c1n, .int .i64 fb.lock, .int .i64 fb.fee, .int .i64 fb.rate] = w10 at * 
    refine hK.out _ _ ⟨LX.out _ M.out.hb, (blk_cell M.out.b2 0).trans rfl, (blk_cell M.out.b2 1).trans rfl, (blk_cell M.out.b2 2).trans rfl⟩ (fun hHeld => ?_)
    clear hK K
    refine pure_ (i := 15) (N := some 11) (v := ?_) (a' := ?_) #[true, true, true, true, true, true, true, true, true, true, true, true, true, true, true, true] rfl rfl (by kernel_rfl) (fun _ _ _ h => h) (Or.inl ⟨by rfl, ?_⟩) ?_ ?_
    rotate_left
    ·intro w'
     go_simp
     with_reducible rfl
    rotate_left
    ·simp only [Act.put, List.setIfInBounds_toArray, List.set_cons_zero, List.set_cons_succ, i64_w, i32_w]
     rfl
    refine done_ (by kernel_rfl) ?_
    clear hHeld
    cases fs with
    | true =>
     go_wp2_with fail
     have m_M := Aside0.mk M.out.drew
     have m_B10 := Aside0.mk (blk_drew B10.out)
     have m_H0n := Aside0.mk (Kd.R_drew H0n.out)
     have m_H1n := Aside0.mk (Kd.R_drew H1n.out)
     clear M B10 H0n H1n
     have M := m_M
     have B10 := m_B10
     have H0n := m_H0n
     have H1n := m_H1n
     clear m_M m_B10 m_H0n m_H1n
     refine start_ (n := 11) (S := (fun w' => Sem.run Try.prog (Wide.heavy0 (ad.add (i * 44)) 44) w' = .ok cx.toArray w' ∧ w'.cell? ⟨g10, 0, none⟩ = some (.slice A0n fb.ins.length c0n) ∧ w'.cell? ⟨g10, 1, none⟩ = some (.slice A1n fb.outs.length c1n) ∧ w'.cell? ⟨g10, 2, none⟩ = some (.int .i64 fb.lock) ∧ w'.cell? ⟨g10, 3, none⟩ = some (.int .i64 fb.fee) ∧ w'.cell? ⟨g10, 4, none⟩ = some (.int .i64 fb.rate))) (ds := []) #[false, false, false, false, false, false, false, false, false, false, false] (by kernel_rfl) rfl rfl ⟨LX.out _ M.out.hb, (blk_cell B10.out 0).trans rfl, (blk_cell B10.out 1).trans rfl, (blk_cell B10.out 2).trans rfl, (blk_cell B10.out 3).trans rfl, (blk_cell B10.out 4).trans rfl⟩ (fun hHeld => ?_)
     generalize w10.drew = w11 at M B10 H0n H1n hHeld ⊢
     refine take_ (i := 0) (N := some 58) (v := ?_) (a' := ?_) #[true, false, false, false, false, false, false, false, false, false, false] rfl rfl (by kernel_rfl) (fun _ _ _ h => h) (Or.inl ⟨by rfl, ?_⟩) hHeld ?_ ?_
     rotate_left
     ·rintro w' ⟨hl0, hc0, hc1, hc2, hc3, hc4⟩
      go_simp
      with_reducible rfl
     rotate_left
     ·simp only [Act.put, List.setIfInBounds_toArray, List.set_cons_zero, List.set_cons_succ, i64_w, i32_w]
      rfl
     refine pure_ (i := 1) (N := some 59) (v := ?_) (a' := ?_) #[true, true, false, false, false, false, false, false, false, false, false] rfl rfl (by kernel_rfl) (fun _ _ _ h => h) (Or.inl ⟨by rfl, ?_⟩) ?_ ?_
     rotate_left
     ·intro w'
      go_simp
      with_reducible rfl
     rotate_left
     ·simp only [Act.put, List.setIfInBounds_toArray, List.set_cons_zero, List.set_cons_succ, i64_w, i32_w]
      rfl
     refine pure_ (i := 2) (N := some 60) (v := ?_) (a' := ?_) #[true, true, true, false, false, false, false, false, false, false, false] rfl rfl (by kernel_rfl) (fun _ _ _ h => h) (Or.inl ⟨by rfl, ?_⟩) ?_ ?_
     rotate_left
     ·intro w'
      go_simp
      with_reducible rfl
     rotate_left
     ·simp only [Act.put, List.setIfInBounds_toArray, List.set_cons_zero, List.set_cons_succ, i64_w, i32_w]
      rfl
     refine pure_ (i := 3) (N := some 61) (v := ?_) (a' := ?_) #[true, true, true, true, false, false, false, false, false, false, false] rfl rfl (by kernel_rfl) (fun _ _ _ h => h) (Or.inl ⟨by rfl, ?_⟩) ?_ ?_
     rotate_left
     ·intro w'
      go_simp
      with_reducible rfl
     rotate_left
     ·simp only [Act.put, List.setIfInBounds_toArray, List.set_cons_zero, List.set_cons_succ, i64_w, i32_w]
      rfl
     refine pure_ (i := 4) (N := some 62) (v := ?_) (a' := ?_) #[true, true, true, true, true, false, false, false, false, false, false] rfl rfl (by kernel_rfl) (fun _ _ _ h => h) (Or.inl ⟨by rfl, ?_⟩) ?_ ?_
     rotate_left
     ·intro w'
      go_simp
      with_reducible rfl
     rotate_left
     ·simp only [Act.put, List.setIfInBounds_toArray, List.set_cons_zero, List.set_cons_succ, i64_w, i32_w]
      rfl
     refine take_ (i := 5) (N := some 63) (v := ?_) (a' := ?_) #[true, true, true, true, true, true, false, false, false, false, false] rfl rfl (by kernel_rfl) (fun _ _ _ h => h) (Or.inl ⟨by rfl, ?_⟩) hHeld ?_ ?_
     rotate_left
     ·rintro w' ⟨hl0, hc0, hc1, hc2, hc3, hc4⟩
      go_simp
      with_reducible rfl
     rotate_left
     ·simp only [Act.put, List.setIfInBounds_toArray, List.set_cons_zero, List.set_cons_succ, i64_w, i32_w]
      rfl
     refine one_ (i := 6) (N := some 64) #[true, true, true, true, true, true, true, false, false, false, false] rfl rfl (by kernel_rfl) (by decide) (fun K hK => ?_)
     obtain ⟨g16, hg16⟩ : ∃ g, w11.heap.size = g := ⟨_, rfl⟩
     refine value_ (w1 := w11.alloc (.cells cx.toArray 90)) (v := .slice (some ⟨g16, 0, none⟩) 1 1) (by rfl) rfl ?_ ?_
     ·clear LX CX ECX
      obtain ⟨q0, q1, q2, q3, q4, q5, q6, q7, q8, q9, q10, q11, q12, q13, q14, q15, q16, q17, q18, q19, q20, q21, q22, q23, q24, q25, q26, q27, q28, q29, q30, q31, q32, q33, q34, q35, q36, q37, q38, q39, q40, q41, q42, q43, rfl⟩ := list44 HXL.out
      rw [← hg16]
      first | (go_simp; done) | (go_simp; rfl)
     have hb := below_alloc (Below.refl w11.heap.size w11) (.cells cx.toArray 90)
     have B6 := Aside0.mk (blk_new w11 (.cells cx.toArray 90))
     rw [hg16] at B6
     have m_M := Aside0.mk (M.out.below hb)
     have m_B10 := Aside0.mk (blk_below B10.out hb)
     have m_H0n := Aside0.mk (Kd.R_below H0n.out hb)
     have m_H1n := Aside0.mk (Kd.R_below H1n.out hb)
     clear M B10 H0n H1n hb
     have M := m_M
     have B10 := m_B10
     have H0n := m_H0n
     have H1n := m_H1n
     clear m_M m_B10 m_H0n m_H1n
     generalize w11.alloc (.cells cx.toArray 90) = w12 at M B10 H0n H1n B6 ⊢
     refine hK.out _ _ ⟨LX.out _ M.out.hb, (blk_cell B10.out 0).trans rfl, (blk_cell B10.out 1).trans rfl, (blk_cell B10.out 2).trans rfl, (blk_cell B10.out 3).trans rfl, (blk_cell B10.out 4).trans rfl⟩ (fun hHeld => ?_)
     clear hK K
     refine norm_ (a' := ?_) ?_ ?_
     rotate_left
     ·show Act.put _ (some 64) _ = _
      simp only [Act.put, List.setIfInBounds_toArray, List.set_cons_zero, List.set_cons_succ, i64_w, i32_w]
      rfl
     refine one_ (i := 7) (N := some 65) #[true, true, true, true, true, true, true, true, false, false, false] rfl rfl (by kernel_rfl) (by decide) (fun K hK => ?_)
     obtain ⟨v65, w13, hr, ho, hgr, hat, h8n⟩ := M.out.h8.app HA.out M.out.hb HP.out (by have := HWL.out; omega) x 1 (show w12.heap[_]? = _ by rw [ECX.out]; exact B6.out) 57
     refine value_ (w1 := w13) (v := v65) (by rfl) rfl (run_app rfl rfl (by simp only [List.map_toArray, List.map_cons, List.map_nil]; rfl) hr) ?_
     have m_B10 := Aside0.mk (blk_grown B10.out hgr (M.out.h8.ne_blk B10.out (by decide)))
     have HAT := Aside0.mk (show ∀ k, v65.ownBlock = some k → some k ≠ v6.ownBlock from fun k hk e => by
      rcases hat k hk with h1 | h1
      ·exact M.out.ap k h1 e
      ·have := M.out.h6.lt k e.symm; omega)
     have m_H0n := Aside0.mk (Kd.R_grown2 H0n.out rfl hgr (M.out.h8.ne_row H0n.out (by decide)))
     have m_H1n := Aside0.mk (Kd.R_grown2 H1n.out rfl hgr (M.out.h8.ne_row H1n.out (by decide)))
     clear H0n H1n
     have H0n := m_H0n
     have H1n := m_H1n
     clear m_H0n m_H1n
     have m_M := Aside0.mk (M.out.app hgr h8n M.out.h8.base)
     have O7 := Aside0.mk ho
     clear M hr ho hgr hat h8n B10 B6
     have M := m_M
     have B10 := m_B10
     clear m_M m_B10
     refine hK.out _ _ ⟨LX.out _ M.out.hb, (blk_cell B10.out 0).trans rfl, (blk_cell B10.out 1).trans rfl, (blk_cell B10.out 2).trans rfl, (blk_cell B10.out 3).trans rfl, (blk_cell B10.out 4).trans rfl⟩ (fun hHeld => ?_)
     clear hK K
     refine norm_ (a' := ?_) ?_ ?_
     rotate_left
     ·show Act.put _ (some 65) _ = _
      simp only [Act.put, List.setIfInBounds_toArray, List.set_cons_zero, List.set_cons_succ, i64_w, i32_w]
      rfl
     refine one_ (i := 8) (N := none) #[true, true, true, true, true, true, true, true, true, false, false] rfl rfl (by kernel_rfl) (by decide) (fun K hK => ?_)
     have M4 := Aside0.mk (show w.heap.size ≤ g4 from GG4.out)
     have q0 : w13.cell? ⟨g4, 0, none⟩ = some (.slice A0 s.b.ins.length c0) := (blk_cell M.out.b4 0).trans rfl
     have q1 : w13.cell? ⟨g4, 1, none⟩ = some (.slice A1 s.b.outs.length c1) := (blk_cell M.out.b4 1).trans rfl
     have q2 : w13.cell? ⟨g4, 2, none⟩ = some (.int .i64 s.b.lock) := (blk_cell M.out.b4 2).trans rfl
     have q3 : w13.cell? ⟨g4, 3, none⟩ = some (.int .i64 s.b.fee) := (blk_cell M.out.b4 3).trans rfl
     have q4 : w13.cell? ⟨g4, 4, none⟩ = some (.int .i64 s.b.rate) := (blk_cell M.out.b4 4).trans rfl
     have f0 := blk_frozen M.out.b4 0
     have f1 := blk_frozen M.out.b4 1
     have f2 := blk_frozen M.out.b4 2
     have f3 := blk_frozen M.out.b4 3
     have f4 := blk_frozen M.out.b4 4
     refine skip_ (w1 := w13.setCells g4 0 [.slice A0n fb.ins.length c0n, .slice A1n fb.outs.length c1n, .int .i64 fb.lock, .int .i64 fb.fee, .int .i64 fb.rate]) (by rfl) rfl ?_ ?_
     ·first | (go_simp; done) | (go_simp; rfl)
     clear q0 q1 q2 q3 q4 f0 f1 f2 f3 f4
     have hgs : w13.grownBy (w13.setCells g4 0 [.slice A0n fb.ins.length c0n, .slice A1n fb.outs.length c1n, .int .i64 fb.lock, .int .i64 fb.fee, .int .i64 fb.rate]) (some g4) := grown_setCells g4 [.slice A0n fb.ins.length c0n, .slice A1n fb.outs.length c1n, .int .i64 fb.lock, .int .i64 fb.fee, .int .i64 fb.rate] 0 w13
     have hst := heap_setCells [.slice A0n fb.ins.length c0n, .slice A1n fb.outs.length c1n, .int .i64 fb.lock, .int .i64 fb.fee, .int .i64 fb.rate] 0 w13 [.slice A0 s.b.ins.length c0, .slice A1 s.b.outs.length c1, .int .i64 s.b.lock, .int .i64 s.b.fee, .int .i64 s.b.rate] M.out.b4 (by simp)
     rw [show over [.slice A0 s.b.ins.length c0, .slice A1 s.b.outs.length c1, .int .i64 s.b.lock, .int .i64 s.b.fee, .int .i64 s.b.rate] 0 [.slice A0n fb.ins.length c0n, .slice A1n fb.outs.length c1n, .int .i64 fb.lock, .int .i64 fb.fee, .int .i64 fb.rate] = [.slice A0n fb.ins.length c0n, .slice A1n fb.outs.length c1n, .int .i64 fb.lock, .int .i64 fb.fee, .int .i64 fb.rate] by simp [over]] at hst
     have m_B10 := Aside0.mk (blk_grown B10.out hgs (by simpa using Ne.symm N10.out))
     have m_M := Aside0.mk (M.out.took hst hgs M4.out O7.out HAT.out H0n.out H1n.out)
     have MHB := Aside0.mk m_M.out.hb
     clear M H0n H1n B10 hgs hst hHeld O7 HAT
     have M := m_M
     have B10 := m_B10
     clear m_M m_B10
     generalize w13.setCells g4 0 [.slice A0n fb.ins.length c0n, .slice A1n fb.outs.length c1n, .int .i64 fb.lock, .int .i64 fb.fee, .int .i64 fb.rate] = w14 at * 
     refine hK.out _ _ ⟨LX.out _ MHB.out, (blk_cell B10.out 0).trans rfl, (blk_cell B10.out 1).trans rfl, (blk_cell B10.out 2).trans rfl, (blk_cell B10.out 3).trans rfl, (blk_cell B10.out 4).trans rfl⟩ (fun hHeld => ?_)
     clear hK K
     refine pure_ (i := 9) (N := some 5) (v := ?_) (a' := ?_) #[true, true, true, true, true, true, true, true, true, true, false] rfl rfl (by kernel_rfl) (fun _ _ _ h => h) (Or.inl ⟨by rfl, ?_⟩) ?_ ?_
     rotate_left
     ·intro w'
      go_simp
      with_reducible rfl
     rotate_left
     ·simp only [Act.put, List.setIfInBounds_toArray, List.set_cons_zero, List.set_cons_succ, i64_w, i32_w]
      rfl
     refine pure_ (i := 10) (N := some 8) (v := ?_) (a' := ?_) #[true, true, true, true, true, true, true, true, true, true, true] rfl rfl (by kernel_rfl) (fun _ _ _ h => h) (Or.inl ⟨by rfl, ?_⟩) ?_ ?_
     rotate_left
     ·intro w'
      go_simp
      with_reducible rfl
     rotate_left
     ·simp only [Act.put, List.setIfInBounds_toArray, List.set_cons_zero, List.set_cons_succ, i64_w, i32_w]
      rfl
     refine done_ (by kernel_rfl) ?_
     clear hHeld
     go_wp2
     go_step3
     simp only [Exit.then, Exit.jump]
     exact ⟨rfl, ⟨i + 1, ⟨s.W ++ [x], s.L, fb, true⟩, v6, v65, _, _, v65.ownBlock, _, _, _, _, _, _, _, _, _, _, _, _, _, _, _, _, _, _, _, _, _, _, _, _, _, _, _, _, _, _, _, _, _, _, _, _, _, _, _, _, _, _, _, _, _, _, _, _, _, _, _, _, _, _, _, _, _, _, _, _, _, _, _, _, _, _, _, _, rfl, by rw [ST.out]; unfold oneStep; rw [GT.out, FB.out]; rfl, by omega, by omega, M.out⟩, by simp only [atOf]; show l.length - (i + 1) < l.length - i; omega⟩
    | false =>
     have hl12 : Sem.run Try.prog (Wide.heavy0 (ad.add (i * 44)) 44) w10 = .ok cx.toArray w10 := LX.out _ M.out.hb
     go_wp2_with (first | ((with_reducible refine gate_dst (N := 73) rfl ?_); refine Kd.event_run (v := .slice (some ⟨w10.heap.size, 0, none⟩) 1 1) (w1 := w10.alloc (.cells cx.toArray 90)) ?hg ?hr ?_; (case hg => rfl); (case hr => clear LX CX ECX hl12; obtain ⟨q0, q1, q2, q3, q4, q5, q6, q7, q8, q9, q10, q11, q12, q13, q14, q15, q16, q17, q18, q19, q20, q21, q22, q23, q24, q25, q26, q27, q28, q29, q30, q31, q32, q33, q34, q35, q36, q37, q38, q39, q40, q41, q42, q43, rfl⟩ := list44 HXL.out; first | (go_simp; done) | (go_simp; rfl))) | ((with_reducible refine gate_dst (N := 74) rfl ?_); obtain ⟨vL, wL, hr, ho, hgr, hat, _⟩ := app_own (M.out.below (below_alloc (Below.refl _ _) (.cells cx.toArray 90))).h6 (M.out.below (below_alloc (Below.refl _ _) (.cells cx.toArray 90))).hb.size (by have := HWL.out; omega) x 1 (show (w10.alloc (.cells cx.toArray 90)).heap[w10.heap.size]? = _ by rw [ECX.out]; exact blk_new _ _) 57; refine Kd.event_run (v := vL) (w1 := wL) ?hg2 ?hr2 ?_; (case hg2 => rfl); (case hr2 => exact run_app rfl rfl (by simp only [List.map_toArray, List.map_cons, List.map_nil]; rfl) hr); have m_M := Aside0.mk ((M.out.below (below_alloc (Below.refl _ _) (.cells cx.toArray 90))).left hgr ho hat); clear M hr ho hgr hat hl12; have M := m_M; clear m_M))
     go_step3
     try simp only [Exit.then, Exit.jump]
     exact ⟨rfl, ⟨i + 1, ⟨s.W, s.L ++ [x], s.b, s.ok⟩, vL, _, _, _, b8, _, _, _, _, _, _, _, _, _, _, _, _, _, _, _, _, _, _, _, _, _, _, _, _, _, _, _, _, _, _, _, _, _, _, _, _, _, _, _, _, _, _, _, _, _, _, _, _, _, _, _, _, _, _, _, _, _, _, _, _, _, _, _, _, _, _, _, _, rfl, by rw [ST.out]; unfold oneStep; rw [GT.out, FB.out]; rfl, by omega, by omega, M.out⟩, by simp only [atOf]; show l.length - (i + 1) < l.length - i; omega⟩
   ·have g1 := eq_false hge
    first | rw [decide_eq_false hge] | simp only [g1, decide_false]
    have GT := Aside0.mk (show ge x = false by rw [GX.out]; exact decide_eq_false hge)
    clear hge
    have hl12 : Sem.run Try.prog (Wide.heavy0 (ad.add (i * 44)) 44) w4 = .ok cx.toArray w4 := LX.out _ M.out.hb
    go_wp2_with (first | ((with_reducible refine gate_dst (N := 73) rfl ?_); refine Kd.event_run (v := .slice (some ⟨w4.heap.size, 0, none⟩) 1 1) (w1 := w4.alloc (.cells cx.toArray 90)) ?hg ?hr ?_; (case hg => rfl); (case hr => clear LX CX ECX hl12; obtain ⟨q0, q1, q2, q3, q4, q5, q6, q7, q8, q9, q10, q11, q12, q13, q14, q15, q16, q17, q18, q19, q20, q21, q22, q23, q24, q25, q26, q27, q28, q29, q30, q31, q32, q33, q34, q35, q36, q37, q38, q39, q40, q41, q42, q43, rfl⟩ := list44 HXL.out; first | (go_simp; done) | (go_simp; rfl))) | ((with_reducible refine gate_dst (N := 74) rfl ?_); obtain ⟨vL, wL, hr, ho, hgr, hat, _⟩ := app_own (M.out.below (below_alloc (Below.refl _ _) (.cells cx.toArray 90))).h6 (M.out.below (below_alloc (Below.refl _ _) (.cells cx.toArray 90))).hb.size (by have := HWL.out; omega) x 1 (show (w4.alloc (.cells cx.toArray 90)).heap[w4.heap.size]? = _ by rw [ECX.out]; exact blk_new _ _) 57; refine Kd.event_run (v := vL) (w1 := wL) ?hg2 ?hr2 ?_; (case hg2 => rfl); (case hr2 => exact run_app rfl rfl (by simp only [List.map_toArray, List.map_cons, List.map_nil]; rfl) hr); have m_M := Aside0.mk ((M.out.below (below_alloc (Below.refl _ _) (.cells cx.toArray 90))).left hgr ho hat); clear M hr ho hgr hat hl12; have M := m_M; clear m_M))
    go_step3
    try simp only [Exit.then, Exit.jump]
    exact ⟨rfl, ⟨i + 1, ⟨s.W, s.L ++ [x], s.b, s.ok⟩, vL, _, _, _, b8, _, _, _, _, _, _, _, _, _, _, _, _, _, _, _, _, _, _, _, _, _, _, _, _, _, _, _, _, _, _, _, _, _, _, _, _, _, _, _, _, _, _, _, _, _, _, _, _, _, _, _, _, _, _, _, _, _, _, _, _, _, _, _, _, _, _, _, _, rfl, by rw [ST.out]; unfold oneStep; rw [GT.out]; rfl, by omega, by omega, M.out⟩, by simp only [atOf]; show l.length - (i + 1) < l.length - i; omega⟩
  ·obtain rfl : i = l.length := by omega
   have heq : ((l.length : Int) == (l.length : Int)) = true := by simp
   have c0_ : wr.cell? ⟨g4, 0, none⟩ = some (.slice A0 s.b.ins.length c0) := (blk_cell M.out.b4 0).trans rfl
   have c1_ : wr.cell? ⟨g4, 1, none⟩ = some (.slice A1 s.b.outs.length c1) := (blk_cell M.out.b4 1).trans rfl
   have c2_ : wr.cell? ⟨g4, 2, none⟩ = some (.int .i64 s.b.lock) := (blk_cell M.out.b4 2).trans rfl
   have c3_ : wr.cell? ⟨g4, 3, none⟩ = some (.int .i64 s.b.fee) := (blk_cell M.out.b4 3).trans rfl
   have c4_ : wr.cell? ⟨g4, 4, none⟩ = some (.int .i64 s.b.rate) := (blk_cell M.out.b4 4).trans rfl
   go_wp2_with (first | ((with_reducible refine gate_store (t := 39) (p := 4) rfl ?_); refine PutW.store_event ?b1 ?b2 39 (.tmp 4) (.tmp 31) ?b3 (g := g4) (t := 39) (cells := #[.slice A0 s.b.ins.length c0, .slice A1 s.b.outs.length c1, .int .i64 s.b.lock, .int .i64 s.b.fee, .int .i64 s.b.rate]) ?a1 ?a2 M.out.b4 ?a3 ?a4 ?a5 ?_; (case b1 => rfl); (case b2 => rfl); (case b3 => rfl); (case a1 => first | rfl | (go_simp; done)); (case a2 => first | rfl | (go_simp; done)); (case a3 => rfl); (case a4 => kernel_rfl); (case a5 => first | rfl | kernel_rfl | (simp [Value.oneCell']; done)); intro w6 hz3 hs3 hg3; have m_M := Aside0.mk (M.out.same hz3 hg3 GG4.out); clear hz3 hs3 hg3 M c0_ c1_ c2_ c3_ c4_; have M := m_M; clear m_M))
   simp only [Exit.then, Exit.jump]
   refine bodyPost_ret (results_ctt rfl _ _ g4 39 #[.slice A0 s.b.ins.length c0, .slice A1 s.b.outs.length c1, .int .i64 s.b.lock, .int .i64 s.b.fee, .int .i64 s.b.rate] (0, 0) _ rfl M.out.b4 Try.underlying39 rfl (by kernel_rfl)) rfl ?_
   rw [← HS.out]
   exact ⟨_, _, _, rfl, M.out.h0, M.out.h1, M.out.h6, M.out.hb⟩
end Go.Proofs.Ytiodebjjbgcbhaa.Inp
