import Derived.Test.YtiodebjjbgcbhaaGreatRowI
namespace Go.Proofs.YtiodebjjbgcbhaaGreat.Inp
open Go.RowKit Go.Sort Go.Lib Go.Shelf Go.Proofs YtiodebjjbgcbhaaGreatW.PrintWords YtiodebjjbgcbhaaGreatW.PrintLast YtiodebjjbgcbhaaGreatW.PrintMore YtiodebjjbgcbhaaGreat Hand RowK Fill OrdO QLef
attribute [local go_sem ↓ high] Wide.hv44 Wide.hv33 Wide.hv37
set_option linter.unusedVariables false
set_option linter.unusedSectionVars false
set_option linter.unusedSimpArgs false
variable {α : Type}
theorem wp_turn {P : Program} {c : Code} {Q Q' : Exit → Act → World → Prop} {a : Act} {w : World} (h : c.wp P Q a w) (hq : ∀ e a w, Q e a w → Q' e a w) : c.wp P Q' a w := fun b k cs => by
 obtain ⟨e, a1, w1, h1, h2⟩ := h b k cs
 exact ⟨e, a1, w1, hq _ _ _ h1, h2⟩
theorem scope_two {P : Program} {Q : Exit → Act → World → Prop} {a : Act} {w : World} {c rest : Code} (l : Nat) (J : Act → World → Prop) (μ : Act → World → Nat) (hf : findLabel c l = some (Code.skip.seq rest))
 (pass : ∀ a w, J a w → rest.wp P (Exit.jump l (fun a' w' => J a' w' ∧ μ a' w' < μ a w) Q) a w)
 (first : (∀ a w, J a w → rest.wp P (Exit.jump l J Q) a w) → c.wp P (Exit.jump l J Q) a w) : (Code.scope c).wp P Q a w :=
 wp_scope_jumps l J μ hf (first fun a w h => wp_turn (pass a w h) (fun e a' w' hq => by
  cases e with
  | goto l' => exact ⟨hq.1, hq.2.1⟩
  | _ => exact hq)) (fun a w h => wp_seq (wp_skip (pass a w h)))
theorem run_app {P : Program} {ρ : Operand → Value} {o : Oper} {c : Call} {xs : Array Value} {w w1 : World} {v : Value} (ho : o.op = .call c) (hc : c.callee = .builtin .append) (hx : c.args.map ρ = xs) (h : (Builtin.append_ c.argTypes o.type xs).run P w = .ok v w1) : (execOp ρ o).run P w = .ok (.value v) w1 := by
 subst hx
 simp [execOp, ho, resolve, hc, invoke, builtin, h]
structure Os (α : Type) where
 W : List α
 L : List α
 b : Bt
 ok : Bool
def oneStep (fit : List α → Bt × Bool) (ge : α → Bool) (s : Os α) (x : α) : Os α := if ge x && (fit (s.W ++ [x])).2 then ⟨s.W ++ [x], s.L, (fit (s.W ++ [x])).1, true⟩ else ⟨s.W, s.L ++ [x], s.b, s.ok⟩
def oneS (fit : List α → Bt × Bool) (ge : α → Bool) (l : List α) (i : Nat) : Os α := ((l.take i).drop 1).foldl (oneStep fit ge) ⟨l.take 1, [], (fit (l.take 1)).1, (fit (l.take 1)).2⟩
theorem oneS_one (fit : List α → Bt × Bool) (ge : α → Bool) (l : List α) : oneS fit ge l 1 = ⟨l.take 1, [], (fit (l.take 1)).1, (fit (l.take 1)).2⟩ := by
 unfold oneS
 rw [List.drop_of_length_le (by rw [List.length_take]; omega)]
 rfl
theorem oneS_succ (fit : List α → Bt × Bool) (ge : α → Bool) (l : List α) (i : Nat) (h1 : 1 ≤ i) (h : i < l.length) : oneS fit ge l (i + 1) = oneStep fit ge (oneS fit ge l i) l[i] := by
 unfold oneS
 rw [List.take_succ_eq_append_getElem h, List.drop_append, show 1 - (l.take i).length = 0 by rw [List.length_take]; omega, List.drop_zero, List.foldl_append]
 rfl
theorem oneS_len (fit : List α → Bt × Bool) (ge : α → Bool) (l : List α) (i : Nat) (h1 : 1 ≤ i) (h : i ≤ l.length) : (oneS fit ge l i).W.length + (oneS fit ge l i).L.length = i ∧ 0 < (oneS fit ge l i).W.length := by
 obtain ⟨j, rfl⟩ : ∃ j, i = j + 1 := ⟨i - 1, by omega⟩
 clear h1
 induction j with
 | zero => rw [oneS_one]; simp; omega
 | succ j ih =>
  have := ih (by omega)
  rw [oneS_succ _ _ _ _ (by omega) (by omega)]
  unfold oneStep
  split <;> simp <;> omega
structure OneM (I : Spec α) (l : List α) (ad : Addr) (next limit key : Int) (g2 g4 : Nat) (w0 : World) (s : Os α) (v6 v8 v0 v1 : Value) (b8 : Option Nat) (w : World) : Prop where
 b2 : w.heap[g2]? = some (.cells #[.int .i64 next, .int .i64 limit, .int .i64 key] 112 (0, 0))
 b4 : w.heap[g4]? = some (.cells #[v0, v1, .int .i64 s.b.lock, .int .i64 s.b.fee, .int .i64 s.b.rate] 50 (0, 0))
 h0 : Kd.R k79 79 w w0.heap.size (fun _ => True) v0 s.b.ins
 h1 : Kd.R k90 90 w w0.heap.size (fun _ => True) v1 s.b.outs
 h6 : OwnI I w w0.heap.size v6 s.L
 h8 : With I w0 w ad l v8 s.W b8
 ap : ∀ k, b8 = some k → some k ≠ v6.ownBlock
 hb : Below w0.heap.size w0 w
theorem OneM.below {I : Spec α} {l : List α} {ad : Addr} {next limit key : Int} {g2 g4 : Nat} {w0 : World} {s : Os α} {v6 v8 v0 v1 : Value} {b8 : Option Nat} {w w' : World} (h : OneM I l ad next limit key g2 g4 w0 s v6 v8 v0 v1 b8 w) (hb : Below w.heap.size w w') : OneM I l ad next limit key g2 g4 w0 s v6 v8 v0 v1 b8 w' :=
 ⟨blk_below h.b2 hb, blk_below h.b4 hb, Kd.R_below h.h0 hb, Kd.R_below h.h1 hb, h.h6.below hb, h.h8.below hb, h.ap, below_step h.hb hb⟩
theorem OneM.drew {I : Spec α} {l : List α} {ad : Addr} {next limit key : Int} {g2 g4 : Nat} {w0 : World} {s : Os α} {v6 v8 v0 v1 : Value} {b8 : Option Nat} {w : World} (h : OneM I l ad next limit key g2 g4 w0 s v6 v8 v0 v1 b8 w) : OneM I l ad next limit key g2 g4 w0 s v6 v8 v0 v1 b8 w.drew := h.below (below_drew1 (Below.refl _ _))
theorem OneM.app {I : Spec α} {l : List α} {ad : Addr} {next limit key : Int} {g2 g4 : Nat} {w0 : World} {s : Os α} {v6 v8 v0 v1 : Value} {b8 : Option Nat} {w w' : World} (h : OneM I l ad next limit key g2 g4 w0 s v6 v8 v0 v1 b8 w) (hg : w.grownBy w' b8) (h8 : With I w0 w' ad l v8 s.W b8) (hbase : ∀ k, b8 = some k → w0.heap.size ≤ k) : OneM I l ad next limit key g2 g4 w0 s v6 v8 v0 v1 b8 w' :=
 ⟨blk_grown h.b2 hg (h.h8.ne_blk h.b2 (by decide)), blk_grown h.b4 hg (h.h8.ne_blk h.b4 (by decide)), Kd.R_grown2 h.h0 rfl hg (h.h8.ne_row h.h0 (by decide)), Kd.R_grown2 h.h1 rfl hg (h.h8.ne_row h.h1 (by decide)), h.h6.grown hg (fun k hk e => h.ap k e.symm hk.symm), h8, h.ap, pw_below_grown h.hb b8 h.hb.size hg hbase⟩
theorem With.base {I : Spec α} {w0 w : World} {ad : Addr} {l W : List α} {v : Value} {b : Option Nat} (h : With I w0 w ad l v W b) : ∀ k, b = some k → w0.heap.size ≤ k := by
 rcases h with ⟨_, _, rfl⟩ | ⟨ho, rfl⟩
 ·intro k hk; cases hk
 ·intro k hk; exact own_base ho.owns k hk
theorem OneM.left {I : Spec α} {l : List α} {ad : Addr} {next limit key : Int} {g2 g4 : Nat} {w0 : World} {s : Os α} {v6 v8 v0 v1 v' : Value} {b8 : Option Nat} {w w' : World} {x : α} (h : OneM I l ad next limit key g2 g4 w0 s v6 v8 v0 v1 b8 w) (hg : w.grownBy w' v6.ownBlock) (ho : OwnI I w' w0.heap.size v' (s.L ++ [x])) (hat : ∀ k, v'.ownBlock = some k → v6.ownBlock = some k ∨ w.heap.size ≤ k) : OneM I l ad next limit key g2 g4 w0 ⟨s.W, s.L ++ [x], s.b, s.ok⟩ v' v8 v0 v1 b8 w' :=
 ⟨blk_grown h.b2 hg (h.h6.ne_blk h.b2 (by decide)), blk_grown h.b4 hg (h.h6.ne_blk h.b4 (by decide)), Kd.R_grown2 h.h0 rfl hg (h.h6.ne_row h.h0 (by decide)), Kd.R_grown2 h.h1 rfl hg (h.h6.ne_row h.h1 (by decide)), ho, h.h8.grown hg (fun k hk => h.ap k hk), fun k hk e => by
  rcases hat k e.symm with h1 | h1
  ·exact h.ap k hk h1.symm
  ·have := h.h8.lt k hk; omega, pw_below_grown h.hb v6.ownBlock h.hb.size hg (fun k hk => own_base h.h6.owns k hk)⟩
theorem OneM.put {I : Spec α} {l : List α} {ad : Addr} {next limit key : Int} {g2 g4 g : Nat} {w0 : World} {s : Os α} {v6 v8 v0 v1 : Value} {b8 : Option Nat} {w w' : World} {z : Array Value} (h : OneM I l ad next limit key g2 g4 w0 s v6 v8 v0 v1 b8 w) (hz : w.heap[g]? = some (.cells z 50 (0, 0))) (hne : g4 ≠ g) (hbase : w0.heap.size ≤ g) (hg : w.grownBy w' (some g)) : OneM I l ad next limit key g2 g4 w0 s v6 v8 v0 v1 b8 w' :=
 ⟨blk_grown h.b2 hg (fun e => by have := blk_ne h.b2 hz (by decide); exact this (Option.some.inj e)), blk_grown h.b4 hg (by simpa using hne), Kd.R_grown2 h.h0 rfl hg (fun k e => by cases e; exact Kd.R_ne h.h0 hz (by decide)), Kd.R_grown2 h.h1 rfl hg (fun k e => by cases e; exact Kd.R_ne h.h1 hz (by decide)), h.h6.grown hg (fun k hk e => h.h6.ne_blk hz (by decide) (e.symm.trans hk.symm)), h.h8.grown hg (fun k hk e => h.h8.ne_blk hz (by decide) (e.symm.trans hk.symm)), h.ap, pw_below_grown h.hb (some g) h.hb.size hg (fun k e => by cases e; exact hbase)⟩
theorem OneM.same {I : Spec α} {l : List α} {ad : Addr} {next limit key : Int} {g2 g4 : Nat} {w0 : World} {s : Os α} {v6 v8 v0 v1 : Value} {b8 : Option Nat} {w w' : World} (h : OneM I l ad next limit key g2 g4 w0 s v6 v8 v0 v1 b8 w) (hz : w'.heap[g4]? = some (.cells #[v0, v1, .int .i64 s.b.lock, .int .i64 s.b.fee, .int .i64 s.b.rate] 50 (0, 0))) (hg : w.grownBy w' (some g4)) (hb : w0.heap.size ≤ g4) : OneM I l ad next limit key g2 g4 w0 s v6 v8 v0 v1 b8 w' :=
 ⟨blk_grown h.b2 hg (fun e => by have := blk_ne h.b2 h.b4 (by decide); exact this (Option.some.inj e)), hz, Kd.R_grown2 h.h0 rfl hg (fun k e => by cases e; exact Kd.R_ne h.h0 h.b4 (by decide)), Kd.R_grown2 h.h1 rfl hg (fun k e => by cases e; exact Kd.R_ne h.h1 h.b4 (by decide)), h.h6.grown hg (fun k hk e => h.h6.ne_blk h.b4 (by decide) (e.symm.trans hk.symm)), h.h8.grown hg (fun k hk e => h.h8.ne_blk h.b4 (by decide) (e.symm.trans hk.symm)), h.ap, pw_below_grown h.hb (some g4) h.hb.size hg (fun k e => by cases e; exact hb)⟩
theorem OneM.took {I : Spec α} {l : List α} {ad : Addr} {next limit key : Int} {g2 g4 : Nat} {w0 : World} {s : Os α} {v6 v8 v0 v1 v9 n0 n1 : Value} {b8 : Option Nat} {w w' : World} {x : α} {fb : Bt} (h : OneM I l ad next limit key g2 g4 w0 s v6 v8 v0 v1 b8 w) (hz : w'.heap[g4]? = some (.cells [n0, n1, .int .i64 fb.lock, .int .i64 fb.fee, .int .i64 fb.rate].toArray 50 (0, 0))) (hg : w.grownBy w' (some g4)) (hb : w0.heap.size ≤ g4) (ho : OwnI I w w0.heap.size v9 (s.W ++ [x])) (hat : ∀ k, v9.ownBlock = some k → some k ≠ v6.ownBlock) (h0 : Kd.R k79 79 w w0.heap.size (fun _ => True) n0 fb.ins) (h1 : Kd.R k90 90 w w0.heap.size (fun _ => True) n1 fb.outs) : OneM I l ad next limit key g2 g4 w0 ⟨s.W ++ [x], s.L, fb, true⟩ v6 v9 n0 n1 v9.ownBlock w' :=
 ⟨blk_grown h.b2 hg (fun e => by have := blk_ne h.b2 h.b4 (by decide); exact this (Option.some.inj e)), hz, Kd.R_grown2 h0 rfl hg (fun k e => by cases e; exact Kd.R_ne h0 h.b4 (by decide)), Kd.R_grown2 h1 rfl hg (fun k e => by cases e; exact Kd.R_ne h1 h.b4 (by decide)), h.h6.grown hg (fun k hk e => h.h6.ne_blk h.b4 (by decide) (e.symm.trans hk.symm)), .inr ⟨ho.grown hg (fun k hk e => ho.ne_blk h.b4 (by decide) (e.symm.trans hk.symm)), rfl⟩, hat, pw_below_grown h.hb (some g4) h.hb.size hg (fun k e => by cases e; exact hb)⟩
theorem list44 {l : List Value} (h : l.length = 44) : ∃ u0 u1 u2 u3 u4 u5 u6 u7 u8 u9 u10 u11 u12 u13 u14 u15 u16 u17 u18 u19 u20 u21 u22 u23 u24 u25 u26 u27 u28 u29 u30 u31 u32 u33 u34 u35 u36 u37 u38 u39 u40 u41 u42 u43 : Value, l = [u0, u1, u2, u3, u4, u5, u6, u7, u8, u9, u10, u11, u12, u13, u14, u15, u16, u17, u18, u19, u20, u21, u22, u23, u24, u25, u26, u27, u28, u29, u30, u31, u32, u33, u34, u35, u36, u37, u38, u39, u40, u41, u42, u43] := by
 rcases l with _ | ⟨u0, l⟩
 ·simp at h
 rcases l with _ | ⟨u1, l⟩
 ·simp at h
 rcases l with _ | ⟨u2, l⟩
 ·simp at h
 rcases l with _ | ⟨u3, l⟩
 ·simp at h
 rcases l with _ | ⟨u4, l⟩
 ·simp at h
 rcases l with _ | ⟨u5, l⟩
 ·simp at h
 rcases l with _ | ⟨u6, l⟩
 ·simp at h
 rcases l with _ | ⟨u7, l⟩
 ·simp at h
 rcases l with _ | ⟨u8, l⟩
 ·simp at h
 rcases l with _ | ⟨u9, l⟩
 ·simp at h
 rcases l with _ | ⟨u10, l⟩
 ·simp at h
 rcases l with _ | ⟨u11, l⟩
 ·simp at h
 rcases l with _ | ⟨u12, l⟩
 ·simp at h
 rcases l with _ | ⟨u13, l⟩
 ·simp at h
 rcases l with _ | ⟨u14, l⟩
 ·simp at h
 rcases l with _ | ⟨u15, l⟩
 ·simp at h
 rcases l with _ | ⟨u16, l⟩
 ·simp at h
 rcases l with _ | ⟨u17, l⟩
 ·simp at h
 rcases l with _ | ⟨u18, l⟩
 ·simp at h
 rcases l with _ | ⟨u19, l⟩
 ·simp at h
 rcases l with _ | ⟨u20, l⟩
 ·simp at h
 rcases l with _ | ⟨u21, l⟩
 ·simp at h
 rcases l with _ | ⟨u22, l⟩
 ·simp at h
 rcases l with _ | ⟨u23, l⟩
 ·simp at h
 rcases l with _ | ⟨u24, l⟩
 ·simp at h
 rcases l with _ | ⟨u25, l⟩
 ·simp at h
 rcases l with _ | ⟨u26, l⟩
 ·simp at h
 rcases l with _ | ⟨u27, l⟩
 ·simp at h
 rcases l with _ | ⟨u28, l⟩
 ·simp at h
 rcases l with _ | ⟨u29, l⟩
 ·simp at h
 rcases l with _ | ⟨u30, l⟩
 ·simp at h
 rcases l with _ | ⟨u31, l⟩
 ·simp at h
 rcases l with _ | ⟨u32, l⟩
 ·simp at h
 rcases l with _ | ⟨u33, l⟩
 ·simp at h
 rcases l with _ | ⟨u34, l⟩
 ·simp at h
 rcases l with _ | ⟨u35, l⟩
 ·simp at h
 rcases l with _ | ⟨u36, l⟩
 ·simp at h
 rcases l with _ | ⟨u37, l⟩
 ·simp at h
 rcases l with _ | ⟨u38, l⟩
 ·simp at h
 rcases l with _ | ⟨u39, l⟩
 ·simp at h
 rcases l with _ | ⟨u40, l⟩
 ·simp at h
 rcases l with _ | ⟨u41, l⟩
 ·simp at h
 rcases l with _ | ⟨u42, l⟩
 ·simp at h
 rcases l with _ | ⟨u43, l⟩
 ·simp at h
 rcases l with _ | ⟨u, l⟩
 ·exact ⟨u0, u1, u2, u3, u4, u5, u6, u7, u8, u9, u10, u11, u12, u13, u14, u15, u16, u17, u18, u19, u20, u21, u22, u23, u24, u25, u26, u27, u28, u29, u30, u31, u32, u33, u34, u35, u36, u37, u38, u39, u40, u41, u42, u43, rfl⟩
 ·simp at h
def atOf (a : Act) : Nat := match a.tmps.getD 9 undef with | .int _ n => n.toNat | _ => 0
def OneJ (I : Spec α) (fit : List α → Bt × Bool) (ge : α → Bool) (l : List α) (ad : Addr) (c : Nat) (next limit key rate : Int) (g2 g4 : Nat) (w0 : World) (a : Act) (w : World) : Prop :=
 ∃ (i : Nat) (s : Os α) (v6 v8 v0 v1 : Value) (b8 : Option Nat) (u3 u10 u11 u12 u13 u14 u15 u16 u17 u18 u19 u20 u21 u22 u23 u24 u25 u26 u27 u28 u29 u30 u31 u32 u33 u34 u35 u36 u37 u38 u39 u40 u41 u42 u43 u44 u45 u46 u47 u48 u49 u50 u51 u52 u53 u54 u55 u56 u57 u58 u59 u60 u61 u62 u63 u64 u65 u66 u67 u68 u69 u70 u71 u72 u73 u74 u75 u76 : Value), a = { tmps := List.toArray (.agg #[.int .i64 next, .int .i64 limit, .int .i64 key] :: .slice (some ad) l.length c :: .pointer (some ⟨g2, 0, none⟩) :: u3 :: .pointer (some ⟨g4, 0, none⟩) :: .bool s.ok :: v6 :: .int .i64 rate :: v8 :: .int .i64 i :: u10 :: u11 :: u12 :: u13 :: u14 :: u15 :: u16 :: u17 :: u18 :: u19 :: u20 :: u21 :: u22 :: u23 :: u24 :: u25 :: u26 :: u27 :: u28 :: u29 :: u30 :: u31 :: u32 :: u33 :: u34 :: u35 :: u36 :: u37 :: u38 :: u39 :: u40 :: u41 :: u42 :: u43 :: u44 :: u45 :: u46 :: u47 :: u48 :: u49 :: u50 :: u51 :: u52 :: u53 :: u54 :: u55 :: u56 :: u57 :: u58 :: u59 :: u60 :: u61 :: u62 :: u63 :: u64 :: u65 :: u66 :: u67 :: u68 :: u69 :: u70 :: u71 :: u72 :: u73 :: u74 :: u75 :: u76 :: []), defers := [] } ∧ s = oneS fit ge l i ∧ 1 ≤ i ∧ i ≤ l.length ∧ OneM I l ad next limit key g2 g4 w0 s v6 v8 v0 v1 b8 w
theorem reads_at (I : Spec α) {w W : World} {A : Option Addr} {l : List α} (hA : ReadsRow (fun x c => c = I.enc x) 44 w A l.length l) (hb : Below w.heap.size w W) {ad : Addr} (e : A = some ad) {j : Nat} {x : α} (hx : l[j]? = some x) : Sem.run Tryz.prog (Wide.heavy0 (ad.add (j * 44)) 44) W = .ok (I.enc x).toArray W := by
 obtain ⟨hj, rfl⟩ := List.getElem?_eq_some_iff.1 hx
 exact reads_load I hA hb e hj
def OneR (I : Spec α) (w : World) (e : Ending) (w' : World) (s : Os α) : Prop := ∃ v0 v1 v6 : Value, e = .returned (.tuple #[.agg #[v0, v1, .int .i64 s.b.lock, .int .i64 s.b.fee, .int .i64 s.b.rate], .bool s.ok, v6]) ∧ Kd.R k79 79 w' w.heap.size (fun _ => True) v0 s.b.ins ∧ Kd.R k90 90 w' w.heap.size (fun _ => True) v1 s.b.outs ∧ OwnI I w' w.heap.size v6 s.L ∧ Below w.heap.size w w'
def Fitted (I : Spec α) (next limit key : Int) (fits : List α → Int → Bt × Bool) : Prop := ∀ (l : List α) (A : Option Addr) (c : Nat) (rate : Int) (W : World), ReadsRow (fun x c => c = I.enc x) 44 W A l.length l → l.length < 100000 →
 Calls Tryz.prog 81 #[.agg #[.int .i64 next, .int .i64 limit, .int .i64 key], .slice A l.length c, .int .i64 rate] W fun e w' => Fit W e w' (fits l rate).1 (fits l rate).2
set_option maxHeartbeats 16000000 in
set_option maxRecDepth 100000 in
theorem one_calls (I : Spec α) (rt : α → Int) (hrb : ∀ x, 0 ≤ rt x ∧ rt x ≤ 1000000000) (next limit key : Int) (hR : Rated I next rt) (fits : List α → Int → Bt × Bool) (hF : Fitted I next limit key fits) (x0 : α) (l : List α) (h0 : l[0]? = some x0) (A : Option Addr) (c : Nat) (hc : l.length ≤ c) (w : World) (hA : ReadsRow (fun x c => c = I.enc x) 44 w A l.length l) (hl : l.length < 100000) :
 Calls Tryz.prog 53 #[.agg #[.int .i64 next, .int .i64 limit, .int .i64 key], .slice A l.length c] w fun e w' => OneR I w e w' (oneS (fun W => fits W (rt x0)) (fun x => decide (Int.tdiv (rt x0) 2 ≤ rt x)) l l.length) := by
 have hpos : 0 < l.length := (List.getElem?_eq_some_iff.1 h0).1
 obtain ⟨ad, rfl, _⟩ := hA.2.2 hpos
 have HA := Ak hA
 have HL := Ak hl
 have HR := Ak hR
 have HF := Ak hF
 have H00 := Ak h0
 have HP := Ak hpos
 have HCC := Ak hc
 obtain ⟨fit, hfit⟩ : ∃ f, (fun W => fits W (rt x0)) = f := ⟨_, rfl⟩
 obtain ⟨ge, hge⟩ : ∃ f, (fun x => decide (Int.tdiv (rt x0) 2 ≤ rt x)) = f := ⟨_, rfl⟩
 obtain ⟨rate, hrate⟩ : ∃ r, rt x0 = r := ⟨_, rfl⟩
 rw [hfit, hge]
 rw [hrate] at hfit hge
 have FT := Ak hfit
 have GE := Ak hge
 have RT := Ak hrate
 have RB := Ak (show 0 ≤ rate ∧ rate ≤ 1000000000 by rw [← hrate]; exact hrb x0)
 have HB := Ak (Below.refl w.heap.size w)
 clear hA hl hR hF h0 hpos hc hfit hge hrate hrb
 generalize hn : l.length = n
 have HN := Ak hn
 clear hn
 go_enter Tryz.func53, Tryz.ntmps53
 go_wp2_with (first | ((with_reducible refine gate_dst (N := 2) rfl ?_); refine box_event ?hg (N := 2) ?hd (cs := #[.int .i64 next, .int .i64 limit, .int .i64 key]) (t := 112) ?hr ?_; (case hd => rfl); (case hg => rfl); (case hr => first | (go_simp; done) | (go_simp; rfl)); intro g2 hg w1 hbox hb; have m_HB := Ak (below_step HB.1 hb); have B2 := Ak hbox; clear HB hbox hb hg; have HB := m_HB; clear m_HB) | ((with_reducible refine gate_dst (N := 4) rfl ?_); refine box_event ?hg (N := 4) ?hd (cs := #[.slice none 0 0, .slice none 0 0, .int .i64 0, .int .i64 0, .int .i64 0]) (t := 50) ?hr ?_; (case hd => rfl); (case hg => rfl); (case hr => first | (go_simp; done) | (go_simp; rfl)); intro g4 hg w2 hbox hb; have G4 := Ak (show w.heap.size ≤ g4 by rw [hg]; exact HB.1.size); have m_B2 := Ak (blk_below B2.1 hb); have m_HB := Ak (below_step HB.1 hb); have B4 := Ak hbox; clear HB B2 hbox hb hg; have HB := m_HB; have B2 := m_B2; clear m_HB m_B2))
 refine scope_two 0 (OneJ I fit ge l ad c next limit key rate g2 g4 w) (fun a' _ => n - atOf a') rfl ?pass ?first
 case first =>
  intro hpass
  have CX := Ak (HR.1 x0)
  rw [RT.1] at CX
  have LX := Ak (fun W (hb : Below w.heap.size w W) => by have h := reads_at I HA.1 hb rfl H00.1; rwa [show ad.add (0 * 44) = ad by simp [Addr.add]] at h)
  generalize I.enc x0 = cx at CX LX
  have p0 : (0 : Int) < (n : Int) := by have := HP.1; have := HN.1; omega
  have p1 : 0 < n := by have := HP.1; have := HN.1; omega
  try go_wp2_with fail
  replace B2 := Ak (blk_drew B2.1)
  replace B4 := Ak (blk_drew B4.1)
  replace HB := Ak (below_drew1 HB.1)
  refine start_ (n := 7) (S := (fun w' => Sem.run Tryz.prog (Wide.heavy0 ad 44) w' = .ok cx.toArray w' ∧ w'.cell? ⟨g2, 0, none⟩ = some (.int .i64 next))) (ds := []) #[false, false, false, false, false, false, false] (by kernel_rfl) rfl rfl ⟨LX.1 _ HB.1, (blk_cell B2.1 0).trans rfl⟩ (fun hHeld => ?_)
  generalize w2.drew = w3 at B2 B4 HB hHeld ⊢
  refine pure_ (i := 0) (N := some 12) (v := ?_) (a' := ?_) #[true, false, false, false, false, false, false] rfl rfl (by kernel_rfl) (fun _ _ _ h => h) (Or.inl ⟨by rfl, ?_⟩) ?_ ?_
  rotate_left
  ·intro w'
   go_simp
   with_reducible rfl
  rotate_left
  ·simp only [Act.put, ls_, l0_, l1_, i64_w, i32_w]
   rfl
  refine pure_ (i := 1) (N := some 13) (v := ?_) (a' := ?_) #[true, true, false, false, false, false, false] rfl rfl (by kernel_rfl) (fun _ _ _ h => h) (Or.inl ⟨by rfl, ?_⟩) ?_ ?_
  rotate_left
  ·intro w'
   go_simp
   with_reducible rfl
  rotate_left
  ·simp only [Act.put, ls_, l0_, l1_, i64_w, i32_w]
   rfl
  refine take_ (i := 2) (N := some 14) (v := ?_) (a' := ?_) #[true, true, true, false, false, false, false] rfl rfl (by kernel_rfl) (fun _ _ _ h => h) (Or.inl ⟨by rfl, ?_⟩) hHeld ?_ ?_
  rotate_left
  ·rintro w' ⟨hl0, hn0⟩
   go_simp
   with_reducible rfl
  rotate_left
  ·simp only [Act.put, ls_, l0_, l1_, i64_w, i32_w]
   rfl
  refine pure_ (i := 3) (N := some 15) (v := ?_) (a' := ?_) #[true, true, true, true, false, false, false] rfl rfl (by kernel_rfl) (fun _ _ _ h => h) (Or.inl ⟨by rfl, ?_⟩) ?_ ?_
  rotate_left
  ·intro w'
   go_simp
   with_reducible rfl
  rotate_left
  ·simp only [Act.put, ls_, l0_, l1_, i64_w, i32_w]
   rfl
  refine take_ (i := 4) (N := some 16) (v := ?_) (a' := ?_) #[true, true, true, true, true, false, false] rfl rfl (by kernel_rfl) (fun _ _ _ h => h) (Or.inl ⟨by rfl, ?_⟩) hHeld ?_ ?_
  rotate_left
  ·rintro w' ⟨hl0, hn0⟩
   go_simp
   with_reducible rfl
  rotate_left
  ·simp only [Act.put, ls_, l0_, l1_, i64_w, i32_w]
   rfl
  refine one_ (i := 5) (N := some 17) #[true, true, true, true, true, true, false] rfl rfl (by kernel_rfl) (by decide) (fun K hK => ?_)
  refine goes_ Tryz.func10 (by kernel_rfl) rfl #[.agg cx.toArray, .int .i64 next] (by rfl) rfl rfl (by (try simp only [lm_, lc_, ln_]); first | done | rfl) ?_
  refine (CX.1 _).mono ?_
  rintro e w4 ⟨rfl, hb⟩
  refine ⟨_, rfl, ?_⟩
  replace B2 := Ak (blk_below B2.1 hb)
  replace B4 := Ak (blk_below B4.1 hb)
  replace HB := Ak (below_step HB.1 hb)
  clear hb
  refine hK.out _ _ ⟨LX.1 _ HB.1, (blk_cell B2.1 0).trans rfl⟩ (fun hHeld => ?_)
  clear hK K
  refine norm_ (a' := ?_) ?_ ?_
  rotate_left
  ·show Act.put _ (some 17) _ = _
   simp only [Act.put, ls_, l0_, l1_, i64_w, i32_w]
   rfl
  refine pure_ (i := 6) (N := some 7) (v := ?_) (a' := ?_) #[true, true, true, true, true, true, true] rfl rfl (by kernel_rfl) (fun _ _ _ h => h) (Or.inl ⟨by rfl, ?_⟩) ?_ ?_
  rotate_left
  ·intro w'
   go_simp
   with_reducible rfl
  rotate_left
  ·simp only [Act.put, ls_, l0_, l1_, i64_w, i32_w]
   rfl
  refine done_ (by kernel_rfl) ?_
  clear hHeld
  have kA0 : w4.cell? ⟨g2, 0, none⟩ = some (.int .i64 next) := (blk_cell B2.1 0).trans rfl
  have kA1 : w4.cell? ⟨g2, 1, none⟩ = some (.int .i64 limit) := (blk_cell B2.1 1).trans rfl
  have kA2 : w4.cell? ⟨g2, 2, none⟩ = some (.int .i64 key) := (blk_cell B2.1 2).trans rfl
  have pc : 1 ≤ c := by have := HP.1; have := HCC.1; omega
  have pcz : (1 : Int) ≤ (c : Int) := by omega
  have ht1 : l.take 1 = [x0] := by
   have h := H00.1
   cases l with
   | nil => simp at h
   | cons y ys => simp at h; subst h; rfl
  have HT1 := Ak ht1
  have HS1 := Ak (show (⟨[x0], [], (fits [x0] rate).1, (fits [x0] rate).2⟩ : Os α) = oneS fit ge l 1 from by rw [oneS_one, ht1, ← FT.1])
  have W8 := Ak (fun W (hb : Below w.heap.size w W) => (show ∃ A cap, Value.slice (some ad) 1 1 = .slice A ([x0] : List α).length cap ∧ ReadsRow (fun x c => c = I.enc x) 44 W A ([x0] : List α).length [x0] from (show With I w W ad l (.slice (some ad) 1 1) [x0] none from .inl ⟨rfl, ht1.symm, rfl⟩).reads HA.1 hb HP.1))
  clear ht1
  go_wp2_with (first | ((with_reducible refine gate_callee (f := 81) rfl ?_); refine goesL_ (some 24) rfl rfl Tryz.func81 (by kernel_rfl) rfl #[.agg #[.int .i64 next, .int .i64 limit, .int .i64 key], .slice (some ad) 1 1, .int .i64 rate] rfl (by (try simp only [lm_, lc_, ln_]); first | done | rfl) ?_; refine (HF.1 [x0] (some ad) 1 rate _ (by obtain ⟨A', c', e', h'⟩ := W8.1 _ HB.1; cases e'; exact h') (by simp)).mono ?_; rintro e w5 ⟨v0, v1, rfl, h0, h1, hb⟩; refine ⟨_, rfl, ?_⟩; have H0 := Ak (Kd.R_lower h0 HB.1.size); have H1 := Ak (Kd.R_lower h1 HB.1.size); clear h0 h1 kA0 kA1 kA2; obtain ⟨A0, c0, e0⟩ := Kd.R_slice H0.1; subst e0; obtain ⟨A1, c1, e1⟩ := Kd.R_slice H1.1; subst e1; replace B2 := Ak (blk_below B2.1 hb); replace B4 := Ak (blk_below B4.1 hb); replace HB := Ak (below_step HB.1 hb); clear hb) | ((with_reducible refine gate_store (t := 50) (p := 4) rfl ?_); refine PutW.store_event ?b1 ?b2 50 (.tmp 4) (.tmp 25) ?b3 (g := g4) (t := 50) (cells := #[.slice A0 (fits [x0] rate).1.ins.length c0, .slice A1 (fits [x0] rate).1.outs.length c1, .int .i64 (fits [x0] rate).1.lock, .int .i64 (fits [x0] rate).1.fee, .int .i64 (fits [x0] rate).1.rate]) ?a1 ?a2 B4.1 ?a3 ?a4 ?a5 ?_; (case b1 => rfl); (case b2 => rfl); (case b3 => rfl); (case a1 => first | rfl | (go_simp; done)); (case a2 => first | rfl | (go_simp; done)); (case a3 => rfl); (case a4 => kernel_rfl); (case a5 => first | rfl | kernel_rfl | (simp [Value.oneCell']; done)); intro w6 hz3 hs3 hg3; have N24 := Ak (blk_ne B2.1 B4.1 (by decide)); replace HB := Ak (pw_below_grown HB.1 (some g4) HB.1.size hg3 (fun k e => by cases e; exact G4.1)); replace B2 := Ak (blk_grown B2.1 hg3 (by simpa using N24.1)); replace H0 := Ak (Kd.R_grown2 H0.1 rfl hg3 (fun k e => by cases e; exact Kd.R_ne H0.1 B4.1 (by decide))); replace H1 := Ak (Kd.R_grown2 H1.1 rfl hg3 (fun k e => by cases e; exact Kd.R_ne H1.1 B4.1 (by decide))); replace B4 := Ak hz3; clear hz3 hs3 hg3))
  go_step3
  simp only [Exit.then]
  refine ‹∀ (a : Act) (w : World), Code.wp _ _ _ a w → _› _ _ ?_
  clear FT GE RT H00 HF HR LX CX W8
  refine hpass _ _ ?_
  have e := HN.1
  subst e
  exact ⟨1, ⟨[x0], [], (fits [x0] rate).1, (fits [x0] rate).2⟩, .slice none 0 0, .slice (some ad) 1 1, _, _, none, _, _, _, _, _, _, _, _, _, _, _, _, _, _, _, _, _, _, _, _, _, _, _, _, _, _, _, _, _, _, _, _, _, _, _, _, _, _, _, _, _, _, _, _, _, _, _, _, _, _, _, _, _, _, _, _, _, _, _, _, _, _, _, _, _, _, _, _, rfl, HS1.1, Nat.le_refl _, HP.1, ⟨B2.1, B4.1, H0.1, H1.1, .inl ⟨rfl, rfl⟩, .inl ⟨rfl, HT1.1.symm, rfl⟩, (fun k hk => by cases hk), HB.1⟩⟩
 case pass =>
  have GG4 := G4
  clear B2 B4 HB H00
  rintro a' wr ⟨i, s, v6, v8, v0, v1, b8, u3, u10, u11, u12, u13, u14, u15, u16, u17, u18, u19, u20, u21, u22, u23, u24, u25, u26, u27, u28, u29, u30, u31, u32, u33, u34, u35, u36, u37, u38, u39, u40, u41, u42, u43, u44, u45, u46, u47, u48, u49, u50, u51, u52, u53, u54, u55, u56, u57, u58, u59, u60, u61, u62, u63, u64, u65, u66, u67, u68, u69, u70, u71, u72, u73, u74, u75, u76, rfl, hs, hi1, hi2, hm⟩
  have M := Ak hm
  have HS := Ak hs
  clear hm hs
  obtain ⟨A0, c0, e0⟩ := Kd.R_slice M.1.h0
  subst e0
  obtain ⟨A1, c1, e1⟩ := Kd.R_slice M.1.h1
  subst e1
  obtain ⟨A8, c8, e8, hr8⟩ := M.1.h8.reads HA.1 M.1.hb HP.1
  clear hr8
  subst e8
  have e := HN.1
  subst e
  have hlb := HL.1
  have HWL := Ak (oneS_len fit ge l i hi1 hi2)
  rw [← HS.1] at HWL
  by_cases hlt : i < l.length
  ·have hltz : (i : Int) < (l.length : Int) := by omega
   have hneq : ((i : Int) == (l.length : Int)) = false := by simp; omega
   have hneq2 := eq_false (show ¬ (i : Int) = (l.length : Int) by omega)
   have ew : IntKind.i64.wrap ((i : Int) + 1) = ((i + 1 : Nat) : Int) := by rw [IntKind.wrap_i64]; omega
   obtain ⟨x, hx⟩ : ∃ x, l[i]? = some x := ⟨_, List.getElem?_eq_getElem hlt⟩
   have LX := Ak (fun W (hb : Below w.heap.size w W) => reads_at I HA.1 hb rfl hx)
   have CX := Ak (HR.1 x)
   have ST := Ak (show oneS fit ge l (i + 1) = oneStep fit ge s x by rw [oneS_succ fit ge l i hi1 hlt, HS.1, show l[i] = x from by rw [List.getElem?_eq_getElem hlt] at hx; exact Option.some.inj hx])
   have GX := Ak (show ge x = decide (rate.tdiv 2 ≤ rt x) by rw [← GE.1])
   have HXL := Ak (I.hk x)
   have AP := Ak (fun (W : World) (g : Nat) (h : W.heap[g]? = some (.cells (I.enc x).toArray 38 (0, 0))) => h)
   generalize rt x = rx at CX GX
   obtain ⟨cx, hcx⟩ : ∃ cx, I.enc x = cx := ⟨_, rfl⟩
   rw [hcx] at LX CX HXL
   have ECX := Ak hcx
   clear hcx hx
   have qd : IntKind.i64.wrap (rate.tdiv 2) = rate.tdiv 2 := by have := RB.1; rw [Int.tdiv_eq_ediv_of_nonneg this.1, IntKind.wrap_i64]; omega
   go_wp2_with fail
   replace M := Ak M.1.drew
   refine start_ (n := 10) (S := (fun w' => Sem.run Tryz.prog (Wide.heavy0 (ad.add (i * 44)) 44) w' = .ok cx.toArray w' ∧ w'.cell? ⟨g2, 0, none⟩ = some (.int .i64 next))) (ds := []) #[false, false, false, false, false, false, false, false, false, false] (by kernel_rfl) rfl rfl ⟨LX.1 _ M.1.hb, (blk_cell M.1.b2 0).trans rfl⟩ (fun hHeld => ?_)
   generalize wr.drew = w3 at M hHeld ⊢
   refine pure_ (i := 0) (N := some 34) (v := ?_) (a' := ?_) #[true, false, false, false, false, false, false, false, false, false] rfl rfl (by kernel_rfl) (fun _ _ _ h => h) (Or.inl ⟨by rfl, ?_⟩) ?_ ?_
   rotate_left
   ·intro w'
    go_simp
    with_reducible rfl
   rotate_left
   ·simp only [Act.put, ls_, l0_, l1_, i64_w, i32_w]
    rfl
   refine pure_ (i := 1) (N := some 35) (v := ?_) (a' := ?_) #[true, true, false, false, false, false, false, false, false, false] rfl rfl (by kernel_rfl) (fun _ _ _ h => h) (Or.inl ⟨by rfl, ?_⟩) ?_ ?_
   rotate_left
   ·intro w'
    go_simp
    with_reducible rfl
   rotate_left
   ·simp only [Act.put, ls_, l0_, l1_, i64_w, i32_w]
    rfl
   refine pure_ (i := 2) (N := some 36) (v := ?_) (a' := ?_) #[true, true, true, false, false, false, false, false, false, false] rfl rfl (by kernel_rfl) (fun _ _ _ h => h) (Or.inl ⟨by rfl, ?_⟩) ?_ ?_
   rotate_left
   ·intro w'
    go_simp
    with_reducible rfl
   rotate_left
   ·simp only [Act.put, ls_, l0_, l1_, i64_w, i32_w]
    rfl
   refine take_ (i := 3) (N := some 37) (v := ?_) (a' := ?_) #[true, true, true, true, false, false, false, false, false, false] rfl rfl (by kernel_rfl) (fun _ _ _ h => h) (Or.inl ⟨by rfl, ?_⟩) hHeld ?_ ?_
   rotate_left
   ·rintro w' ⟨hl0, hn0⟩
    go_simp
    with_reducible rfl
   rotate_left
   ·simp only [Act.put, ls_, l0_, l1_, i64_w, i32_w]
    rfl
   refine pure_ (i := 4) (N := some 38) (v := ?_) (a' := ?_) #[true, true, true, true, true, false, false, false, false, false] rfl rfl (by kernel_rfl) (fun _ _ _ h => h) (Or.inl ⟨by rfl, ?_⟩) ?_ ?_
   rotate_left
   ·intro w'
    go_simp
    with_reducible rfl
   rotate_left
   ·simp only [Act.put, ls_, l0_, l1_, i64_w, i32_w]
    rfl
   refine take_ (i := 5) (N := some 39) (v := ?_) (a' := ?_) #[true, true, true, true, true, true, false, false, false, false] rfl rfl (by kernel_rfl) (fun _ _ _ h => h) (Or.inl ⟨by rfl, ?_⟩) hHeld ?_ ?_
   rotate_left
   ·rintro w' ⟨hl0, hn0⟩
    go_simp
    with_reducible rfl
   rotate_left
   ·simp only [Act.put, ls_, l0_, l1_, i64_w, i32_w]
    rfl
   refine pure_ (i := 7) (N := some 41) (v := ?_) (a' := ?_) #[true, true, true, true, true, true, false, true, false, false] rfl rfl (by kernel_rfl) (fun _ _ _ h => h) (Or.inl ⟨by rfl, ?_⟩) ?_ ?_
   rotate_left
   ·intro w'
    go_simp
    with_reducible rfl
   rotate_left
   ·simp only [Act.put, ls_, l0_, l1_, i64_w, i32_w]
    rfl
   refine pure_ (i := 8) (N := some 42) (v := ?_) (a' := ?_) #[true, true, true, true, true, true, false, true, true, false] rfl rfl (by kernel_rfl) (fun _ _ _ h => h) (Or.inl ⟨by rfl, ?_⟩) ?_ ?_
   rotate_left
   ·intro w'
    go_simp
    with_reducible rfl
   rotate_left
   ·simp only [Act.put, ls_, l0_, l1_, i64_w, i32_w]
    rfl
   refine one_ (i := 6) (N := some 40) #[true, true, true, true, true, true, true, true, true, false] rfl rfl (by kernel_rfl) (by decide) (fun K hK => ?_)
   refine goes_ Tryz.func10 (by kernel_rfl) rfl #[.agg cx.toArray, .int .i64 next] (by rfl) rfl rfl (by (try simp only [lm_, lc_, ln_]); first | done | rfl) ?_
   refine (CX.1 _).mono ?_
   rintro e w4 ⟨rfl, hb⟩
   refine ⟨_, rfl, ?_⟩
   replace M := Ak (M.1.below hb)
   clear hb
   refine hK.out _ _ ⟨LX.1 _ M.1.hb, (blk_cell M.1.b2 0).trans rfl⟩ (fun hHeld => ?_)
   clear hK K
   refine norm_ (a' := ?_) ?_ ?_
   rotate_left
   ·show Act.put _ (some 40) _ = _
    simp only [Act.put, ls_, l0_, l1_, i64_w, i32_w]
    rfl
   refine pure_ (i := 9) (N := some 43) (v := ?_) (a' := ?_) #[true, true, true, true, true, true, true, true, true, true] rfl rfl (by kernel_rfl) (fun _ _ _ h => h) (Or.inl ⟨by rfl, ?_⟩) ?_ ?_
   rotate_left
   ·intro w'
    go_simp
    with_reducible rfl
   rotate_left
   ·simp only [Act.put, ls_, l0_, l1_, i64_w, i32_w]
    rfl
   refine done_ (by kernel_rfl) ?_
   clear hHeld
   by_cases hge : rate.tdiv 2 ≤ rx
   ·have g1 := eq_true hge
    first | rw [decide_eq_true hge] | simp only [g1, decide_true]
    have GT := Ak (show ge x = true by rw [GX.1]; exact decide_eq_true hge)
    clear hge
    go_wp2_with fail
    obtain ⟨fb, fs, hfb⟩ : ∃ b s', fits (s.W ++ [x]) rate = (b, s') := ⟨_, _, rfl⟩
    have FB0 := Ak hfb
    have FB := Ak (show fit (s.W ++ [x]) = (fb, fs) by rw [← FT.1]; exact hfb)
    clear hfb
    replace M := Ak M.1.drew
    refine start_ (n := 16) (S := (fun w' => Sem.run Tryz.prog (Wide.heavy0 (ad.add (i * 44)) 44) w' = .ok cx.toArray w' ∧ w'.cell? ⟨g2, 0, none⟩ = some (.int .i64 next) ∧ w'.cell? ⟨g2, 1, none⟩ = some (.int .i64 limit) ∧ w'.cell? ⟨g2, 2, none⟩ = some (.int .i64 key))) (ds := []) #[false, false, false, false, false, false, false, false, false, false, false, false, false, false, false, false] (by kernel_rfl) rfl rfl ⟨LX.1 _ M.1.hb, (blk_cell M.1.b2 0).trans rfl, (blk_cell M.1.b2 1).trans rfl, (blk_cell M.1.b2 2).trans rfl⟩ (fun hHeld => ?_)
    generalize w4.drew = w5 at M hHeld ⊢
    refine take_ (i := 0) (N := some 45) (v := ?_) (a' := ?_) #[true, false, false, false, false, false, false, false, false, false, false, false, false, false, false, false] rfl rfl (by kernel_rfl) (fun _ _ _ h => h) (Or.inl ⟨by rfl, ?_⟩) hHeld ?_ ?_
    rotate_left
    ·rintro w' ⟨hl0, hn0, hn1, hn2⟩
     go_simp
     with_reducible rfl
    rotate_left
    ·simp only [Act.put, ls_, l0_, l1_, i64_w, i32_w]
     rfl
    refine pure_ (i := 1) (N := some 46) (v := ?_) (a' := ?_) #[true, true, false, false, false, false, false, false, false, false, false, false, false, false, false, false] rfl rfl (by kernel_rfl) (fun _ _ _ h => h) (Or.inl ⟨by rfl, ?_⟩) ?_ ?_
    rotate_left
    ·intro w'
     go_simp
     with_reducible rfl
    rotate_left
    ·simp only [Act.put, ls_, l0_, l1_, i64_w, i32_w]
     rfl
    refine pure_ (i := 2) (N := some 47) (v := ?_) (a' := ?_) #[true, true, true, false, false, false, false, false, false, false, false, false, false, false, false, false] rfl rfl (by kernel_rfl) (fun _ _ _ h => h) (Or.inl ⟨by rfl, ?_⟩) ?_ ?_
    rotate_left
    ·intro w'
     go_simp
     with_reducible rfl
    rotate_left
    ·simp only [Act.put, ls_, l0_, l1_, i64_w, i32_w]
     rfl
    refine pure_ (i := 3) (N := some 48) (v := ?_) (a' := ?_) #[true, true, true, true, false, false, false, false, false, false, false, false, false, false, false, false] rfl rfl (by kernel_rfl) (fun _ _ _ h => h) (Or.inl ⟨by rfl, ?_⟩) ?_ ?_
    rotate_left
    ·intro w'
     go_simp
     with_reducible rfl
    rotate_left
    ·simp only [Act.put, ls_, l0_, l1_, i64_w, i32_w]
     rfl
    refine pure_ (i := 4) (N := some 49) (v := ?_) (a' := ?_) #[true, true, true, true, true, false, false, false, false, false, false, false, false, false, false, false] rfl rfl (by kernel_rfl) (fun _ _ _ h => h) (Or.inl ⟨by rfl, ?_⟩) ?_ ?_
    rotate_left
    ·intro w'
     go_simp
     with_reducible rfl
    rotate_left
    ·simp only [Act.put, ls_, l0_, l1_, i64_w, i32_w]
     rfl
    refine take_ (i := 5) (N := some 50) (v := ?_) (a' := ?_) #[true, true, true, true, true, true, false, false, false, false, false, false, false, false, false, false] rfl rfl (by kernel_rfl) (fun _ _ _ h => h) (Or.inl ⟨by rfl, ?_⟩) hHeld ?_ ?_
    rotate_left
    ·rintro w' ⟨hl0, hn0, hn1, hn2⟩
     go_simp
     with_reducible rfl
    rotate_left
    ·simp only [Act.put, ls_, l0_, l1_, i64_w, i32_w]
     rfl
    refine pure_ (i := 8) (N := some 53) (v := ?_) (a' := ?_) #[true, true, true, true, true, true, false, false, true, false, false, false, false, false, false, false] rfl rfl (by kernel_rfl) (fun _ _ _ h => h) (Or.inl ⟨by rfl, ?_⟩) ?_ ?_
    rotate_left
    ·intro w'
     go_simp
     with_reducible rfl
    rotate_left
    ·simp only [Act.put, ls_, l0_, l1_, i64_w, i32_w]
     rfl
    refine join_ (σ := Nat × Nat × Value × Value × Value) 2 #[true, true, true, true, true, true, true, true, true, true, true, true, true, true, false, false] (fun s_ => [(51, .slice (some ⟨s_.1, 0, none⟩) 1 1), (52, s_.2.2.1), (54, .tuple #[.agg #[s_.2.2.2.1, s_.2.2.2.2, .int .i64 fb.lock, .int .i64 fb.fee, .int .i64 fb.rate], .bool fs]), (10, .pointer (some ⟨s_.2.1, 0, none⟩)), (44, .tuple #[.agg #[s_.2.2.2.1, s_.2.2.2.2, .int .i64 fb.lock, .int .i64 fb.fee, .int .i64 fb.rate], .bool fs]), (55, .agg #[s_.2.2.2.1, s_.2.2.2.2, .int .i64 fb.lock, .int .i64 fb.fee, .int .i64 fb.rate]), (56, .bool fs)]) (fun s_ w' => ((fun w' => Sem.run Tryz.prog (Wide.heavy0 (ad.add (i * 44)) 44) w' = .ok cx.toArray w' ∧ w'.cell? ⟨g2, 0, none⟩ = some (.int .i64 next) ∧ w'.cell? ⟨g2, 1, none⟩ = some (.int .i64 limit) ∧ w'.cell? ⟨g2, 2, none⟩ = some (.int .i64 key)) w') ∧ OneM I l ad next limit key g2 g4 w s v6 (.slice A8 s.W.length c8) (.slice A0 s.b.ins.length c0) (.slice A1 s.b.outs.length c1) b8 w' ∧ w'.heap[s_.2.1]? = some (.cells #[.slice none 0 0, .slice none 0 0, .int .i64 0, .int .i64 0, .int .i64 0] 50 (0, 0)) ∧ g4 ≠ s_.2.1 ∧ w.heap.size ≤ s_.2.1 ∧ Kd.R k79 79 w' w.heap.size (fun _ => True) s_.2.2.2.1 fb.ins ∧ Kd.R k90 90 w' w.heap.size (fun _ => True) s_.2.2.2.2 fb.outs) ?_ ?_
    rotate_left
    ·intro hCont
     refine two_ (i := 6) (j := 13) (Ni := some 51) (Nj := some 10) #[true, true, true, true, true, true, true, false, true, false, false, false, false, false, false, false] #[true, true, true, true, true, true, false, false, true, false, false, false, false, true, false, false] rfl rfl rfl rfl (by kernel_rfl) (by decide) (by decide) (fun K hK => ?_) (fun K hK => ?_)
     ·skip
      obtain ⟨g6, hg6⟩ : ∃ g, w5.heap.size = g := ⟨_, rfl⟩
      refine value_ (w1 := w5.alloc (.cells cx.toArray 38)) (v := .slice (some ⟨g6, 0, none⟩) 1 1) (by rfl) rfl ?_ ?_
      ·clear LX CX ECX
       obtain ⟨q0, q1, q2, q3, q4, q5, q6, q7, q8, q9, q10, q11, q12, q13, q14, q15, q16, q17, q18, q19, q20, q21, q22, q23, q24, q25, q26, q27, q28, q29, q30, q31, q32, q33, q34, q35, q36, q37, q38, q39, q40, q41, q42, q43, rfl⟩ := list44 HXL.1
       rw [← hg6]
       first | (go_simp; done) | (go_simp; rfl)
      have hb := below_alloc (Below.refl w5.heap.size w5) (.cells cx.toArray 38)
      have B6 := Ak (blk_new w5 (.cells cx.toArray 38))
      rw [hg6] at B6
      replace M := Ak (M.1.below hb)
      clear hb
      generalize w5.alloc (.cells cx.toArray 38) = w6 at M  B6 ⊢
      refine hK.out _ _ ⟨LX.1 _ M.1.hb, (blk_cell M.1.b2 0).trans rfl, (blk_cell M.1.b2 1).trans rfl, (blk_cell M.1.b2 2).trans rfl⟩ (fun hHeld => ?_)
      clear hK K
      refine norm_ (a' := ?_) ?_ ?_
      rotate_left
      ·show Act.put _ (some 51) _ = _
       simp only [Act.put, ls_, l0_, l1_, i64_w, i32_w]
       rfl
      refine two_ (i := 7) (j := 13) (Ni := some 52) (Nj := some 10) #[true, true, true, true, true, true, true, true, true, false, false, false, false, false, false, false] #[true, true, true, true, true, true, true, false, true, false, false, false, false, true, false, false] rfl rfl rfl rfl (by kernel_rfl) (by decide) (by decide) (fun K hK => ?_) (fun K hK => ?_)
      ·skip
       obtain ⟨v52, w7, hr, ho, hgr, hat, h8n⟩ := M.1.h8.app HA.1 M.1.hb HP.1 (by have := HWL.1; omega) x 1 (show w6.heap[_]? = _ by rw [ECX.1]; exact B6.1) 25
       refine value_ (w1 := w7) (v := v52) (by rfl) rfl (run_app rfl rfl (by simp only [lm_, lc_, ln_]; rfl) hr) ?_
       have HAT := Ak (show ∀ k, v52.ownBlock = some k → some k ≠ v6.ownBlock from fun k hk e => by
        rcases hat k hk with h1 | h1
        ·exact M.1.ap k h1 e
        ·have := M.1.h6.lt k e.symm; omega)
       have m_M := Ak (M.1.app hgr h8n M.1.h8.base)
       have O7 := Ak ho
       clear M hr ho hgr hat h8n B6
       have M := m_M
       clear m_M
       refine hK.out _ _ ⟨LX.1 _ M.1.hb, (blk_cell M.1.b2 0).trans rfl, (blk_cell M.1.b2 1).trans rfl, (blk_cell M.1.b2 2).trans rfl⟩ (fun hHeld => ?_)
       clear hK K
       refine norm_ (a' := ?_) ?_ ?_
       rotate_left
       ·show Act.put _ (some 52) _ = _
        simp only [Act.put, ls_, l0_, l1_, i64_w, i32_w]
        rfl
       refine two_ (i := 9) (j := 13) (Ni := some 54) (Nj := some 10) #[true, true, true, true, true, true, true, true, true, true, false, false, false, false, false, false] #[true, true, true, true, true, true, true, true, true, false, false, false, false, true, false, false] rfl rfl rfl rfl (by kernel_rfl) (by decide) (by decide) (fun K hK => ?_) (fun K hK => ?_)
       ·skip
        obtain ⟨A7, c7, e7, hr7⟩ := O7.1.reads
        subst e7
        refine goes_ Tryz.func81 (by kernel_rfl) rfl #[.agg #[.int .i64 next, .int .i64 limit, .int .i64 key], .slice A7 (s.W ++ [x]).length c7, .int .i64 rate] (by rfl) rfl rfl (by (try simp only [lm_, lc_, ln_]); first | done | rfl) ?_
        have hfc := HF.1 (s.W ++ [x]) A7 c7 rate _ hr7 (by have := HWL.1; rw [List.length_append, List.length_singleton]; omega)
        rw [FB0.1] at hfc
        refine hfc.mono ?_
        rintro e w8 ⟨v0n, v1n, rfl, h0, h1, hb⟩
        refine ⟨_, rfl, ?_⟩
        have H0n := Ak (Kd.R_lower h0 M.1.hb.size)
        have H1n := Ak (Kd.R_lower h1 M.1.hb.size)
        clear h0 h1 hr7 O7
        replace M := Ak (M.1.below hb)
        clear hb
        refine hK.out _ _ ⟨LX.1 _ M.1.hb, (blk_cell M.1.b2 0).trans rfl, (blk_cell M.1.b2 1).trans rfl, (blk_cell M.1.b2 2).trans rfl⟩ (fun hHeld => ?_)
        clear hK K
        refine norm_ (a' := ?_) ?_ ?_
        rotate_left
        ·show Act.put _ (some 54) _ = _
         simp only [Act.put, ls_, l0_, l1_, i64_w, i32_w]
         rfl
        refine pure_ (i := 10) (N := some 44) (v := ?_) (a' := ?_) #[true, true, true, true, true, true, true, true, true, true, true, false, false, false, false, false] rfl rfl (by kernel_rfl) (fun _ _ _ h => h) (Or.inl ⟨by rfl, ?_⟩) ?_ ?_
        rotate_left
        ·intro w'
         go_simp
         with_reducible rfl
        rotate_left
        ·simp only [Act.put, ls_, l0_, l1_, i64_w, i32_w]
         rfl
        refine pure_ (i := 11) (N := some 55) (v := ?_) (a' := ?_) #[true, true, true, true, true, true, true, true, true, true, true, true, false, false, false, false] rfl rfl (by kernel_rfl) (fun _ _ _ h => h) (Or.inl ⟨by rfl, ?_⟩) ?_ ?_
        rotate_left
        ·intro w'
         go_simp
         with_reducible rfl
        rotate_left
        ·simp only [Act.put, ls_, l0_, l1_, i64_w, i32_w]
         rfl
        refine pure_ (i := 12) (N := some 56) (v := ?_) (a' := ?_) #[true, true, true, true, true, true, true, true, true, true, true, true, true, false, false, false] rfl rfl (by kernel_rfl) (fun _ _ _ h => h) (Or.inl ⟨by rfl, ?_⟩) ?_ ?_
        rotate_left
        ·intro w'
         go_simp
         with_reducible rfl
        rotate_left
        ·simp only [Act.put, ls_, l0_, l1_, i64_w, i32_w]
         rfl
        refine one_ (i := 13) (N := some 10) #[true, true, true, true, true, true, true, true, true, true, true, true, true, true, false, false] rfl rfl (by kernel_rfl) (by decide) (fun K hK => ?_)
        obtain ⟨g10, hg10⟩ : ∃ g, w8.heap.size = g := ⟨_, rfl⟩
        refine value_ (w1 := w8.alloc (.cells #[.slice none 0 0, .slice none 0 0, .int .i64 0, .int .i64 0, .int .i64 0] 50)) (v := .pointer (some ⟨g10, 0, none⟩)) (by rfl) rfl ?_ ?_
        ·rw [← hg10]
         first | (go_simp; done) | (go_simp; rfl)
        have N10 := Ak (show g4 ≠ g10 by rw [← hg10]; exact Nat.ne_of_lt (blk_lt M.1.b4))
        have G10 := Ak (show w.heap.size ≤ g10 by rw [← hg10]; exact M.1.hb.size)
        have hb := below_alloc (Below.refl w8.heap.size w8) (.cells #[.slice none 0 0, .slice none 0 0, .int .i64 0, .int .i64 0, .int .i64 0] 50)
        have B10 := Ak (blk_new w8 (.cells #[.slice none 0 0, .slice none 0 0, .int .i64 0, .int .i64 0, .int .i64 0] 50))
        rw [hg10] at B10
        replace M := Ak (M.1.below hb)
        replace H0n := Ak (Kd.R_below H0n.1 hb)
        replace H1n := Ak (Kd.R_below H1n.1 hb)
        clear hb
        generalize w8.alloc (.cells #[.slice none 0 0, .slice none 0 0, .int .i64 0, .int .i64 0, .int .i64 0] 50) = w9 at M H0n H1n B10 ⊢
        refine hK.out _ _ ⟨LX.1 _ M.1.hb, (blk_cell M.1.b2 0).trans rfl, (blk_cell M.1.b2 1).trans rfl, (blk_cell M.1.b2 2).trans rfl⟩ (fun hHeld => ?_)
        clear hK K
        refine norm_ (a' := ?_) ?_ ?_
        rotate_left
        ·show Act.put _ (some 10) _ = _
         simp only [Act.put, ls_, l0_, l1_, i64_w, i32_w]
         rfl
        exact norm_ (by simp only [putAll, Act.put, ls_, l0_, l1_] <;> rfl) (hCont (g6, g10, _, v0n, v1n) _ ⟨hHeld, M.1, B10.1, N10.1, G10.1, H0n.1, H1n.1⟩)
       ·skip
        obtain ⟨g10, hg10⟩ : ∃ g, w7.heap.size = g := ⟨_, rfl⟩
        refine value_ (w1 := w7.alloc (.cells #[.slice none 0 0, .slice none 0 0, .int .i64 0, .int .i64 0, .int .i64 0] 50)) (v := .pointer (some ⟨g10, 0, none⟩)) (by rfl) rfl ?_ ?_
        ·rw [← hg10]
         first | (go_simp; done) | (go_simp; rfl)
        have N10 := Ak (show g4 ≠ g10 by rw [← hg10]; exact Nat.ne_of_lt (blk_lt M.1.b4))
        have G10 := Ak (show w.heap.size ≤ g10 by rw [← hg10]; exact M.1.hb.size)
        have hb := below_alloc (Below.refl w7.heap.size w7) (.cells #[.slice none 0 0, .slice none 0 0, .int .i64 0, .int .i64 0, .int .i64 0] 50)
        have B10 := Ak (blk_new w7 (.cells #[.slice none 0 0, .slice none 0 0, .int .i64 0, .int .i64 0, .int .i64 0] 50))
        rw [hg10] at B10
        replace M := Ak (M.1.below hb)
        replace O7 := Ak (OwnI.below O7.1 hb)
        clear hb
        generalize w7.alloc (.cells #[.slice none 0 0, .slice none 0 0, .int .i64 0, .int .i64 0, .int .i64 0] 50) = w8 at M O7 B10 ⊢
        refine hK.out _ _ ⟨LX.1 _ M.1.hb, (blk_cell M.1.b2 0).trans rfl, (blk_cell M.1.b2 1).trans rfl, (blk_cell M.1.b2 2).trans rfl⟩ (fun hHeld => ?_)
        clear hK K
        refine norm_ (a' := ?_) ?_ ?_
        rotate_left
        ·show Act.put _ (some 10) _ = _
         simp only [Act.put, ls_, l0_, l1_, i64_w, i32_w]
         rfl
        refine one_ (i := 9) (N := some 54) #[true, true, true, true, true, true, true, true, true, true, false, false, false, true, false, false] rfl rfl (by kernel_rfl) (by decide) (fun K hK => ?_)
        obtain ⟨A7, c7, e7, hr7⟩ := O7.1.reads
        subst e7
        refine goes_ Tryz.func81 (by kernel_rfl) rfl #[.agg #[.int .i64 next, .int .i64 limit, .int .i64 key], .slice A7 (s.W ++ [x]).length c7, .int .i64 rate] (by rfl) rfl rfl (by (try simp only [lm_, lc_, ln_]); first | done | rfl) ?_
        have hfc := HF.1 (s.W ++ [x]) A7 c7 rate _ hr7 (by have := HWL.1; rw [List.length_append, List.length_singleton]; omega)
        rw [FB0.1] at hfc
        refine hfc.mono ?_
        rintro e w9 ⟨v0n, v1n, rfl, h0, h1, hb⟩
        refine ⟨_, rfl, ?_⟩
        have H0n := Ak (Kd.R_lower h0 M.1.hb.size)
        have H1n := Ak (Kd.R_lower h1 M.1.hb.size)
        clear h0 h1 hr7 O7
        replace M := Ak (M.1.below hb)
        replace B10 := Ak (blk_below B10.1 hb)
        clear hb
        refine hK.out _ _ ⟨LX.1 _ M.1.hb, (blk_cell M.1.b2 0).trans rfl, (blk_cell M.1.b2 1).trans rfl, (blk_cell M.1.b2 2).trans rfl⟩ (fun hHeld => ?_)
        clear hK K
        refine norm_ (a' := ?_) ?_ ?_
        rotate_left
        ·show Act.put _ (some 54) _ = _
         simp only [Act.put, ls_, l0_, l1_, i64_w, i32_w]
         rfl
        refine pure_ (i := 10) (N := some 44) (v := ?_) (a' := ?_) #[true, true, true, true, true, true, true, true, true, true, true, false, false, true, false, false] rfl rfl (by kernel_rfl) (fun _ _ _ h => h) (Or.inl ⟨by rfl, ?_⟩) ?_ ?_
        rotate_left
        ·intro w'
         go_simp
         with_reducible rfl
        rotate_left
        ·simp only [Act.put, ls_, l0_, l1_, i64_w, i32_w]
         rfl
        refine pure_ (i := 11) (N := some 55) (v := ?_) (a' := ?_) #[true, true, true, true, true, true, true, true, true, true, true, true, false, true, false, false] rfl rfl (by kernel_rfl) (fun _ _ _ h => h) (Or.inl ⟨by rfl, ?_⟩) ?_ ?_
        rotate_left
        ·intro w'
         go_simp
         with_reducible rfl
        rotate_left
        ·simp only [Act.put, ls_, l0_, l1_, i64_w, i32_w]
         rfl
        refine pure_ (i := 12) (N := some 56) (v := ?_) (a' := ?_) #[true, true, true, true, true, true, true, true, true, true, true, true, true, true, false, false] rfl rfl (by kernel_rfl) (fun _ _ _ h => h) (Or.inl ⟨by rfl, ?_⟩) ?_ ?_
        rotate_left
        ·intro w'
         go_simp
         with_reducible rfl
        rotate_left
        ·simp only [Act.put, ls_, l0_, l1_, i64_w, i32_w]
         rfl
        exact norm_ (by simp only [putAll, Act.put, ls_, l0_, l1_] <;> rfl) (hCont (g6, g10, _, v0n, v1n) _ ⟨hHeld, M.1, B10.1, N10.1, G10.1, H0n.1, H1n.1⟩)
      ·skip
       obtain ⟨g10, hg10⟩ : ∃ g, w6.heap.size = g := ⟨_, rfl⟩
       refine value_ (w1 := w6.alloc (.cells #[.slice none 0 0, .slice none 0 0, .int .i64 0, .int .i64 0, .int .i64 0] 50)) (v := .pointer (some ⟨g10, 0, none⟩)) (by rfl) rfl ?_ ?_
       ·rw [← hg10]
        first | (go_simp; done) | (go_simp; rfl)
       have N10 := Ak (show g4 ≠ g10 by rw [← hg10]; exact Nat.ne_of_lt (blk_lt M.1.b4))
       have G10 := Ak (show w.heap.size ≤ g10 by rw [← hg10]; exact M.1.hb.size)
       have hb := below_alloc (Below.refl w6.heap.size w6) (.cells #[.slice none 0 0, .slice none 0 0, .int .i64 0, .int .i64 0, .int .i64 0] 50)
       have B10 := Ak (blk_new w6 (.cells #[.slice none 0 0, .slice none 0 0, .int .i64 0, .int .i64 0, .int .i64 0] 50))
       rw [hg10] at B10
       replace M := Ak (M.1.below hb)
       replace B6 := Ak (blk_below B6.1 hb)
       clear hb
       generalize w6.alloc (.cells #[.slice none 0 0, .slice none 0 0, .int .i64 0, .int .i64 0, .int .i64 0] 50) = w7 at M B6 B10 ⊢
       refine hK.out _ _ ⟨LX.1 _ M.1.hb, (blk_cell M.1.b2 0).trans rfl, (blk_cell M.1.b2 1).trans rfl, (blk_cell M.1.b2 2).trans rfl⟩ (fun hHeld => ?_)
       clear hK K
       refine norm_ (a' := ?_) ?_ ?_
       rotate_left
       ·show Act.put _ (some 10) _ = _
        simp only [Act.put, ls_, l0_, l1_, i64_w, i32_w]
        rfl
       refine one_ (i := 7) (N := some 52) #[true, true, true, true, true, true, true, true, true, false, false, false, false, true, false, false] rfl rfl (by kernel_rfl) (by decide) (fun K hK => ?_)
       obtain ⟨v52, w8, hr, ho, hgr, hat, h8n⟩ := M.1.h8.app HA.1 M.1.hb HP.1 (by have := HWL.1; omega) x 1 (show w7.heap[_]? = _ by rw [ECX.1]; exact B6.1) 25
       refine value_ (w1 := w8) (v := v52) (by rfl) rfl (run_app rfl rfl (by simp only [lm_, lc_, ln_]; rfl) hr) ?_
       have m_B10 := Ak (blk_grown B10.1 hgr (M.1.h8.ne_blk B10.1 (by decide)))
       have HAT := Ak (show ∀ k, v52.ownBlock = some k → some k ≠ v6.ownBlock from fun k hk e => by
        rcases hat k hk with h1 | h1
        ·exact M.1.ap k h1 e
        ·have := M.1.h6.lt k e.symm; omega)
       have m_M := Ak (M.1.app hgr h8n M.1.h8.base)
       have O7 := Ak ho
       clear M hr ho hgr hat h8n B10 B6
       have M := m_M
       have B10 := m_B10
       clear m_M m_B10
       refine hK.out _ _ ⟨LX.1 _ M.1.hb, (blk_cell M.1.b2 0).trans rfl, (blk_cell M.1.b2 1).trans rfl, (blk_cell M.1.b2 2).trans rfl⟩ (fun hHeld => ?_)
       clear hK K
       refine norm_ (a' := ?_) ?_ ?_
       rotate_left
       ·show Act.put _ (some 52) _ = _
        simp only [Act.put, ls_, l0_, l1_, i64_w, i32_w]
        rfl
       refine one_ (i := 9) (N := some 54) #[true, true, true, true, true, true, true, true, true, true, false, false, false, true, false, false] rfl rfl (by kernel_rfl) (by decide) (fun K hK => ?_)
       obtain ⟨A7, c7, e7, hr7⟩ := O7.1.reads
       subst e7
       refine goes_ Tryz.func81 (by kernel_rfl) rfl #[.agg #[.int .i64 next, .int .i64 limit, .int .i64 key], .slice A7 (s.W ++ [x]).length c7, .int .i64 rate] (by rfl) rfl rfl (by (try simp only [lm_, lc_, ln_]); first | done | rfl) ?_
       have hfc := HF.1 (s.W ++ [x]) A7 c7 rate _ hr7 (by have := HWL.1; rw [List.length_append, List.length_singleton]; omega)
       rw [FB0.1] at hfc
       refine hfc.mono ?_
       rintro e w9 ⟨v0n, v1n, rfl, h0, h1, hb⟩
       refine ⟨_, rfl, ?_⟩
       have H0n := Ak (Kd.R_lower h0 M.1.hb.size)
       have H1n := Ak (Kd.R_lower h1 M.1.hb.size)
       clear h0 h1 hr7 O7
       replace M := Ak (M.1.below hb)
       replace B10 := Ak (blk_below B10.1 hb)
       clear hb
       refine hK.out _ _ ⟨LX.1 _ M.1.hb, (blk_cell M.1.b2 0).trans rfl, (blk_cell M.1.b2 1).trans rfl, (blk_cell M.1.b2 2).trans rfl⟩ (fun hHeld => ?_)
       clear hK K
       refine norm_ (a' := ?_) ?_ ?_
       rotate_left
       ·show Act.put _ (some 54) _ = _
        simp only [Act.put, ls_, l0_, l1_, i64_w, i32_w]
        rfl
       refine pure_ (i := 10) (N := some 44) (v := ?_) (a' := ?_) #[true, true, true, true, true, true, true, true, true, true, true, false, false, true, false, false] rfl rfl (by kernel_rfl) (fun _ _ _ h => h) (Or.inl ⟨by rfl, ?_⟩) ?_ ?_
       rotate_left
       ·intro w'
        go_simp
        with_reducible rfl
       rotate_left
       ·simp only [Act.put, ls_, l0_, l1_, i64_w, i32_w]
        rfl
       refine pure_ (i := 11) (N := some 55) (v := ?_) (a' := ?_) #[true, true, true, true, true, true, true, true, true, true, true, true, false, true, false, false] rfl rfl (by kernel_rfl) (fun _ _ _ h => h) (Or.inl ⟨by rfl, ?_⟩) ?_ ?_
       rotate_left
       ·intro w'
        go_simp
        with_reducible rfl
       rotate_left
       ·simp only [Act.put, ls_, l0_, l1_, i64_w, i32_w]
        rfl
       refine pure_ (i := 12) (N := some 56) (v := ?_) (a' := ?_) #[true, true, true, true, true, true, true, true, true, true, true, true, true, true, false, false] rfl rfl (by kernel_rfl) (fun _ _ _ h => h) (Or.inl ⟨by rfl, ?_⟩) ?_ ?_
       rotate_left
       ·intro w'
        go_simp
        with_reducible rfl
       rotate_left
       ·simp only [Act.put, ls_, l0_, l1_, i64_w, i32_w]
        rfl
       exact norm_ (by simp only [putAll, Act.put, ls_, l0_, l1_] <;> rfl) (hCont (g6, g10, _, v0n, v1n) _ ⟨hHeld, M.1, B10.1, N10.1, G10.1, H0n.1, H1n.1⟩)
     ·skip
      obtain ⟨g10, hg10⟩ : ∃ g, w5.heap.size = g := ⟨_, rfl⟩
      refine value_ (w1 := w5.alloc (.cells #[.slice none 0 0, .slice none 0 0, .int .i64 0, .int .i64 0, .int .i64 0] 50)) (v := .pointer (some ⟨g10, 0, none⟩)) (by rfl) rfl ?_ ?_
      ·rw [← hg10]
       first | (go_simp; done) | (go_simp; rfl)
      have N10 := Ak (show g4 ≠ g10 by rw [← hg10]; exact Nat.ne_of_lt (blk_lt M.1.b4))
      have G10 := Ak (show w.heap.size ≤ g10 by rw [← hg10]; exact M.1.hb.size)
      have hb := below_alloc (Below.refl w5.heap.size w5) (.cells #[.slice none 0 0, .slice none 0 0, .int .i64 0, .int .i64 0, .int .i64 0] 50)
      have B10 := Ak (blk_new w5 (.cells #[.slice none 0 0, .slice none 0 0, .int .i64 0, .int .i64 0, .int .i64 0] 50))
      rw [hg10] at B10
      replace M := Ak (M.1.below hb)
      clear hb
      generalize w5.alloc (.cells #[.slice none 0 0, .slice none 0 0, .int .i64 0, .int .i64 0, .int .i64 0] 50) = w6 at M  B10 ⊢
      refine hK.out _ _ ⟨LX.1 _ M.1.hb, (blk_cell M.1.b2 0).trans rfl, (blk_cell M.1.b2 1).trans rfl, (blk_cell M.1.b2 2).trans rfl⟩ (fun hHeld => ?_)
      clear hK K
      refine norm_ (a' := ?_) ?_ ?_
      rotate_left
      ·show Act.put _ (some 10) _ = _
       simp only [Act.put, ls_, l0_, l1_, i64_w, i32_w]
       rfl
      refine one_ (i := 6) (N := some 51) #[true, true, true, true, true, true, true, false, true, false, false, false, false, true, false, false] rfl rfl (by kernel_rfl) (by decide) (fun K hK => ?_)
      obtain ⟨g6, hg6⟩ : ∃ g, w6.heap.size = g := ⟨_, rfl⟩
      refine value_ (w1 := w6.alloc (.cells cx.toArray 38)) (v := .slice (some ⟨g6, 0, none⟩) 1 1) (by rfl) rfl ?_ ?_
      ·clear LX CX ECX
       obtain ⟨q0, q1, q2, q3, q4, q5, q6, q7, q8, q9, q10, q11, q12, q13, q14, q15, q16, q17, q18, q19, q20, q21, q22, q23, q24, q25, q26, q27, q28, q29, q30, q31, q32, q33, q34, q35, q36, q37, q38, q39, q40, q41, q42, q43, rfl⟩ := list44 HXL.1
       rw [← hg6]
       first | (go_simp; done) | (go_simp; rfl)
      have hb := below_alloc (Below.refl w6.heap.size w6) (.cells cx.toArray 38)
      have B6 := Ak (blk_new w6 (.cells cx.toArray 38))
      rw [hg6] at B6
      replace M := Ak (M.1.below hb)
      replace B10 := Ak (blk_below B10.1 hb)
      clear hb
      generalize w6.alloc (.cells cx.toArray 38) = w7 at M B10 B6 ⊢
      refine hK.out _ _ ⟨LX.1 _ M.1.hb, (blk_cell M.1.b2 0).trans rfl, (blk_cell M.1.b2 1).trans rfl, (blk_cell M.1.b2 2).trans rfl⟩ (fun hHeld => ?_)
      clear hK K
      refine norm_ (a' := ?_) ?_ ?_
      rotate_left
      ·show Act.put _ (some 51) _ = _
       simp only [Act.put, ls_, l0_, l1_, i64_w, i32_w]
       rfl
      refine one_ (i := 7) (N := some 52) #[true, true, true, true, true, true, true, true, true, false, false, false, false, true, false, false] rfl rfl (by kernel_rfl) (by decide) (fun K hK => ?_)
      obtain ⟨v52, w8, hr, ho, hgr, hat, h8n⟩ := M.1.h8.app HA.1 M.1.hb HP.1 (by have := HWL.1; omega) x 1 (show w7.heap[_]? = _ by rw [ECX.1]; exact B6.1) 25
      refine value_ (w1 := w8) (v := v52) (by rfl) rfl (run_app rfl rfl (by simp only [lm_, lc_, ln_]; rfl) hr) ?_
      have m_B10 := Ak (blk_grown B10.1 hgr (M.1.h8.ne_blk B10.1 (by decide)))
      have HAT := Ak (show ∀ k, v52.ownBlock = some k → some k ≠ v6.ownBlock from fun k hk e => by
       rcases hat k hk with h1 | h1
       ·exact M.1.ap k h1 e
       ·have := M.1.h6.lt k e.symm; omega)
      have m_M := Ak (M.1.app hgr h8n M.1.h8.base)
      have O7 := Ak ho
      clear M hr ho hgr hat h8n B10 B6
      have M := m_M
      have B10 := m_B10
      clear m_M m_B10
      refine hK.out _ _ ⟨LX.1 _ M.1.hb, (blk_cell M.1.b2 0).trans rfl, (blk_cell M.1.b2 1).trans rfl, (blk_cell M.1.b2 2).trans rfl⟩ (fun hHeld => ?_)
      clear hK K
      refine norm_ (a' := ?_) ?_ ?_
      rotate_left
      ·show Act.put _ (some 52) _ = _
       simp only [Act.put, ls_, l0_, l1_, i64_w, i32_w]
       rfl
      refine one_ (i := 9) (N := some 54) #[true, true, true, true, true, true, true, true, true, true, false, false, false, true, false, false] rfl rfl (by kernel_rfl) (by decide) (fun K hK => ?_)
      obtain ⟨A7, c7, e7, hr7⟩ := O7.1.reads
      subst e7
      refine goes_ Tryz.func81 (by kernel_rfl) rfl #[.agg #[.int .i64 next, .int .i64 limit, .int .i64 key], .slice A7 (s.W ++ [x]).length c7, .int .i64 rate] (by rfl) rfl rfl (by (try simp only [lm_, lc_, ln_]); first | done | rfl) ?_
      have hfc := HF.1 (s.W ++ [x]) A7 c7 rate _ hr7 (by have := HWL.1; rw [List.length_append, List.length_singleton]; omega)
      rw [FB0.1] at hfc
      refine hfc.mono ?_
      rintro e w9 ⟨v0n, v1n, rfl, h0, h1, hb⟩
      refine ⟨_, rfl, ?_⟩
      have H0n := Ak (Kd.R_lower h0 M.1.hb.size)
      have H1n := Ak (Kd.R_lower h1 M.1.hb.size)
      clear h0 h1 hr7 O7
      replace M := Ak (M.1.below hb)
      replace B10 := Ak (blk_below B10.1 hb)
      clear hb
      refine hK.out _ _ ⟨LX.1 _ M.1.hb, (blk_cell M.1.b2 0).trans rfl, (blk_cell M.1.b2 1).trans rfl, (blk_cell M.1.b2 2).trans rfl⟩ (fun hHeld => ?_)
      clear hK K
      refine norm_ (a' := ?_) ?_ ?_
      rotate_left
      ·show Act.put _ (some 54) _ = _
       simp only [Act.put, ls_, l0_, l1_, i64_w, i32_w]
       rfl
      refine pure_ (i := 10) (N := some 44) (v := ?_) (a' := ?_) #[true, true, true, true, true, true, true, true, true, true, true, false, false, true, false, false] rfl rfl (by kernel_rfl) (fun _ _ _ h => h) (Or.inl ⟨by rfl, ?_⟩) ?_ ?_
      rotate_left
      ·intro w'
       go_simp
       with_reducible rfl
      rotate_left
      ·simp only [Act.put, ls_, l0_, l1_, i64_w, i32_w]
       rfl
      refine pure_ (i := 11) (N := some 55) (v := ?_) (a' := ?_) #[true, true, true, true, true, true, true, true, true, true, true, true, false, true, false, false] rfl rfl (by kernel_rfl) (fun _ _ _ h => h) (Or.inl ⟨by rfl, ?_⟩) ?_ ?_
      rotate_left
      ·intro w'
       go_simp
       with_reducible rfl
      rotate_left
      ·simp only [Act.put, ls_, l0_, l1_, i64_w, i32_w]
       rfl
      refine pure_ (i := 12) (N := some 56) (v := ?_) (a' := ?_) #[true, true, true, true, true, true, true, true, true, true, true, true, true, true, false, false] rfl rfl (by kernel_rfl) (fun _ _ _ h => h) (Or.inl ⟨by rfl, ?_⟩) ?_ ?_
      rotate_left
      ·intro w'
       go_simp
       with_reducible rfl
      rotate_left
      ·simp only [Act.put, ls_, l0_, l1_, i64_w, i32_w]
       rfl
      exact norm_ (by simp only [putAll, Act.put, ls_, l0_, l1_] <;> rfl) (hCont (g6, g10, _, v0n, v1n) _ ⟨hHeld, M.1, B10.1, N10.1, G10.1, H0n.1, H1n.1⟩)
    rintro ⟨g6, g10, v52, v0n, v1n⟩ w9 ⟨hHeld, m1_, m2_, m3_, m4_, m5_, m6_⟩
    clear M
    have M := Ak m1_
    have B10 := Ak m2_
    have N10 := Ak m3_
    have G10 := Ak m4_
    have H0n := Ak m5_
    have H1n := Ak m6_
    clear m1_ m2_ m3_ m4_ m5_ m6_
    dsimp only at B10 N10 G10 H0n H1n
    obtain ⟨A0n, c0n, e0n⟩ := Kd.R_slice H0n.1
    subst e0n
    obtain ⟨A1n, c1n, e1n⟩ := Kd.R_slice H1n.1
    subst e1n
    refine norm_ (a' := ?_) ?_ ?_
    rotate_left
    ·simp only [putAll, Act.put, ls_, l0_, l1_]
     rfl
    refine one_ (i := 14) (N := none) #[true, true, true, true, true, true, true, true, true, true, true, true, true, true, true, false] rfl rfl (by kernel_rfl) (by decide) (fun K hK => ?_)
    have q0 : w9.cell? ⟨g10, 0, none⟩ = some (.slice none 0 0) := (blk_cell B10.1 0).trans rfl
    have q1 : w9.cell? ⟨g10, 1, none⟩ = some (.slice none 0 0) := (blk_cell B10.1 1).trans rfl
    have q2 : w9.cell? ⟨g10, 2, none⟩ = some (.int .i64 0) := (blk_cell B10.1 2).trans rfl
    have q3 : w9.cell? ⟨g10, 3, none⟩ = some (.int .i64 0) := (blk_cell B10.1 3).trans rfl
    have q4 : w9.cell? ⟨g10, 4, none⟩ = some (.int .i64 0) := (blk_cell B10.1 4).trans rfl
    have f0 := blk_frozen B10.1 0
    have f1 := blk_frozen B10.1 1
    have f2 := blk_frozen B10.1 2
    have f3 := blk_frozen B10.1 3
    have f4 := blk_frozen B10.1 4
    refine skip_ (w1 := w9.setCells g10 0 [.slice A0n fb.ins.length c0n, .slice A1n fb.outs.length c1n, .int .i64 fb.lock, .int .i64 fb.fee, .int .i64 fb.rate]) (by rfl) rfl ?_ ?_
    ·first | (go_simp; done) | (go_simp; rfl)
    clear q0 q1 q2 q3 q4 f0 f1 f2 f3 f4
    have hgs : w9.grownBy (w9.setCells g10 0 [.slice A0n fb.ins.length c0n, .slice A1n fb.outs.length c1n, .int .i64 fb.lock, .int .i64 fb.fee, .int .i64 fb.rate]) (some g10) := grown_setCells g10 [.slice A0n fb.ins.length c0n, .slice A1n fb.outs.length c1n, .int .i64 fb.lock, .int .i64 fb.fee, .int .i64 fb.rate] 0 w9
    have hst := heap_setCells [.slice A0n fb.ins.length c0n, .slice A1n fb.outs.length c1n, .int .i64 fb.lock, .int .i64 fb.fee, .int .i64 fb.rate] 0 w9 [.slice none 0 0, .slice none 0 0, .int .i64 0, .int .i64 0, .int .i64 0] B10.1 (by simp)
    rw [show over [.slice none 0 0, .slice none 0 0, .int .i64 0, .int .i64 0, .int .i64 0] 0 [.slice A0n fb.ins.length c0n, .slice A1n fb.outs.length c1n, .int .i64 fb.lock, .int .i64 fb.fee, .int .i64 fb.rate] = [.slice A0n fb.ins.length c0n, .slice A1n fb.outs.length c1n, .int .i64 fb.lock, .int .i64 fb.fee, .int .i64 fb.rate] by simp [over]] at hst
    replace M := Ak (M.1.put B10.1 N10.1 G10.1 hgs)
    replace H0n := Ak (Kd.R_grown2 H0n.1 rfl hgs (fun k e => by cases e; exact Kd.R_ne H0n.1 B10.1 (by decide)))
    replace H1n := Ak (Kd.R_grown2 H1n.1 rfl hgs (fun k e => by cases e; exact Kd.R_ne H1n.1 B10.1 (by decide)))
    replace B10 := Ak hst
    clear hgs hst hHeld
    generalize w9.setCells g10 0 [.slice A0n fb.ins.length c0n, .slice A1n fb.outs.length c1n, .int .i64 fb.lock, .int .i64 fb.fee, .int .i64 fb.rate] = w10 at *
    refine hK.out _ _ ⟨LX.1 _ M.1.hb, (blk_cell M.1.b2 0).trans rfl, (blk_cell M.1.b2 1).trans rfl, (blk_cell M.1.b2 2).trans rfl⟩ (fun hHeld => ?_)
    clear hK K
    refine pure_ (i := 15) (N := some 11) (v := ?_) (a' := ?_) #[true, true, true, true, true, true, true, true, true, true, true, true, true, true, true, true] rfl rfl (by kernel_rfl) (fun _ _ _ h => h) (Or.inl ⟨by rfl, ?_⟩) ?_ ?_
    rotate_left
    ·intro w'
     go_simp
     with_reducible rfl
    rotate_left
    ·simp only [Act.put, ls_, l0_, l1_, i64_w, i32_w]
     rfl
    refine done_ (by kernel_rfl) ?_
    clear hHeld
    cases fs with
    | true =>
     go_wp2_with fail
     replace M := Ak M.1.drew
     replace B10 := Ak (blk_drew B10.1)
     replace H0n := Ak (Kd.R_drew H0n.1)
     replace H1n := Ak (Kd.R_drew H1n.1)
     refine start_ (n := 11) (S := (fun w' => Sem.run Tryz.prog (Wide.heavy0 (ad.add (i * 44)) 44) w' = .ok cx.toArray w' ∧ w'.cell? ⟨g10, 0, none⟩ = some (.slice A0n fb.ins.length c0n) ∧ w'.cell? ⟨g10, 1, none⟩ = some (.slice A1n fb.outs.length c1n) ∧ w'.cell? ⟨g10, 2, none⟩ = some (.int .i64 fb.lock) ∧ w'.cell? ⟨g10, 3, none⟩ = some (.int .i64 fb.fee) ∧ w'.cell? ⟨g10, 4, none⟩ = some (.int .i64 fb.rate))) (ds := []) #[false, false, false, false, false, false, false, false, false, false, false] (by kernel_rfl) rfl rfl ⟨LX.1 _ M.1.hb, (blk_cell B10.1 0).trans rfl, (blk_cell B10.1 1).trans rfl, (blk_cell B10.1 2).trans rfl, (blk_cell B10.1 3).trans rfl, (blk_cell B10.1 4).trans rfl⟩ (fun hHeld => ?_)
     generalize w10.drew = w11 at M B10 H0n H1n hHeld ⊢
     refine take_ (i := 0) (N := some 58) (v := ?_) (a' := ?_) #[true, false, false, false, false, false, false, false, false, false, false] rfl rfl (by kernel_rfl) (fun _ _ _ h => h) (Or.inl ⟨by rfl, ?_⟩) hHeld ?_ ?_
     rotate_left
     ·rintro w' ⟨hl0, hc0, hc1, hc2, hc3, hc4⟩
      go_simp
      with_reducible rfl
     rotate_left
     ·simp only [Act.put, ls_, l0_, l1_, i64_w, i32_w]
      rfl
     refine pure_ (i := 1) (N := some 59) (v := ?_) (a' := ?_) #[true, true, false, false, false, false, false, false, false, false, false] rfl rfl (by kernel_rfl) (fun _ _ _ h => h) (Or.inl ⟨by rfl, ?_⟩) ?_ ?_
     rotate_left
     ·intro w'
      go_simp
      with_reducible rfl
     rotate_left
     ·simp only [Act.put, ls_, l0_, l1_, i64_w, i32_w]
      rfl
     refine pure_ (i := 2) (N := some 60) (v := ?_) (a' := ?_) #[true, true, true, false, false, false, false, false, false, false, false] rfl rfl (by kernel_rfl) (fun _ _ _ h => h) (Or.inl ⟨by rfl, ?_⟩) ?_ ?_
     rotate_left
     ·intro w'
      go_simp
      with_reducible rfl
     rotate_left
     ·simp only [Act.put, ls_, l0_, l1_, i64_w, i32_w]
      rfl
     refine pure_ (i := 3) (N := some 61) (v := ?_) (a' := ?_) #[true, true, true, true, false, false, false, false, false, false, false] rfl rfl (by kernel_rfl) (fun _ _ _ h => h) (Or.inl ⟨by rfl, ?_⟩) ?_ ?_
     rotate_left
     ·intro w'
      go_simp
      with_reducible rfl
     rotate_left
     ·simp only [Act.put, ls_, l0_, l1_, i64_w, i32_w]
      rfl
     refine pure_ (i := 4) (N := some 62) (v := ?_) (a' := ?_) #[true, true, true, true, true, false, false, false, false, false, false] rfl rfl (by kernel_rfl) (fun _ _ _ h => h) (Or.inl ⟨by rfl, ?_⟩) ?_ ?_
     rotate_left
     ·intro w'
      go_simp
      with_reducible rfl
     rotate_left
     ·simp only [Act.put, ls_, l0_, l1_, i64_w, i32_w]
      rfl
     refine take_ (i := 5) (N := some 63) (v := ?_) (a' := ?_) #[true, true, true, true, true, true, false, false, false, false, false] rfl rfl (by kernel_rfl) (fun _ _ _ h => h) (Or.inl ⟨by rfl, ?_⟩) hHeld ?_ ?_
     rotate_left
     ·rintro w' ⟨hl0, hc0, hc1, hc2, hc3, hc4⟩
      go_simp
      with_reducible rfl
     rotate_left
     ·simp only [Act.put, ls_, l0_, l1_, i64_w, i32_w]
      rfl
     refine one_ (i := 6) (N := some 64) #[true, true, true, true, true, true, true, false, false, false, false] rfl rfl (by kernel_rfl) (by decide) (fun K hK => ?_)
     obtain ⟨g16, hg16⟩ : ∃ g, w11.heap.size = g := ⟨_, rfl⟩
     refine value_ (w1 := w11.alloc (.cells cx.toArray 38)) (v := .slice (some ⟨g16, 0, none⟩) 1 1) (by rfl) rfl ?_ ?_
     ·clear LX CX ECX
      obtain ⟨q0, q1, q2, q3, q4, q5, q6, q7, q8, q9, q10, q11, q12, q13, q14, q15, q16, q17, q18, q19, q20, q21, q22, q23, q24, q25, q26, q27, q28, q29, q30, q31, q32, q33, q34, q35, q36, q37, q38, q39, q40, q41, q42, q43, rfl⟩ := list44 HXL.1
      rw [← hg16]
      first | (go_simp; done) | (go_simp; rfl)
     have hb := below_alloc (Below.refl w11.heap.size w11) (.cells cx.toArray 38)
     have B6 := Ak (blk_new w11 (.cells cx.toArray 38))
     rw [hg16] at B6
     replace M := Ak (M.1.below hb)
     replace B10 := Ak (blk_below B10.1 hb)
     replace H0n := Ak (Kd.R_below H0n.1 hb)
     replace H1n := Ak (Kd.R_below H1n.1 hb)
     clear hb
     generalize w11.alloc (.cells cx.toArray 38) = w12 at M B10 H0n H1n B6 ⊢
     refine hK.out _ _ ⟨LX.1 _ M.1.hb, (blk_cell B10.1 0).trans rfl, (blk_cell B10.1 1).trans rfl, (blk_cell B10.1 2).trans rfl, (blk_cell B10.1 3).trans rfl, (blk_cell B10.1 4).trans rfl⟩ (fun hHeld => ?_)
     clear hK K
     refine norm_ (a' := ?_) ?_ ?_
     rotate_left
     ·show Act.put _ (some 64) _ = _
      simp only [Act.put, ls_, l0_, l1_, i64_w, i32_w]
      rfl
     refine one_ (i := 7) (N := some 65) #[true, true, true, true, true, true, true, true, false, false, false] rfl rfl (by kernel_rfl) (by decide) (fun K hK => ?_)
     obtain ⟨v65, w13, hr, ho, hgr, hat, h8n⟩ := M.1.h8.app HA.1 M.1.hb HP.1 (by have := HWL.1; omega) x 1 (show w12.heap[_]? = _ by rw [ECX.1]; exact B6.1) 25
     refine value_ (w1 := w13) (v := v65) (by rfl) rfl (run_app rfl rfl (by simp only [lm_, lc_, ln_]; rfl) hr) ?_
     have m_B10 := Ak (blk_grown B10.1 hgr (M.1.h8.ne_blk B10.1 (by decide)))
     have HAT := Ak (show ∀ k, v65.ownBlock = some k → some k ≠ v6.ownBlock from fun k hk e => by
      rcases hat k hk with h1 | h1
      ·exact M.1.ap k h1 e
      ·have := M.1.h6.lt k e.symm; omega)
     replace H0n := Ak (Kd.R_grown2 H0n.1 rfl hgr (M.1.h8.ne_row H0n.1 (by decide)))
     replace H1n := Ak (Kd.R_grown2 H1n.1 rfl hgr (M.1.h8.ne_row H1n.1 (by decide)))
     have m_M := Ak (M.1.app hgr h8n M.1.h8.base)
     have O7 := Ak ho
     clear M hr ho hgr hat h8n B10 B6
     have M := m_M
     have B10 := m_B10
     clear m_M m_B10
     refine hK.out _ _ ⟨LX.1 _ M.1.hb, (blk_cell B10.1 0).trans rfl, (blk_cell B10.1 1).trans rfl, (blk_cell B10.1 2).trans rfl, (blk_cell B10.1 3).trans rfl, (blk_cell B10.1 4).trans rfl⟩ (fun hHeld => ?_)
     clear hK K
     refine norm_ (a' := ?_) ?_ ?_
     rotate_left
     ·show Act.put _ (some 65) _ = _
      simp only [Act.put, ls_, l0_, l1_, i64_w, i32_w]
      rfl
     refine one_ (i := 8) (N := none) #[true, true, true, true, true, true, true, true, true, false, false] rfl rfl (by kernel_rfl) (by decide) (fun K hK => ?_)
     have M4 := Ak (show w.heap.size ≤ g4 from GG4.out)
     have q0 : w13.cell? ⟨g4, 0, none⟩ = some (.slice A0 s.b.ins.length c0) := (blk_cell M.1.b4 0).trans rfl
     have q1 : w13.cell? ⟨g4, 1, none⟩ = some (.slice A1 s.b.outs.length c1) := (blk_cell M.1.b4 1).trans rfl
     have q2 : w13.cell? ⟨g4, 2, none⟩ = some (.int .i64 s.b.lock) := (blk_cell M.1.b4 2).trans rfl
     have q3 : w13.cell? ⟨g4, 3, none⟩ = some (.int .i64 s.b.fee) := (blk_cell M.1.b4 3).trans rfl
     have q4 : w13.cell? ⟨g4, 4, none⟩ = some (.int .i64 s.b.rate) := (blk_cell M.1.b4 4).trans rfl
     have f0 := blk_frozen M.1.b4 0
     have f1 := blk_frozen M.1.b4 1
     have f2 := blk_frozen M.1.b4 2
     have f3 := blk_frozen M.1.b4 3
     have f4 := blk_frozen M.1.b4 4
     refine skip_ (w1 := w13.setCells g4 0 [.slice A0n fb.ins.length c0n, .slice A1n fb.outs.length c1n, .int .i64 fb.lock, .int .i64 fb.fee, .int .i64 fb.rate]) (by rfl) rfl ?_ ?_
     ·first | (go_simp; done) | (go_simp; rfl)
     clear q0 q1 q2 q3 q4 f0 f1 f2 f3 f4
     have hgs : w13.grownBy (w13.setCells g4 0 [.slice A0n fb.ins.length c0n, .slice A1n fb.outs.length c1n, .int .i64 fb.lock, .int .i64 fb.fee, .int .i64 fb.rate]) (some g4) := grown_setCells g4 [.slice A0n fb.ins.length c0n, .slice A1n fb.outs.length c1n, .int .i64 fb.lock, .int .i64 fb.fee, .int .i64 fb.rate] 0 w13
     have hst := heap_setCells [.slice A0n fb.ins.length c0n, .slice A1n fb.outs.length c1n, .int .i64 fb.lock, .int .i64 fb.fee, .int .i64 fb.rate] 0 w13 [.slice A0 s.b.ins.length c0, .slice A1 s.b.outs.length c1, .int .i64 s.b.lock, .int .i64 s.b.fee, .int .i64 s.b.rate] M.1.b4 (by simp)
     rw [show over [.slice A0 s.b.ins.length c0, .slice A1 s.b.outs.length c1, .int .i64 s.b.lock, .int .i64 s.b.fee, .int .i64 s.b.rate] 0 [.slice A0n fb.ins.length c0n, .slice A1n fb.outs.length c1n, .int .i64 fb.lock, .int .i64 fb.fee, .int .i64 fb.rate] = [.slice A0n fb.ins.length c0n, .slice A1n fb.outs.length c1n, .int .i64 fb.lock, .int .i64 fb.fee, .int .i64 fb.rate] by simp [over]] at hst
     have m_B10 := Ak (blk_grown B10.1 hgs (by simpa using Ne.symm N10.1))
     have m_M := Ak (M.1.took hst hgs M4.1 O7.1 HAT.1 H0n.1 H1n.1)
     have MHB := Ak m_M.1.hb
     clear M H0n H1n B10 hgs hst hHeld O7 HAT
     have M := m_M
     have B10 := m_B10
     clear m_M m_B10
     generalize w13.setCells g4 0 [.slice A0n fb.ins.length c0n, .slice A1n fb.outs.length c1n, .int .i64 fb.lock, .int .i64 fb.fee, .int .i64 fb.rate] = w14 at *
     refine hK.out _ _ ⟨LX.1 _ MHB.1, (blk_cell B10.1 0).trans rfl, (blk_cell B10.1 1).trans rfl, (blk_cell B10.1 2).trans rfl, (blk_cell B10.1 3).trans rfl, (blk_cell B10.1 4).trans rfl⟩ (fun hHeld => ?_)
     clear hK K
     refine pure_ (i := 9) (N := some 5) (v := ?_) (a' := ?_) #[true, true, true, true, true, true, true, true, true, true, false] rfl rfl (by kernel_rfl) (fun _ _ _ h => h) (Or.inl ⟨by rfl, ?_⟩) ?_ ?_
     rotate_left
     ·intro w'
      go_simp
      with_reducible rfl
     rotate_left
     ·simp only [Act.put, ls_, l0_, l1_, i64_w, i32_w]
      rfl
     refine pure_ (i := 10) (N := some 8) (v := ?_) (a' := ?_) #[true, true, true, true, true, true, true, true, true, true, true] rfl rfl (by kernel_rfl) (fun _ _ _ h => h) (Or.inl ⟨by rfl, ?_⟩) ?_ ?_
     rotate_left
     ·intro w'
      go_simp
      with_reducible rfl
     rotate_left
     ·simp only [Act.put, ls_, l0_, l1_, i64_w, i32_w]
      rfl
     refine done_ (by kernel_rfl) ?_
     clear hHeld
     go_wp2
     go_step3
     simp only [Exit.then, Exit.jump]
     exact ⟨rfl, ⟨i + 1, ⟨s.W ++ [x], s.L, fb, true⟩, v6, v65, _, _, v65.ownBlock, _, _, _, _, _, _, _, _, _, _, _, _, _, _, _, _, _, _, _, _, _, _, _, _, _, _, _, _, _, _, _, _, _, _, _, _, _, _, _, _, _, _, _, _, _, _, _, _, _, _, _, _, _, _, _, _, _, _, _, _, _, _, _, _, _, _, _, _, rfl, by rw [ST.1]; unfold oneStep; rw [GT.1, FB.1]; rfl, by omega, by omega, M.1⟩, by simp only [atOf]; show l.length - (i + 1) < l.length - i; omega⟩
    | false =>
     have hl12 : Sem.run Tryz.prog (Wide.heavy0 (ad.add (i * 44)) 44) w10 = .ok cx.toArray w10 := LX.1 _ M.1.hb
     go_wp2_with (first | ((with_reducible refine gate_dst (N := 73) rfl ?_); refine Kd.event_run (v := .slice (some ⟨w10.heap.size, 0, none⟩) 1 1) (w1 := w10.alloc (.cells cx.toArray 38)) ?hg ?hr ?_; (case hg => rfl); (case hr => clear LX CX ECX hl12; obtain ⟨q0, q1, q2, q3, q4, q5, q6, q7, q8, q9, q10, q11, q12, q13, q14, q15, q16, q17, q18, q19, q20, q21, q22, q23, q24, q25, q26, q27, q28, q29, q30, q31, q32, q33, q34, q35, q36, q37, q38, q39, q40, q41, q42, q43, rfl⟩ := list44 HXL.1; first | (go_simp; done) | (go_simp; rfl))) | ((with_reducible refine gate_dst (N := 74) rfl ?_); obtain ⟨vL, wL, hr, ho, hgr, hat, _⟩ := app_own (M.1.below (below_alloc (Below.refl _ _) (.cells cx.toArray 38))).h6 (M.1.below (below_alloc (Below.refl _ _) (.cells cx.toArray 38))).hb.size (by have := HWL.1; omega) x 1 (show (w10.alloc (.cells cx.toArray 38)).heap[w10.heap.size]? = _ by rw [ECX.1]; exact blk_new _ _) 25; refine Kd.event_run (v := vL) (w1 := wL) ?hg2 ?hr2 ?_; (case hg2 => rfl); (case hr2 => exact run_app rfl rfl (by simp only [lm_, lc_, ln_]; rfl) hr); replace M := Ak ((M.1.below (below_alloc (Below.refl _ _) (.cells cx.toArray 38))).left hgr ho hat); clear hr ho hgr hat hl12))
     go_step3
     try simp only [Exit.then, Exit.jump]
     exact ⟨rfl, ⟨i + 1, ⟨s.W, s.L ++ [x], s.b, s.ok⟩, vL, _, _, _, b8, _, _, _, _, _, _, _, _, _, _, _, _, _, _, _, _, _, _, _, _, _, _, _, _, _, _, _, _, _, _, _, _, _, _, _, _, _, _, _, _, _, _, _, _, _, _, _, _, _, _, _, _, _, _, _, _, _, _, _, _, _, _, _, _, _, _, _, _, rfl, by rw [ST.1]; unfold oneStep; rw [GT.1, FB.1]; rfl, by omega, by omega, M.1⟩, by simp only [atOf]; show l.length - (i + 1) < l.length - i; omega⟩
   ·have g1 := eq_false hge
    first | rw [decide_eq_false hge] | simp only [g1, decide_false]
    have GT := Ak (show ge x = false by rw [GX.1]; exact decide_eq_false hge)
    clear hge
    have hl12 : Sem.run Tryz.prog (Wide.heavy0 (ad.add (i * 44)) 44) w4 = .ok cx.toArray w4 := LX.1 _ M.1.hb
    go_wp2_with (first | ((with_reducible refine gate_dst (N := 73) rfl ?_); refine Kd.event_run (v := .slice (some ⟨w4.heap.size, 0, none⟩) 1 1) (w1 := w4.alloc (.cells cx.toArray 38)) ?hg ?hr ?_; (case hg => rfl); (case hr => clear LX CX ECX hl12; obtain ⟨q0, q1, q2, q3, q4, q5, q6, q7, q8, q9, q10, q11, q12, q13, q14, q15, q16, q17, q18, q19, q20, q21, q22, q23, q24, q25, q26, q27, q28, q29, q30, q31, q32, q33, q34, q35, q36, q37, q38, q39, q40, q41, q42, q43, rfl⟩ := list44 HXL.1; first | (go_simp; done) | (go_simp; rfl))) | ((with_reducible refine gate_dst (N := 74) rfl ?_); obtain ⟨vL, wL, hr, ho, hgr, hat, _⟩ := app_own (M.1.below (below_alloc (Below.refl _ _) (.cells cx.toArray 38))).h6 (M.1.below (below_alloc (Below.refl _ _) (.cells cx.toArray 38))).hb.size (by have := HWL.1; omega) x 1 (show (w4.alloc (.cells cx.toArray 38)).heap[w4.heap.size]? = _ by rw [ECX.1]; exact blk_new _ _) 25; refine Kd.event_run (v := vL) (w1 := wL) ?hg2 ?hr2 ?_; (case hg2 => rfl); (case hr2 => exact run_app rfl rfl (by simp only [lm_, lc_, ln_]; rfl) hr); replace M := Ak ((M.1.below (below_alloc (Below.refl _ _) (.cells cx.toArray 38))).left hgr ho hat); clear hr ho hgr hat hl12))
    go_step3
    try simp only [Exit.then, Exit.jump]
    exact ⟨rfl, ⟨i + 1, ⟨s.W, s.L ++ [x], s.b, s.ok⟩, vL, _, _, _, b8, _, _, _, _, _, _, _, _, _, _, _, _, _, _, _, _, _, _, _, _, _, _, _, _, _, _, _, _, _, _, _, _, _, _, _, _, _, _, _, _, _, _, _, _, _, _, _, _, _, _, _, _, _, _, _, _, _, _, _, _, _, _, _, _, _, _, _, _, rfl, by rw [ST.1]; unfold oneStep; rw [GT.1]; rfl, by omega, by omega, M.1⟩, by simp only [atOf]; show l.length - (i + 1) < l.length - i; omega⟩
  ·obtain rfl : i = l.length := by omega
   have heq : ((l.length : Int) == (l.length : Int)) = true := by simp
   have c0_ : wr.cell? ⟨g4, 0, none⟩ = some (.slice A0 s.b.ins.length c0) := (blk_cell M.1.b4 0).trans rfl
   have c1_ : wr.cell? ⟨g4, 1, none⟩ = some (.slice A1 s.b.outs.length c1) := (blk_cell M.1.b4 1).trans rfl
   have c2_ : wr.cell? ⟨g4, 2, none⟩ = some (.int .i64 s.b.lock) := (blk_cell M.1.b4 2).trans rfl
   have c3_ : wr.cell? ⟨g4, 3, none⟩ = some (.int .i64 s.b.fee) := (blk_cell M.1.b4 3).trans rfl
   have c4_ : wr.cell? ⟨g4, 4, none⟩ = some (.int .i64 s.b.rate) := (blk_cell M.1.b4 4).trans rfl
   go_wp2_with (first | ((with_reducible refine gate_store (t := 50) (p := 4) rfl ?_); refine PutW.store_event ?b1 ?b2 50 (.tmp 4) (.tmp 31) ?b3 (g := g4) (t := 50) (cells := #[.slice A0 s.b.ins.length c0, .slice A1 s.b.outs.length c1, .int .i64 s.b.lock, .int .i64 s.b.fee, .int .i64 s.b.rate]) ?a1 ?a2 M.1.b4 ?a3 ?a4 ?a5 ?_; (case b1 => rfl); (case b2 => rfl); (case b3 => rfl); (case a1 => first | rfl | (go_simp; done)); (case a2 => first | rfl | (go_simp; done)); (case a3 => rfl); (case a4 => kernel_rfl); (case a5 => first | rfl | kernel_rfl | (simp [Value.oneCell']; done)); intro w6 hz3 hs3 hg3; replace M := Ak (M.1.same hz3 hg3 GG4.out); clear hz3 hs3 hg3 c0_ c1_ c2_ c3_ c4_))
   simp only [Exit.then, Exit.jump]
   refine bodyPost_ret (results_ctt rfl _ _ g4 50 #[.slice A0 s.b.ins.length c0, .slice A1 s.b.outs.length c1, .int .i64 s.b.lock, .int .i64 s.b.fee, .int .i64 s.b.rate] (0, 0) _ rfl M.1.b4 Tryz.underlying50 rfl (by kernel_rfl)) rfl ?_
   rw [← HS.1]
   exact ⟨_, _, _, rfl, M.1.h0, M.1.h1, M.1.h6, M.1.hb⟩
end Go.Proofs.YtiodebjjbgcbhaaGreat.Inp
