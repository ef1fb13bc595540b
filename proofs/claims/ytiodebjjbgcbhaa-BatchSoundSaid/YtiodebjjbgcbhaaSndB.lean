/- coraclelaw17.BatchSound answers true: the walk. Written by tools/bat/mkSndB.py. -/
import Derived.Test.YtiodebjjbgcbhaaSndA
import Derived.Test.YtiodebjjbgcbhaaInpV
import Derived.Lib.QuietBelow
import Derived.Deep.LoopGhost
namespace Go.Proofs.Ytiodebjjbgcbhaa.Snd
open Go.RowKit Go.Sort Go.Lib Go.Shelf Go.Proofs.Ytiodebjjbgcbhaa Go.Proofs.Ytiodebjjbgcbhaa.Pure Go.Proofs.Ytiodebjjbgcbhaa.Inp Go.Proofs.Ytiodebjjbgcbhaa.Hand Go.Proofs.YtiodebjjbgcbhaaW.PrintWords Go.Proofs.YtiodebjjbgcbhaaW.PrintLast Go.Proofs.YtiodebjjbgcbhaaW.PrintMore Go.Proofs.Ytiodebjjbgcbhaa.RowK Go.Proofs.Ytiodebjjbgcbhaa.Fill Go.Proofs.Ytiodebjjbgcbhaa.OrdO Go.Proofs.Ytiodebjjbgcbhaa.QLef Go.Proofs.Ytiodebjjbgcbhaa.LefL
attribute [local go_sem ↓ high] Wide.hv44 Wide.hv33 Wide.hv37 Wide.hv38
set_option linter.unusedVariables false
set_option linter.unusedSectionVars false
set_option linter.unusedSimpArgs false
/-- Is an input used by those? -/
def usedB (l : List S68) (S : List S90) (j : Nat) : Bool := match l[j]? with
 | some x => (S.map ptK).contains (ptK (to90 x))
 | none => false
def usedL (l : List S68) (S : List S90) : List Value := (List.range 40).map fun j => .bool (usedB l S j)
theorem used_nil (l : List S68) : usedL l [] = List.replicate 40 (.bool false) := by
 unfold usedL
 have : ∀ j, usedB l [] j = false := fun j => by unfold usedB; cases l[j]? <;> rfl
 simp only [this]
 rfl
theorem used_len (l : List S68) (S : List S90) : (usedL l S).length = 40 := by simp [usedL]
theorem used_at (l : List S68) (S : List S90) (j : Nat) (hj : j < 40) : (usedL l S)[j]? = some (.bool (usedB l S j)) := by
 unfold usedL
 rw [List.getElem?_map, List.getElem?_range hj]
 rfl
theorem pt_ne {l : List S68} (hnd : ((l.map to90).map ptK).Nodup) {a j : Nat} (ha : a < l.length) (hj : j < l.length) (hne : j ≠ a) : ptK (to90 l[j]) ≠ ptK (to90 l[a]) := by
 have key : ∀ (i k : Nat) (hi : i < l.length) (hk : k < l.length), i < k → ptK (to90 l[i]) ≠ ptK (to90 l[k]) := fun i k hi hk hik => by
  have h := List.pairwise_iff_getElem.1 hnd i k (by simpa using hi) (by simpa using hk) hik
  simpa using h
 rcases Nat.lt_or_gt_of_ne hne with h | h
 ·exact key j a hj ha h
 ·exact fun e => key a j ha hj h e.symm
theorem used_put {l : List S68} (hnd : ((l.map to90).map ptK).Nodup) (S : List S90) (y : S90) (a : Nat) (ha : a < l.length) (e : to90 l[a] = y) : (usedL l S).set a (.bool true) = usedL l (S ++ [y]) := by
 apply List.ext_getElem?
 intro j
 rw [List.getElem?_set]
 by_cases hj : j < 40
 ·rw [used_at l S j hj, used_at l (S ++ [y]) j hj]
  by_cases hja : a = j
  ·subst hja
   rw [if_pos rfl, used_len, if_pos hj]
   congr 2
   unfold usedB
   rw [List.getElem?_eq_getElem ha]
   simp only []
   rw [e, List.map_append]
   simp
  ·rw [if_neg hja]
   congr 2
   unfold usedB
   by_cases hl : j < l.length
   ·rw [List.getElem?_eq_getElem hl]
    simp only []
    have hne : ptK (to90 l[j]) ≠ ptK y := by rw [← e]; exact pt_ne hnd ha hl (Ne.symm hja)
    rw [List.map_append, List.contains_eq_any_beq, List.contains_eq_any_beq, List.any_append]
    have : (List.map ptK [y]).any (fun x => ptK (to90 l[j]) == x) = false := by simpa using hne
    rw [this, Bool.or_false]
   ·rw [List.getElem?_eq_none (by omega)]
 ·rw [List.getElem?_eq_none (by rw [used_len]; omega), List.getElem?_eq_none (by rw [used_len]; omega)]
  by_cases hja : a = j
  ·subst hja; rw [if_pos rfl, used_len, if_neg hj]
  ·rw [if_neg hja]
theorem used_no {l : List S68} {S : List S90} {a : Nat} (ha : a < l.length) (h : ∀ y ∈ S, ptK y ≠ ptK (to90 l[a])) : usedB l S a = false := by
 unfold usedB
 rw [List.getElem?_eq_getElem ha]
 simp only []
 rw [Bool.eq_false_iff]
 intro h2
 rw [List.contains_iff_mem] at h2
 obtain ⟨y, hy, e⟩ := List.mem_map.1 h2
 exact h y hy e
theorem pt_other {l : List S68} (hnd : ((l.map to90).map ptK).Nodup) {a j : Nat} (ha : a < l.length) (hj : j < l.length) (hne : j ≠ a) : oeq l[j].f0 l[a].f0 = false := by
 rw [Bool.eq_false_iff]
 intro h
 exact pt_ne hnd ha hj hne ((ptK_iff _ _).2 ((oeq_iff _ _).1 h))
theorem eqPt (d : Nat) (w : World) (x y : S34) : (Op.equalIn (d + 3) 34 (.agg (encPt x).toArray) (.agg (encPt y).toArray)).run Try.prog w = .ok (oeq x y) w :=
 EqP.eqA34 d w _ _ _ _ _ _ _ _ _ _ _ _ _ _ _ _ _ _ _ _ _ _ _ _ _ _ _ _ _ _ _ _ _ _ _ _ _ _ _ _ _ _ _ _ _ _ _ _ _ _ _ _ _ _ _ _ _ _ _ _ _ _ _ _ _ _
theorem reads_pre {α : Type} {enc : α → List Value} {kk m : Nat} (hk : ∀ x, (enc x).length = kk) (hm : m ≤ kk) {w W : World} {A : Option Addr} {n : Nat} {l : List α} (hA : ReadsRow (fun x c => c = enc x) kk w A n l) (hb : Below w.heap.size w W) {ad : Addr} (e : A = some ad) {j : Nat} {x : α} (hx : l[j]? = some x) (h0 : 0 < n) : Sem.run Try.prog (Wide.heavy0 (ad.add (j * kk)) m) W = .ok ((enc x).take m).toArray W := by
 obtain ⟨ad', e', hcc⟩ := hA.2.2 h0
 have e2 : ad = ad' := Option.some.inj (e.symm.trans e')
 subst e2
 exact run_loadCellsFrom_list Try.prog _ _ ((enc x).take m) m (by rw [List.length_take, hk]; omega) (fun i v hi => by
  obtain ⟨c, _, rfl, h3⟩ := hcc j _ hx
  have hi' : i < m := by have := (List.getElem?_eq_some_iff.1 hi).1; rw [List.length_take] at this; omega
  rw [List.getElem?_take_of_lt hi'] at hi
  have h4 := h3 i v hi
  rw [Addr.add_add]
  exact (hb.cell (World.block_lt_of_cell? w _ h4)).trans h4)
theorem row_cell {α : Type} {enc : α → List Value} {kk : Nat} {w W : World} {A : Option Addr} {n : Nat} {l : List α} (hA : ReadsRow (fun x c => c = enc x) kk w A n l) (hb : Below w.heap.size w W) {ad : Addr} (e : A = some ad) {j : Nat} {x : α} (hx : l[j]? = some x) (h0 : 0 < n) (i : Nat) (hi : 0 < i) (u : Value) (hu : (enc x)[i]? = some u) : W.cell? ⟨(ad.add (j * kk)).block, (ad.add (j * kk)).off + i, none⟩ = some u := by
 obtain ⟨ad', e', hcc⟩ := hA.2.2 h0
 have e2 : ad = ad' := Option.some.inj (e.symm.trans e')
 subst e2
 obtain ⟨c, _, rfl, h3⟩ := hcc j _ hx
 have h4 := h3 i u hu
 rw [← add_field ad (j * kk) i hi]
 exact (hb.cell (World.block_lt_of_cell? w _ h4)).trans h4
theorem eqSc (d : Nat) (w : World) (key : Int) : (Op.equalIn (d + 3) 62 (.agg #[.int .i64 1, .int .i64 key, .int .i64 0, .int .i64 0, .int .i64 0, .int .i64 0, .int .u8 0, .int .u8 0, .int .u8 0, .int .u8 0, .int .u8 0, .int .u8 0, .int .u8 0, .int .u8 0, .int .u8 0, .int .u8 0, .int .u8 0, .int .u8 0, .int .u8 0, .int .u8 0, .int .u8 0, .int .u8 0, .int .u8 0, .int .u8 0, .int .u8 0, .int .u8 0, .int .u8 0, .int .u8 0, .int .u8 0, .int .u8 0, .int .u8 0, .int .u8 0, .int .u8 0, .int .u8 0, .int .u8 0, .int .u8 0, .int .u8 0, .int .u8 0]) (.agg #[.int .i64 1, .int .i64 key, .int .i64 0, .int .i64 0, .int .i64 0, .int .i64 0, .int .u8 0, .int .u8 0, .int .u8 0, .int .u8 0, .int .u8 0, .int .u8 0, .int .u8 0, .int .u8 0, .int .u8 0, .int .u8 0, .int .u8 0, .int .u8 0, .int .u8 0, .int .u8 0, .int .u8 0, .int .u8 0, .int .u8 0, .int .u8 0, .int .u8 0, .int .u8 0, .int .u8 0, .int .u8 0, .int .u8 0, .int .u8 0, .int .u8 0, .int .u8 0, .int .u8 0, .int .u8 0, .int .u8 0, .int .u8 0, .int .u8 0, .int .u8 0])).run Try.prog w = .ok true w := by
 have h : (Op.equalIn (d + 3) 62 (.agg #[.int .i64 1, .int .i64 key, .int .i64 0, .int .i64 0, .int .i64 0, .int .i64 0, .int .u8 0, .int .u8 0, .int .u8 0, .int .u8 0, .int .u8 0, .int .u8 0, .int .u8 0, .int .u8 0, .int .u8 0, .int .u8 0, .int .u8 0, .int .u8 0, .int .u8 0, .int .u8 0, .int .u8 0, .int .u8 0, .int .u8 0, .int .u8 0, .int .u8 0, .int .u8 0, .int .u8 0, .int .u8 0, .int .u8 0, .int .u8 0, .int .u8 0, .int .u8 0, .int .u8 0, .int .u8 0, .int .u8 0, .int .u8 0, .int .u8 0, .int .u8 0]) (.agg #[.int .i64 1, .int .i64 key, .int .i64 0, .int .i64 0, .int .i64 0, .int .i64 0, .int .u8 0, .int .u8 0, .int .u8 0, .int .u8 0, .int .u8 0, .int .u8 0, .int .u8 0, .int .u8 0, .int .u8 0, .int .u8 0, .int .u8 0, .int .u8 0, .int .u8 0, .int .u8 0, .int .u8 0, .int .u8 0, .int .u8 0, .int .u8 0, .int .u8 0, .int .u8 0, .int .u8 0, .int .u8 0, .int .u8 0, .int .u8 0, .int .u8 0, .int .u8 0, .int .u8 0, .int .u8 0, .int .u8 0, .int .u8 0, .int .u8 0, .int .u8 0])).run Try.prog w = .ok ((1 : Int) == 1 && (key == key && ((0 : Int) == 0 && ((0 : Int) == 0 && ((0 : Int) == 0 && ((0 : Int) == 0 && ((0 : Int) == 0 && ((0 : Int) == 0 && ((0 : Int) == 0 && ((0 : Int) == 0 && ((0 : Int) == 0 && ((0 : Int) == 0 && ((0 : Int) == 0 && ((0 : Int) == 0 && ((0 : Int) == 0 && ((0 : Int) == 0 && ((0 : Int) == 0 && ((0 : Int) == 0 && ((0 : Int) == 0 && ((0 : Int) == 0 && ((0 : Int) == 0 && ((0 : Int) == 0 && ((0 : Int) == 0 && ((0 : Int) == 0 && ((0 : Int) == 0 && ((0 : Int) == 0 && ((0 : Int) == 0 && ((0 : Int) == 0 && ((0 : Int) == 0 && ((0 : Int) == 0 && ((0 : Int) == 0 && ((0 : Int) == 0 && ((0 : Int) == 0 && ((0 : Int) == 0 && ((0 : Int) == 0 && ((0 : Int) == 0 && ((0 : Int) == 0 && ((0 : Int) == 0)))))))))))))))))))))))))))))))))))))) w := by
  refine eqA_of Try.underlying62 (by kernel_rfl) ?_
  refine eqf_cons (by rfl) (by go_simp; rfl) (by go_simp; rfl) (by go_simp) ?_
  refine eqf_cons (by rfl) (by go_simp; rfl) (by go_simp; rfl) (by go_simp) ?_
  refine eqf_cons (by rfl) (by go_simp; rfl) (by go_simp; rfl) (by go_simp) ?_
  refine eqf_cons (by rfl) (by go_simp; rfl) (by go_simp; rfl) (by go_simp) ?_
  refine eqf_cons (by rfl) (by go_simp; rfl) (by go_simp; rfl) (by go_simp) ?_
  refine eqf_cons (by rfl) (by go_simp; rfl) (by go_simp; rfl) (by go_simp) ?_
  exact eqf_last (by rfl) (by go_simp) (by go_simp) (EqP.eqA32 d w 0 0 0 0 0 0 0 0 0 0 0 0 0 0 0 0 0 0 0 0 0 0 0 0 0 0 0 0 0 0 0 0 0 0 0 0 0 0 0 0 0 0 0 0 0 0 0 0 0 0 0 0 0 0 0 0 0 0 0 0 0 0 0 0)
 simpa using h
theorem rowIn {w : World} {A : Option Addr} {n : Nat} {l : List S38} (h : ReadsRow (fun x c => c = encIn x) 37 w A n l) : Kd.C k38 w A n l :=
 ReadsRow.imp_ h (Below.refl _ w) (fun x c e => by subst e; exact k38_mk w x)
theorem rowOut {w : World} {A : Option Addr} {n : Nat} {l : List S64} (h : ReadsRow (fun x c => c = encOut x) 39 w A n l) : Kd.C k64 w A n l :=
 ReadsRow.imp_ h (Below.refl _ w) (fun x c e => by subst e; exact k64_mk w x)
attribute [local go_sem high] eqPt
/-- What is known of all batches. -/
structure SAll (l : List S68) (next limit key : Int) (B : List S39) : Prop where
 nd : ((l.map to90).map ptK).Nodup
 len : B.length ≤ 40
 each : ∃ Ws : List (List S90), Ws.length = B.length ∧ ∀ (i : Nat) (h1 : i < Ws.length) (h2 : i < B.length), SBat l next limit key (Ws.take i).flatten Ws[i] B[i]
set_option maxHeartbeats 16000000 in
set_option maxRecDepth 100000 in
theorem sound_calls (l : List S68) (n : Nat) (hn : l.length = n) (A : Option Addr) (c : Nat) (next limit key : Int) (w : World) (hA : ReadsRow (fun x c => c = J68.enc x) 44 w A n l) (hc : n ≤ c) (bf : Bool) (kf : Nat) (hfew : coraclelaw17_few.f kf l = some bf) (km : Nat) (hrest : bf = true → n ≤ 40 ∧ coraclelaw17_mades.f km l = some (l.map to90)) (hK : (l.map to90).all keyB = true) (B : List S39) (er : Int) (hall : allC I90 (l.map to90) next limit key = (B, er)) (hne : er ≠ 0 → B = []) (hS : bf = true → er = 0 → SAll l next limit key B) :
 Calls Try.prog 5 #[.slice A n c, .int .i64 next, .int .i64 limit, .int .i64 key] w fun e w' => e = .returned (.bool true) ∧ Below w.heap.size w w' := by
 have mixed : Try.prog.follows .mixedOrders = true := by kernel_rfl
 have HB := Aside0.mk (Below.refl w.heap.size w)
 have HA := Aside0.mk hA
 have FEW := Aside0.mk (fun (W : World) (hb : Below w.heap.size w W) => (by
  have h := coraclelaw17_few.calls kf A c l bf W (row68 (by rw [hn]; exact ReadsRow.imp_ hA hb (fun _ _ h => h))) (by rw [hn]; exact hc) hfew
  rw [hn] at h
  exact h.mono (fun _ _ h => ⟨h.1, below_drawn0 h.2⟩) : Calls Try.prog 17 #[.slice A n c] W fun e w' => e = .returned (.bool bf) ∧ Below W.heap.size W w'))
 have AW := Aside0.mk awake_calls
 cases bf with
 | false =>
  clear hrest hS hfew
  go_enter Try.func5, Try.ntmps5
  go_wp2_with (first | (go_at_call 17; (with_reducible refine (FEW.out _ HB.out).mono ?_); rintro e w1 ⟨rfl, hb⟩; replace HB := Aside0.mk (below_step HB.out hb); clear hb) | (go_at_call 18; (with_reducible refine (AW.out _).mono ?_); rintro e w1 ⟨rfl, hb⟩; replace HB := Aside0.mk (below_step HB.out hb); clear hb))
  go_ret
  exact ⟨rfl, HB.out⟩
 | true =>
  obtain ⟨hn40, hm⟩ := hrest rfl
  have MD := Aside0.mk (fun (W : World) (hb : Below w.heap.size w W) => (by
   have h := coraclelaw17_mades.calls km A c l _ W (row68 (by rw [hn]; exact ReadsRow.imp_ hA hb (fun _ _ h => h))) (by rw [hn]; exact hc) hm
   rw [hn] at h
   exact h : Calls Try.prog 20 #[.slice A n c] W fun e w' => ∃ v0_ : Value, e = .returned v0_ ∧ Kd.R k90 90 w' W.heap.size (fun _ => True) v0_ (l.map to90) ∧ Below W.heap.size W w'))
  have HM := Aside0.mk (show (l.map to90).length = n by rw [List.length_map, hn])
  have AL := Aside0.mk (fun (W : World) (A' : Option Addr) (c' : Nat) (hr : Kd.C k90 W A' n (l.map to90)) => (by
   have h := all90 (c := c') (l := l.map to90) (by rw [List.length_map, hn]; exact hr) (by rw [List.length_map, hn]; omega) hK next limit key
   rw [hall, List.length_map, hn] at h
   exact h : Calls Try.prog 19 #[.slice A' n c', .int .i64 next, .int .i64 limit, .int .i64 key] W fun e w' => AllR W e w' (B, er)))
  have SA := Aside0.mk (hS rfl)
  have HNE := Aside0.mk hne
  clear hrest hS hfew hm hK hall hne
  generalize l.map to90 = M at MD HM AL
  obtain ⟨nb, hnb⟩ : ∃ nb, B.length = nb := ⟨_, rfl⟩
  have HBn := Aside0.mk hnb
  clear hnb
  go_enter Try.func5, Try.ntmps5
  go_upto_region 4 with (first | (go_at_call 17; (with_reducible refine (FEW.out _ HB.out).mono ?_); rintro e w1 ⟨rfl, hb⟩; replace HB := Aside0.mk (below_step HB.out hb); clear hb) | ((with_reducible refine gate_callee (f := 20) rfl ?_); refine goesL_ (some 28) rfl rfl Try.func20 (by kernel_rfl) rfl #[.slice A n c] rfl (by (try simp only [List.map_toArray, List.map_cons, List.map_nil]); first | done | rfl) ?_; refine (MD.out _ HB.out).mono ?_; rintro e w2 ⟨v28, rfl, h28, hb⟩; refine ⟨_, rfl, ?_⟩; have H28 := Aside0.mk (Kd.R_lower h28 HB.out.size); replace HB := Aside0.mk (below_step HB.out hb); clear hb; clear h28; obtain ⟨A28, c28, e28⟩ := Kd.R_slice H28.out; subst e28; rw [HM.out]) | ((with_reducible refine gate_callee (f := 19) rfl ?_); refine goesL_ (some 32) rfl rfl Try.func19 (by kernel_rfl) rfl #[.slice A28 n c28, .int .i64 next, .int .i64 limit, .int .i64 key] rfl (by (try simp only [List.map_toArray, List.map_cons, List.map_nil]); first | done | rfl) ?_; refine (AL.out _ A28 c28 (by have := (Kd.R_reads' H28.out).2.2; rwa [HM.out] at this)).mono ?_; rintro e w3 ⟨v32, rfl, h32, hb⟩; refine ⟨_, rfl, ?_⟩; have H9 := Aside0.mk (Kd.R_lower h32 HB.out.size); replace HB := Aside0.mk (below_step HB.out hb); clear hb; clear h32 H28; obtain ⟨A9, c9, e9⟩ := Kd.R_slice H9.out; subst e9; rw [HBn.out] at H9 ⊢))
  clear FEW MD AL HM
  simp only [] at H9
  by_cases he : er = 0
  rotate_left
  ·have z0 : (er == 0) = false := by simpa using he
   have z1 : (er != 0) = true := by simpa using he
   obtain rfl : nb = 0 := by rw [← HBn.out, HNE.out he]; rfl
   clear HNE SA he
   go_wp2_with (first | (go_at_call 18; (with_reducible refine (AW.out _).mono ?_); rintro e w1 ⟨rfl, hb⟩; replace HB := Aside0.mk (below_step HB.out hb); clear hb))
   go_ret
   exact ⟨rfl, HB.out⟩
  ·subst he
   have SA2 := SA.out rfl
   clear SA HNE
   obtain ⟨nd, hnb40, Ws, hWl, hW⟩ := SA2
   have ND := Aside0.mk nd
   have WL := Aside0.mk hWl
   have WW := Aside0.mk hW
   have NB := Aside0.mk (show nb ≤ 40 by rw [← HBn.out]; exact hnb40)
   clear nd hWl hW hnb40
   -- what was there behind All stays: a new block is written into alone
   have C9 := Aside0.mk (show Kd.C k39 w3 A9 nb B by have h := (Kd.R_reads' H9.out).2.2; rwa [HBn.out] at h)
   have LA := Aside0.mk (show ReadsRow (fun x c => c = J68.enc x) 44 w3 A n l from ReadsRow.imp_ hA HB.out (fun _ _ h => h))
   have HBW := HB
   clear HB H9 HA
   go_upto_region 7 with (fail)
   have eU : (usedL l []).toArray = #[Value.bool false, Value.bool false, Value.bool false, Value.bool false, Value.bool false, Value.bool false, Value.bool false, Value.bool false, Value.bool false, Value.bool false, Value.bool false, Value.bool false, Value.bool false, Value.bool false, Value.bool false, Value.bool false, Value.bool false, Value.bool false, Value.bool false, Value.bool false, Value.bool false, Value.bool false, Value.bool false, Value.bool false, Value.bool false, Value.bool false, Value.bool false, Value.bool false, Value.bool false, Value.bool false, Value.bool false, Value.bool false, Value.bool false, Value.bool false, Value.bool false, Value.bool false, Value.bool false, Value.bool false, Value.bool false, Value.bool false] := by rw [used_nil]; rfl
   rw [← eU]
   clear eU
   have HU0 := Aside0.mk (blk_new w3 (.cells (usedL l []).toArray 59))
   have HB0 := Aside0.mk (below_alloc (Below.refl w3.heap.size w3) (.cells (usedL l []).toArray 59))
   generalize w3.alloc (.cells (usedL l []).toArray 59) = w4 at HU0 HB0 ⊢
   obtain ⟨gU, hgU⟩ : ∃ g, w3.heap.size = g := ⟨_, rfl⟩
   have GU := Aside0.mk (show w3.heap.size ≤ gU by omega)
   rw [hgU] at HU0 ⊢
   clear hgU
   go_wp2
   go_loopg [12] nb (fun kq v12 wr => ∃ i : Nat, v12 = .int .i64 i ∧ i ≤ nb ∧ nb - i ≤ kq ∧ Aside0 (wr.heap[gU]? = some (.cells (usedL l (Ws.take i).flatten).toArray 59 (0, 0))) ∧ Aside0 (Below w3.heap.size w3 wr))
   case atStart => exact ⟨0, rfl, Nat.zero_le _, by omega, HU0, HB0⟩
   case round =>
    clear HU0 HB0
    obtain ⟨i, rfl, hi, hkq, HU, HB⟩ := hrel
    by_cases hlt : ¬ i < nb
    ·obtain rfl : i = nb := by omega
     go_wp2_with (first | (go_at_call 18; (with_reducible refine (AW.out _).mono ?_); rintro e w1 ⟨rfl, hb⟩; replace HB := Aside0.mk (below_step HB.out hb); clear hb))
     go_ret
     exact ⟨rfl, HBW.out.trans (HB.out.mono HBW.out.size)⟩
    ·have hlt := Decidable.not_not.1 hlt
     have hBi : i < B.length := by rw [HBn.out]; exact hlt
     have SBi := Aside0.mk (WW.out i (by rw [WL.out]; exact hBi) hBi)
     obtain ⟨W, hWi⟩ : ∃ W, Ws[i]'(by rw [WL.out]; exact hBi) = W := ⟨_, rfl⟩
     obtain ⟨S, hSi⟩ : ∃ S, (Ws.take i).flatten = S := ⟨_, rfl⟩
     rw [hWi, hSi] at SBi
     have HS2 := Aside0.mk (show (Ws.take (i + 1)).flatten = S ++ W by rw [List.take_succ_eq_append_getElem (by rw [WL.out]; exact hBi), List.flatten_append, hSi, hWi]; simp)
     rw [hSi] at HU
     clear hWi hSi
     obtain ⟨ad9, A0, c0, A1, c1, eA9, q0, q1, q2, q3, q4, l0, r0, l1, r1⟩ := at_T39 C9.out (i : Int) (by omega) (by omega)
     have hrd : rd_T39 B (i : Int) = B[i] := by
      unfold rd_T39
      rw [Int.toNat_natCast, List.getD_eq_getElem?_getD, List.getElem?_eq_getElem hBi]
      rfl
     rw [hrd, Int.toNat_natCast] at q0 q1 q2 q3 q4
     rw [hrd] at l0 r0 l1 r1
     generalize B[i] = b at SBi q0 q1 q2 q3 q4 l0 r0 l1 r1
     clear hrd hBi
     subst eA9
     obtain ⟨v, ho, hv, hv2, hfe⟩ := SBi.out.out
     have ho1 : b.f0.f1.length = 1 := by rw [ho]; rfl
     have hni : b.f0.f0.length = W.length := by rw [SBi.out.ins, List.length_map]
     have TXC := Aside0.mk (fun (V : World) (hb : Below w3.heap.size w3 V) => (by
      have h := txcheckedC A0 c0 b.f0.f0 A1 c1 b.f0.f1 b.f0.f2 V (rowIn (ReadsRow.imp_ (readsIn r0) hb (fun _ _ h => h))) l0 (rowOut (ReadsRow.imp_ (readsOut r1) hb (fun _ _ h => h))) l1 (by rw [hni]; have := SBi.out.len; omega) (by rw [ho1]; decide)
      rw [SBi.out.tc, hni, ho1] at h
      exact h : Calls Try.prog 21 #[.agg #[.slice A0 W.length c0, .slice A1 1 c1, .int .i64 b.f0.f2]] V fun e w' => e = .returned (.int .i64 0) ∧ Below V.heap.size V w'))
     have TXW := Aside0.mk (fun (V : World) (hb : Below w3.heap.size w3 V) => (by
      have h := tx_Weight.calls (b.f0.f0.length + 1) A0 c0 b.f0.f0 A1 c1 b.f0.f1 b.f0.f2 _ V (rowIn (ReadsRow.imp_ (readsIn r0) hb (fun _ _ h => h))) l0 (rowOut (ReadsRow.imp_ (readsOut r1) hb (fun _ _ h => h))) l1 (weight_f b.f0.f0 b.f0.f1 b.f0.f2 _ (by rw [hni]; have := SBi.out.len; omega) (by rw [ho1]; decide) (Nat.lt_succ_self _))
      rw [hni, ho1] at h
      rw [ho1]
      exact h : Calls Try.prog 22 #[.agg #[.slice A0 W.length c0, .slice A1 1 c1, .int .i64 b.f0.f2]] V fun e w' => e = .returned (.int .i64 (weightV b.f0.f0 b.f0.f1.length)) ∧ Below V.heap.size V w'))
     rw [hni] at q0 l0 r0
     rw [ho1] at q1 l1 r1
     have R1 := readsOut r1
     rw [ho] at R1
     obtain ⟨adO, eO, hO⟩ := R1.2.2 (by decide)
     subst eO
     have OC := Aside0.mk (fun (j : Nat) (u : Value) (hj : (encOut (outS v key))[j]? = some u) (V : World) (hb : Below w3.heap.size w3 V) => (by
      obtain ⟨cc, _, rfl, hcc⟩ := hO 0 _ rfl
      have h := hcc j u hj
      rw [Nat.zero_mul, Nat.zero_add] at h
      exact (hb.cell (World.block_lt_of_cell? w3 _ h)).trans h : V.cell? (adO.add j) = some u))
     have KS := Aside0.mk (fun (V : World) (hb : Below w3.heap.size w3 V) => And.intro (show Sem.run Try.prog (Wide.heavy0 ⟨adO.block, adO.off + 1, none⟩ 38) V = .ok #[.int .i64 1, .int .i64 key, .int .i64 0, .int .i64 0, .int .i64 0, .int .i64 0, .int .u8 0, .int .u8 0, .int .u8 0, .int .u8 0, .int .u8 0, .int .u8 0, .int .u8 0, .int .u8 0, .int .u8 0, .int .u8 0, .int .u8 0, .int .u8 0, .int .u8 0, .int .u8 0, .int .u8 0, .int .u8 0, .int .u8 0, .int .u8 0, .int .u8 0, .int .u8 0, .int .u8 0, .int .u8 0, .int .u8 0, .int .u8 0, .int .u8 0, .int .u8 0, .int .u8 0, .int .u8 0, .int .u8 0, .int .u8 0, .int .u8 0, .int .u8 0] V from (run_loadCellsFrom_list Try.prog V _ (encSc (outS v key).f1) 38 rfl (fun j u hj => by
      have e : (⟨adO.block, adO.off + 1, none⟩ : Addr).add j = adO.add (1 + j) := by simp [Addr.add, Nat.add_assoc]
      rw [e]
      exact OC.out (1 + j) u (by rw [Nat.add_comm]; exact hj) V hb))) (show V.cell? adO = some (.int .i64 v) by have h := OC.out 0 (.int .i64 v) rfl V hb; rwa [show adO.add 0 = adO by simp [Addr.add]] at h))
     have R0 := Aside0.mk (readsIn r0)
     have QQ := Aside0.mk (fun (V : World) (hb : Below w3.heap.size w3 V) => And.intro ((hb.cell (World.block_lt_of_cell? w3 _ q0)).trans q0) (And.intro ((hb.cell (World.block_lt_of_cell? w3 _ q1)).trans q1) (And.intro ((hb.cell (World.block_lt_of_cell? w3 _ q2)).trans q2) (And.intro ((hb.cell (World.block_lt_of_cell? w3 _ q3)).trans q3) ((hb.cell (World.block_lt_of_cell? w3 _ q4)).trans q4)))))
     clear q0 q1 q2 q3 q4 r0 r1 R1 hO l0 l1
     have hz : (i : Int) < (nb : Int) := by omega
     obtain ⟨k0, k1, k2, k3, k4⟩ := QQ.out _ HB.out
     go_upto_region 11 with (first | ((with_reducible refine gate_dst (N := 13) rfl ?_); refine Fill.fill_event (N := 13) (x := 53) (cs := #[.slice A0 W.length c0, .slice (some adO) 1 c1, .int .i64 b.f0.f2]) (t := 28) rfl rfl rfl rfl rfl rfl Try.zeroValue28 ?fs ?fz ?f1 (fun _ => rfl) (fun _ => rfl) ?_; (case fs => exact fun W => Try.sizeOf28 W); (case fz => rfl); (case f1 => rfl); intro gT hgT w5 hbox hb; have HT := Aside0.mk hbox; have GT := Aside0.mk (show w3.heap.size ≤ gT by rw [hgT]; exact HB.out.size); have NE := Aside0.mk (show gU ≠ gT by rw [hgT]; exact Nat.ne_of_lt (Array.getElem?_eq_some_iff.1 HU.out).1); replace HU := Aside0.mk (blk_below HU.out hb); replace HB := Aside0.mk (below_step HB.out hb); clear hbox hgT hb k0 k1 k2 k3 k4))
     have KT := Aside0.mk (fun (V : World) (h : V.heap[gT]? = some (.cells #[.slice A0 W.length c0, .slice (some adO) 1 c1, .int .i64 b.f0.f2] 28 (0, 0))) => And.intro (show V.cell? ⟨gT, 0, none⟩ = some (.slice A0 W.length c0) from (blk_cell h 0).trans rfl) (And.intro (show V.cell? ⟨gT, 1, none⟩ = some (.slice (some adO) 1 c1) from (blk_cell h 1).trans rfl) (show V.cell? ⟨gT, 2, none⟩ = some (.int .i64 b.f0.f2) from (blk_cell h 2).trans rfl)))
     obtain ⟨j0, j1, j2⟩ := KT.out _ HT.out
     have WT := Aside0.mk (show weightV b.f0.f0 b.f0.f1.length ≤ limit ∧ coracleref1_Fee.f 1 (weightV b.f0.f0 b.f0.f1.length) b.f2 = some (b.f1, 0) from ⟨SBi.out.wt, SBi.out.fee⟩)
     generalize weightV b.f0.f0 b.f0.f1.length = wt at TXW WT
     have eqs := fun d W => eqSc d W key
     have zv0 : decide (v < 330) = false := decide_eq_false (by omega)
     have zv1 := eq_false (show ¬ v < 330 by omega)
     have zw0 : decide (limit < wt) = false := decide_eq_false (by have := WT.out.1; omega)
     have zw1 := eq_false (show ¬ limit < wt by have := WT.out.1; omega)
     go_upto_region 12 with (first | (go_at_call 21; (with_reducible refine (TXC.out _ HB.out).mono ?_); rintro e w6 ⟨rfl, hb⟩; replace HU := Aside0.mk (blk_below HU.out hb); replace HT := Aside0.mk (blk_below HT.out hb); replace HB := Aside0.mk (below_step HB.out hb); clear hb j0 j1 j2; obtain ⟨j0, j1, j2⟩ := KT.out _ HT.out) | (go_at_call 22; (with_reducible refine (TXW.out _ HB.out).mono ?_); rintro e w7 ⟨rfl, hb⟩; replace HU := Aside0.mk (blk_below HU.out hb); replace HT := Aside0.mk (blk_below HT.out hb); replace HB := Aside0.mk (below_step HB.out hb); clear hb j0 j1 j2; obtain ⟨j0, j1, j2⟩ := KT.out _ HT.out; obtain ⟨s0, s1⟩ := KS.out _ HB.out))
     clear j0 j1 j2 s0 s1 TXC zw0 zw1 zv0 zv1 eqs
     have FEE := Aside0.mk (fun (V : World) => ((coracleref1_Fee.calls 1 wt b.f2 b.f1 0 V WT.out.2).mono (fun _ _ h => ⟨h.1, below_drawn0 h.2⟩) : Calls Try.prog 24 #[.int .i64 wt, .int .i64 b.f2] V fun e w' => e = .returned (.tuple #[.int .i64 b.f1, .int .i64 0]) ∧ Below V.heap.size V w'))
     have lkW : lockV I90 W = b.f0.f2 := SBi.out.lock.symm
     have hbud : b.f1 ≤ (W.map I90.budget).sum := SBi.out.bud
     have hlkn : b.f0.f2 ≤ next := by rw [← lkW]; exact SBi.out.lockn
     generalize b.f0.f2 = lk at TXW QQ HT KT lkW hlkn
     have hins : b.f0.f0 = W.map I90.inS := SBi.out.ins
     rw [hins] at R0
     have PB := Aside0.mk (And.intro hbud (And.intro hlkn (And.intro lkW hfe)))
     clear hbud hlkn lkW hfe hins ho ho1 hni
     generalize b.f1 = fee at FEE PB QQ WT
     generalize b.f2 = rate at FEE QQ WT
     go_loopg [14, 15, 16, 17] W.length (fun kq v14 v15 v16 v17 wq => ∃ (k : Nat) (s14 s15 s16 : Int), v17 = .int .i64 k ∧ v14 = .int .i64 s14 ∧ v15 = .int .i64 s15 ∧ v16 = .int .i64 s16 ∧ Aside0 (s14 = ((W.take k).map I90.value).sum ∧ s15 = ((W.take k).map I90.budget).sum ∧ s16 = lockV I90 (W.take k)) ∧ k ≤ W.length ∧ W.length - k ≤ kq ∧ Aside0 (wq.heap[gU]? = some (.cells (usedL l (S ++ W.take k)).toArray 59 (0, 0))) ∧ Aside0 (wq.heap[gT]? = some (.cells #[.slice A0 W.length c0, .slice (some adO) 1 c1, .int .i64 lk] 28 (0, 0))) ∧ Aside0 (Below w3.heap.size w3 wq))
     case atStart => exact ⟨0, 0, 0, 0, rfl, rfl, rfl, rfl, ⟨rfl, rfl, rfl⟩, Nat.zero_le _, Nat.le_refl _, by rw [List.take_zero, List.append_nil]; exact HU, HT, HB⟩
     case round =>
      clear HU HT HB
      obtain ⟨k, s14, s15, s16, rfl, rfl, rfl, rfl, SM, hk, hkq2, HU, HT, HB⟩ := hrel
      obtain ⟨j0, j1, j2⟩ := KT.out _ HT.out
      by_cases hkl : ¬ k < W.length
      ·obtain rfl : k = W.length := by omega
       rw [List.take_length] at HU SM
       obtain ⟨m14, m15, m16⟩ := SM.out
       obtain ⟨b1, b2, b3, b4⟩ := PB.out
       obtain rfl : s16 = lk := by rw [m16, b3]
       have hwv : IntKind.i64.wrap (s14 - v) = fee := by
        have h1 := sum_bound 2100000000000000 (by omega) (W.map I90.value) (fun b hb => by obtain ⟨z, hz, rfl⟩ := List.mem_map.1 hb; exact (SBi.out.vals z hz).1)
        have h2 := SBi.out.len
        rw [List.length_map] at h1
        rw [IntKind.wrap_i64, m14]
        omega
       have hz1 : decide (s15 < fee) = false := decide_eq_false (by omega)
       have hz2 := eq_false (show ¬ s15 < fee by omega)
       have hz3 : decide (next < s16) = false := decide_eq_false (by omega)
       have hz4 := eq_false (show ¬ next < s16 by omega)
       clear m14 m15 m16 b1 b2 b3 b4
       as_aux_lemma =>
        go_upto_region 28 with (fail)
        have g0 := fun dd os => QQ.out (grow (redrawn wr dd) os) (HB.out.trans ((below_regrown wr dd os).mono HB.out.size))
        have e4 := fun dd os => (g0 dd os).2.2.2.2
        have J0 : ∀ dd os, (grow (redrawn wr dd) os).cell? ⟨gT, 0, none⟩ = some (.slice A0 W.length c0) := fun dd os => cell_regrown j0 dd os
        have J1 : ∀ dd os, (grow (redrawn wr dd) os).cell? ⟨gT, 1, none⟩ = some (.slice (some adO) 1 c1) := fun dd os => cell_regrown j1 dd os
        have J2 : ∀ dd os, (grow (redrawn wr dd) os).cell? ⟨gT, 2, none⟩ = some (.int .i64 s16) := fun dd os => cell_regrown j2 dd os
        clear g0
        have en1 := enters_of Try.func22 (by kernel_rfl) rfl
        have en2 := enters_of Try.func24 (by kernel_rfl) rfl
        refine wp_region_quiet_below mixed (by kernel_rfl) ?_
        repeat (quiet_step (first | exact Calls.regrown_of (TXW.out _ (HB.out.trans ((below_regrown wr _ _).mono HB.out.size))) | exact Calls.regrown_of (FEE.out _)))
        refine wpQuiet_nil ?_
        intro _ hw'
        obtain ⟨⟨nq, osq⟩, hw''⟩ := hw'
        subst hw''
        replace HU := Aside0.mk (blk_below HU.out (below_regrown wr nq osq))
        replace HT := Aside0.mk (blk_below HT.out (below_regrown wr nq osq))
        replace HB := Aside0.mk (below_step HB.out (below_regrown wr nq osq))
        clear e4 J0 J1 J2 j0 j1 j2 en1 en2
        generalize grow (redrawn wr nq) osq = wp at HU HT HB ⊢
        go_upto_region 29 with (fail)
        have g0 := fun dd os => QQ.out (grow (redrawn wp dd) os) (HB.out.trans ((below_regrown wp dd os).mono HB.out.size))
        have e3 := fun dd os => (g0 dd os).2.2.2.1
        have s1 := fun dd os => (KS.out (grow (redrawn wp dd) os) (HB.out.trans ((below_regrown wp dd os).mono HB.out.size))).2
        obtain ⟨j0, j1, j2⟩ := KT.out _ HT.out
        have J1 : ∀ dd os, (grow (redrawn wp dd) os).cell? ⟨gT, 1, none⟩ = some (.slice (some adO) 1 c1) := fun dd os => cell_regrown j1 dd os
        have J2 : ∀ dd os, (grow (redrawn wp dd) os).cell? ⟨gT, 2, none⟩ = some (.int .i64 s16) := fun dd os => cell_regrown j2 dd os
        clear g0
        refine wp_region_quiet_below mixed (by kernel_rfl) ?_
        repeat (quiet_step (fail))
        refine wpQuiet_nil ?_
        intro _ hw'
        obtain ⟨⟨nq, osq⟩, hw''⟩ := hw'
        subst hw''
        replace HU := Aside0.mk (blk_below HU.out (below_regrown wp nq osq))
        replace HT := Aside0.mk (blk_below HT.out (below_regrown wp nq osq))
        replace HB := Aside0.mk (below_step HB.out (below_regrown wp nq osq))
        clear e3 s1 J1 J2 j0 j1 j2
        generalize grow (redrawn wp nq) osq = wp2 at HU HT HB ⊢
        have nb40 := NB.out
        go_wp2
        go_roundg (nb - (i + 1))
        case measure => omega
        case rel => exact ⟨i + 1, by first | rfl | go_num, by omega, by omega, by rw [HS2.out]; exact HU, HB⟩
      ·have hkl := Decidable.not_not.1 hkl
       obtain ⟨a, ha, ey, hrip, hnot⟩ := SBi.out.at_ k hkl
       have hvals := SBi.out.vals W[k] (List.getElem_mem hkl)
       have YK := Aside0.mk (show W[k]? = some W[k] from List.getElem?_eq_getElem hkl)
       have TK := Aside0.mk (show W.take (k + 1) = W.take k ++ [W[k]] from List.take_succ_eq_append_getElem hkl)
       generalize W[k] = y at ey hrip hnot hvals YK TK
       have hkz : (k : Int) < (W.length : Int) := by omega
       have UN := Aside0.mk (show usedB l (S ++ W.take k) a = false from used_no ha (fun z hz => by rw [ey]; exact hnot z hz))
       have EY := Aside0.mk ey
       have PY := Aside0.mk (And.intro hrip hvals)
       clear hrip hnot hvals ey
       obtain ⟨adL, eL, hLc⟩ := LA.out.2.2 (by omega)
       subst eL
       obtain ⟨adI, eI, hIc⟩ := R0.out.2.2 (by omega)
       subst eI
       clear hLc hIc
       go_wp2
       go_loopg [18, 19] n (fun kq v18 v19 wp => ∃ j : Nat, v19 = .int .i64 j ∧ v18 = .int .i64 (if a < j then (a : Int) else -1) ∧ j ≤ n ∧ n - j ≤ kq ∧ Aside0 (wp.heap[gU]? = some (.cells (usedL l (S ++ W.take k)).toArray 59 (0, 0))) ∧ Aside0 (wp.heap[gT]? = some (.cells #[.slice (some adI) W.length c0, .slice (some adO) 1 c1, .int .i64 lk] 28 (0, 0))) ∧ Aside0 (Below w3.heap.size w3 wp))
       case atStart => exact ⟨0, rfl, by rw [if_neg (Nat.not_lt_zero _)], Nat.zero_le _, Nat.le_refl _, HU, HT, HB⟩
       case round =>
        clear HU HT HB j0 j1 j2
        obtain ⟨j, rfl, rfl, hj, hjq, HU, HT, HB⟩ := hrel
        obtain ⟨j0, j1, j2⟩ := KT.out _ HT.out
        by_cases hjl : ¬ j < n
        ·obtain rfl : j = n := by omega
         rw [if_pos (show a < j by omega)]
         have YR := Aside0.mk (show l[a]? = some l[a] from List.getElem?_eq_getElem ha)
         have YE := Aside0.mk (fun (i : Nat) (hi : 0 < i) (u : Value) (hu : (I90.enc y)[i]? = some u) (V : World) (hb : Below w3.heap.size w3 V) => row_cell (enc := J68.enc) (kk := 44) LA.out hb rfl YR.out (by omega) i hi u (by rw [← enc_to90, EY.out]; exact hu))
         have YI := Aside0.mk (fun (i : Nat) (hi : 0 < i) (u : Value) (hu : (encIn (I90.inS y))[i]? = some u) (V : World) (hb : Below w3.heap.size w3 V) => row_cell (enc := encIn) (kk := 37) R0.out hb rfl (x := I90.inS y) (j := k) (by rw [List.getElem?_map, YK.out]; rfl) (by omega) i hi u hu)
         have RC := Aside0.mk (refripens_calls (I90.kind y) (I90.key y) (I90.pre y) (I90.seq y) (I90.lock y) (I90.wait y) (I90.conf y))
         have kE : ∀ (V : World), Below w3.heap.size w3 V → (V.cell? ⟨(adL.add (a * 44)).block, (adL.add (a * 44)).off + 34, none⟩ = some (.int .i64 (I90.kind y)) ∧ V.cell? ⟨(adL.add (a * 44)).block, (adL.add (a * 44)).off + 35, none⟩ = some (.int .i64 (I90.key y)) ∧ V.cell? ⟨(adL.add (a * 44)).block, (adL.add (a * 44)).off + 36, none⟩ = some (.string (I90.pre y)) ∧ V.cell? ⟨(adL.add (a * 44)).block, (adL.add (a * 44)).off + 37, none⟩ = some (.int .i64 (I90.seq y)) ∧ V.cell? ⟨(adL.add (a * 44)).block, (adL.add (a * 44)).off + 38, none⟩ = some (.int .i64 (I90.lock y)) ∧ V.cell? ⟨(adL.add (a * 44)).block, (adL.add (a * 44)).off + 39, none⟩ = some (.int .i64 (I90.wait y)) ∧ V.cell? ⟨(adL.add (a * 44)).block, (adL.add (a * 44)).off + 40, none⟩ = some (.int .i64 (I90.conf y)) ∧ V.cell? ⟨(adL.add (a * 44)).block, (adL.add (a * 44)).off + 33, none⟩ = some (.int .i64 (I90.value y)) ∧ V.cell? ⟨(adL.add (a * 44)).block, (adL.add (a * 44)).off + 43, none⟩ = some (.int .i64 (I90.budget y))) := fun V hb => ⟨YE.out 34 (by decide) _ rfl V hb, YE.out 35 (by decide) _ rfl V hb, YE.out 36 (by decide) _ rfl V hb, YE.out 37 (by decide) _ rfl V hb, YE.out 38 (by decide) _ rfl V hb, YE.out 39 (by decide) _ rfl V hb, YE.out 40 (by decide) _ rfl V hb, YE.out 33 (by decide) _ rfl V hb, YE.out 43 (by decide) _ rfl V hb⟩
         have kI : ∀ (V : World), Below w3.heap.size w3 V → (V.cell? ⟨(adI.add (k * 37)).block, (adI.add (k * 37)).off + 34, none⟩ = some (.int .i64 (I90.kind y)) ∧ V.cell? ⟨(adI.add (k * 37)).block, (adI.add (k * 37)).off + 35, none⟩ = some (.int .i64 (I90.key y)) ∧ V.cell? ⟨(adI.add (k * 37)).block, (adI.add (k * 37)).off + 36, none⟩ = some (.string (I90.pre y)) ∧ V.cell? ⟨(adI.add (k * 37)).block, (adI.add (k * 37)).off + 33, none⟩ = some (.int .i64 (I90.seq y))) := fun V hb => ⟨YI.out 34 (by decide) _ rfl V hb, YI.out 35 (by decide) _ rfl V hb, YI.out 36 (by decide) _ rfl V hb, YI.out 33 (by decide) _ rfl V hb⟩
         have KE := Aside0.mk kE
         have KI := Aside0.mk kI
         clear kE kI YE YI
         have SL := Aside0.mk (show lockV I90 (W.take (k + 1)) = max (lockV I90 (W.take k)) (I90.lock y) ∧ ((W.take (k + 1)).map I90.value).sum = ((W.take k).map I90.value).sum + I90.value y ∧ ((W.take (k + 1)).map I90.budget).sum = ((W.take k).map I90.budget).sum + I90.budget y by
          rw [TK.out, lockV_snoc, List.map_append, List.map_append, List.sum_append, List.sum_append]
          refine ⟨rfl, ?_, ?_⟩ <;> simp)
         have VB := Aside0.mk (show (0 ≤ ((W.take k).map I90.value).sum ∧ ((W.take k).map I90.value).sum ≤ 210000000000000000) ∧ (0 ≤ ((W.take k).map I90.budget).sum ∧ ((W.take k).map I90.budget).sum ≤ 210000000000000000) by
          have hWl := SBi.out.len
          have h1 := sum_bound 2100000000000000 (by omega) ((W.take k).map I90.value) (fun b hb => by obtain ⟨z, hz, rfl⟩ := List.mem_map.1 hb; exact (SBi.out.vals z (List.mem_of_mem_take hz)).1)
          have h2 := sum_bound 2100000000000000 (by omega) ((W.take k).map I90.budget) (fun b hb => by obtain ⟨z, hz, rfl⟩ := List.mem_map.1 hb; exact (SBi.out.vals z (List.mem_of_mem_take hz)).2)
          rw [List.length_map, List.length_take] at h1 h2
          omega)
         have hrz0 : decide (next < ripens (I90.wait y) (I90.lock y) (I90.conf y)) = false := decide_eq_false (by have := PY.out.1; omega)
         have hrz1 := eq_false (show ¬ next < ripens (I90.wait y) (I90.lock y) (I90.conf y) by have := PY.out.1; omega)
         have hval := PY.out.2
         unfold claimCells at RC
         generalize ripens (I90.wait y) (I90.lock y) (I90.conf y) = rip at RC hrz0 hrz1
         generalize I90.kind y = yk at KE KI RC
         generalize I90.key y = yy at KE KI RC
         generalize I90.pre y = yp at KE KI RC
         generalize I90.seq y = ys at KE KI RC
         generalize I90.lock y = yl at KE RC SL
         generalize I90.wait y = yw at KE RC
         generalize I90.conf y = yc at KE RC
         generalize I90.value y = yv at KE SL hval
         generalize I90.budget y = yb at KE SL hval
         have hw1 : IntKind.i64.wrap (s14 + yv) = s14 + yv := by rw [IntKind.wrap_i64]; have := VB.out; have := SM.out; omega
         have hw2 : IntKind.i64.wrap (s15 + yb) = s15 + yb := by rw [IntKind.wrap_i64]; have := VB.out; have := SM.out; omega
         have HV := Aside0.mk hval
         clear hval
         have haz : (a : Int) < (j : Int) := by omega
         have ha0 : (0 : Int) ≤ (a : Int) := by omega
         have hneg0 : decide ((a : Int) < 0) = false := decide_eq_false (by omega)
         have hneg1 := eq_false (show ¬ (a : Int) < 0 by omega)
         as_aux_lemma =>
          go_upto_region 23 with (fail)
          have g1 := fun dd os => KE.out (grow (redrawn wr dd) os) (HB.out.trans ((below_regrown wr dd os).mono HB.out.size))
          have g2 := fun dd os => KI.out (grow (redrawn wr dd) os) (HB.out.trans ((below_regrown wr dd os).mono HB.out.size))
          have e1 := fun dd os => (g1 dd os).1
          have e2 := fun dd os => (g1 dd os).2.1
          have e3 := fun dd os => (g1 dd os).2.2.1
          have e4 := fun dd os => (g1 dd os).2.2.2.1
          have e5 := fun dd os => (g1 dd os).2.2.2.2.1
          have e6 := fun dd os => (g1 dd os).2.2.2.2.2.1
          have e7 := fun dd os => (g1 dd os).2.2.2.2.2.2.1
          have f1 := fun dd os => (g2 dd os).1
          have f2 := fun dd os => (g2 dd os).2.1
          have f3 := fun dd os => (g2 dd os).2.2.1
          have f4 := fun dd os => (g2 dd os).2.2.2
          have J0 : ∀ dd os, (grow (redrawn wr dd) os).cell? ⟨gT, 0, none⟩ = some (.slice (some adI) W.length c0) := fun dd os => cell_regrown j0 dd os
          clear g1 g2
          have en := enters_of Try.func23 (by kernel_rfl) rfl
          refine wp_region_quiet_below mixed (by kernel_rfl) ?_
          repeat (quiet_step (first | exact Calls.regrown_of (RC.out _)))
          refine wpQuiet_nil ?_
          intro _ hw'
          obtain ⟨⟨nq, osq⟩, hw''⟩ := hw'
          subst hw''
          replace HU := Aside0.mk (blk_below HU.out (below_regrown wr nq osq))
          replace HT := Aside0.mk (blk_below HT.out (below_regrown wr nq osq))
          replace HB := Aside0.mk (below_step HB.out (below_regrown wr nq osq))
          clear e1 e2 e3 e4 e5 e6 e7 f1 f2 f3 f4 J0 j0 j1 j2 en hrz0 hrz1 hneg0 hneg1 RC
          generalize grow (redrawn wr nq) osq = wp at HU HT HB ⊢
          have hu59 := Try.underlying59
          have ha40 : (a : Int) < 40 := by omega
          have KU : wp.cell? ⟨gU, a, none⟩ = some (.bool false) := (blk_cell HU.out a).trans (by
           have h := used_at l (S ++ W.take k) a (by omega)
           rw [UN.out] at h
           simpa using h)
          have FZ : wp.frozen? ⟨gU, a, none⟩ = false := blk_frozen HU.out a
          go_upto_region 26 with (fail)
          clear KU FZ
          replace HU := Aside0.mk (blk_put HU.out a (.bool true) (cs' := (usedL l (S ++ W.take (k + 1))).toArray) (by rw [List.setIfInBounds_toArray, used_put ND.out (S ++ W.take k) y a ha EY.out, TK.out, List.append_assoc]))
          replace HT := Aside0.mk (blk_far (p := ⟨gU, a, none⟩) HT.out (Ne.symm NE.out) (.bool true))
          replace HB := Aside0.mk (below_set (j := a) (v := .bool true) HB.out GU.out)
          generalize wp.setCell ⟨gU, a, none⟩ (.bool true) = wp2 at HU HT HB ⊢
          have g1 := fun dd os => KE.out (grow (redrawn wp2 dd) os) (HB.out.trans ((below_regrown wp2 dd os).mono HB.out.size))
          have e8 := fun dd os => (g1 dd os).2.2.2.2.2.2.2.1
          have e9 := fun dd os => (g1 dd os).2.2.2.2.2.2.2.2
          clear g1
          refine wp_region_quiet_below mixed (by kernel_rfl) ?_
          repeat (quiet_step (fail))
          refine wpQuiet_nil ?_
          intro _ hw'
          obtain ⟨⟨nq, osq⟩, hw''⟩ := hw'
          subst hw''
          replace HU := Aside0.mk (blk_below HU.out (below_regrown wp2 nq osq))
          replace HT := Aside0.mk (blk_below HT.out (below_regrown wp2 nq osq))
          replace HB := Aside0.mk (below_step HB.out (below_regrown wp2 nq osq))
          clear e8 e9
          generalize grow (redrawn wp2 nq) osq = wp3 at HU HT HB ⊢
          have e5 := (KE.out wp3 HB.out).2.2.2.2.1
          have wl := SBi.out.len
          go_wp2
          go_roundg (W.length - (k + 1))
          case measure => omega
          case rel =>
           exact ⟨k + 1, s14 + yv, s15 + yb, max s16 yl, by first | rfl | go_num, rfl, rfl, rfl, ⟨by rw [SL.out.2.1, SM.out.1], by rw [SL.out.2.2, SM.out.2.1], by rw [SL.out.1, SM.out.2.2]⟩, by omega, by omega, HU, HT, HB⟩
        ·have hjl := Decidable.not_not.1 hjl
         have hjz : (j : Int) < (n : Int) := by omega
         have hjl2 : j < l.length := by omega
         have L1 : ∀ dd os, Sem.run Try.prog (Wide.heavy0 (adL.add (j * 44)) 33) (grow (redrawn wr dd) os) = .ok (encPt l[j].f0).toArray (grow (redrawn wr dd) os) := fun dd os => reads_pre (m := 33) J68.hk (by decide) LA.out (HB.out.trans ((below_regrown wr dd os).mono HB.out.size)) rfl (List.getElem?_eq_getElem hjl2) (by omega)
         have L2 : ∀ dd os, Sem.run Try.prog (Wide.heavy0 (adI.add (k * 37)) 33) (grow (redrawn wr dd) os) = .ok (encPt (ptS y)).toArray (grow (redrawn wr dd) os) := fun dd os => reads_pre (enc := encIn) (m := 33) (fun _ => rfl) (by decide) R0.out (HB.out.trans ((below_regrown wr dd os).mono HB.out.size)) rfl (by rw [List.getElem?_map, YK.out]; rfl) (by omega)
         have J0 : ∀ dd os, (grow (redrawn wr dd) os).cell? ⟨gT, 0, none⟩ = some (.slice (some adI) W.length c0) := fun dd os => cell_regrown j0 dd os
         have U0 : ∀ dd os, (grow (redrawn wr dd) os).cell? ⟨gU, j, none⟩ = some (.bool (usedB l (S ++ W.take k) j)) := fun dd os => cell_regrown ((blk_cell HU.out j).trans (by simpa using used_at l (S ++ W.take k) j (by omega))) dd os
         have hoe : oeq l[j].f0 (ptS y) = decide (j = a) := by
          by_cases hja : j = a
          ·subst hja
           rw [decide_eq_true rfl, oeq_iff, ← EY.out]
           rfl
          ·rw [decide_eq_false hja, ← EY.out]
           exact pt_other ND.out ha hjl2 hja
         have hub : j = a → usedB l (S ++ W.take k) j = false := fun e => by rw [e]; exact UN.out
         generalize l[j].f0 = pj at L1 hoe
         generalize ptS y = py at L2 hoe
         generalize usedB l (S ++ W.take k) j = ub at U0 hub
         by_cases hja : j = a
         ·rw [decide_eq_true hja] at hoe
          rw [hub hja] at U0
          rw [if_neg (show ¬ a < j by omega)]
          have HJA := Aside0.mk hja
          have hu59 := Try.underlying59
          have hj40 : (j : Int) < 40 := by omega
          clear hub hja
          go_wp2_with fail
          refine wp_region_quiet_below mixed (by kernel_rfl) ?_
          repeat (quiet_step (fail))
          refine wpQuiet_nil ?_
          intro _ hw'
          obtain ⟨⟨nq, osq⟩, hw''⟩ := hw'
          subst hw''
          replace HU := Aside0.mk (blk_below HU.out (below_regrown wr nq osq))
          replace HT := Aside0.mk (blk_below HT.out (below_regrown wr nq osq))
          replace HB := Aside0.mk (below_step HB.out (below_regrown wr nq osq))
          clear L1 L2 J0 U0 j0 j1 j2
          generalize grow (redrawn wr nq) osq = wp at HU HT HB ⊢
          go_wp2
          go_roundg (n - (j + 1))
          case measure => omega
          case rel => exact ⟨j + 1, by first | rfl | go_num, by rw [if_pos (show a < j + 1 by have := HJA.out; omega), HJA.out], by omega, by omega, HU, HT, HB⟩
         ·rw [decide_eq_false hja] at hoe
          rw [show (if a < j then (a : Int) else -1) = (if a < j + 1 then (a : Int) else -1) by (repeat' split) <;> omega]
          clear hub
          generalize hv18 : (if a < j + 1 then (a : Int) else -1) = v18
          have V18 := Aside0.mk hv18
          clear hv18
          go_wp2_with fail
          refine wp_region_quiet_below mixed (by kernel_rfl) ?_
          repeat (quiet_step (fail))
          refine wpQuiet_nil ?_
          intro _ hw'
          obtain ⟨⟨nq, osq⟩, hw''⟩ := hw'
          subst hw''
          replace HU := Aside0.mk (blk_below HU.out (below_regrown wr nq osq))
          replace HT := Aside0.mk (blk_below HT.out (below_regrown wr nq osq))
          replace HB := Aside0.mk (below_step HB.out (below_regrown wr nq osq))
          clear L1 L2 J0 U0 j0 j1 j2
          generalize grow (redrawn wr nq) osq = wp at HU HT HB ⊢
          go_wp2
          go_roundg (n - (j + 1))
          case measure => omega
          case rel => exact ⟨j + 1, by first | rfl | go_num, by rw [V18.out], by omega, by omega, HU, HT, HB⟩
end Go.Proofs.Ytiodebjjbgcbhaa.Snd
