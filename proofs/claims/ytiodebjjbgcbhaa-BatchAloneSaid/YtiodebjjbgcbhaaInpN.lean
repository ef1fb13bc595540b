/- What pays a key; what Make tells. -/
import Derived.Test.YtiodebjjbgcbhaaInpL
import Derived.Test.YtiodebjjbgcbhaaLefL
import Derived.Test.YtiodebjjbgcbhaaBatK
namespace Go.Proofs.Ytiodebjjbgcbhaa.Inp
open Go.RowKit Go.Sort Go.Lib Go.Shelf Go.Proofs.Ytiodebjjbgcbhaa.Hand Go.Proofs.YtiodebjjbgcbhaaW.PrintWords Go.Proofs.YtiodebjjbgcbhaaW.PrintLast Go.Proofs.YtiodebjjbgcbhaaW.PrintMore Go.Proofs.Ytiodebjjbgcbhaa.RowK Go.Proofs.Ytiodebjjbgcbhaa.Fill Go.Proofs.Ytiodebjjbgcbhaa.OrdO Go.Proofs.Ytiodebjjbgcbhaa.QLef
attribute [local go_sem ↓ high] Wide.hv44 Wide.hv33 Wide.hv37
set_option linter.unusedVariables false
set_option linter.unusedSectionVars false
set_option linter.unusedSimpArgs false
variable {α : Type}
/-- The cells of a script that pays a key. -/
def payCells (key : Int) : Array Value := #[.int .i64 1, .int .i64 key, .int .i64 0, .int .i64 0, .int .i64 0, .int .i64 0, .int .u8 0, .int .u8 0, .int .u8 0, .int .u8 0, .int .u8 0, .int .u8 0, .int .u8 0, .int .u8 0, .int .u8 0, .int .u8 0, .int .u8 0, .int .u8 0, .int .u8 0, .int .u8 0, .int .u8 0, .int .u8 0, .int .u8 0, .int .u8 0, .int .u8 0, .int .u8 0, .int .u8 0, .int .u8 0, .int .u8 0, .int .u8 0, .int .u8 0, .int .u8 0, .int .u8 0, .int .u8 0, .int .u8 0, .int .u8 0, .int .u8 0, .int .u8 0]
set_option maxHeartbeats 4000000 in
set_option maxRecDepth 100000 in
theorem pay_calls (key : Int) (w : World) : Calls Try.prog 68 #[.int .i64 key] w fun e w' => e = .returned (.agg (payCells key)) ∧ Below w.heap.size w w' := by
 have HB := Aside0.mk (Below.refl w.heap.size w)
 unfold payCells
 go_enter Try.func68, Try.ntmps68
 go_wp2_with (first | ((with_reducible refine gate_dst (N := 2) rfl ?_); refine box_event ?hg (N := 2) ?hd (cs := #[.int .i64 0, .int .i64 0, .int .i64 0, .int .i64 0, .int .i64 0, .int .i64 0, .int .u8 0, .int .u8 0, .int .u8 0, .int .u8 0, .int .u8 0, .int .u8 0, .int .u8 0, .int .u8 0, .int .u8 0, .int .u8 0, .int .u8 0, .int .u8 0, .int .u8 0, .int .u8 0, .int .u8 0, .int .u8 0, .int .u8 0, .int .u8 0, .int .u8 0, .int .u8 0, .int .u8 0, .int .u8 0, .int .u8 0, .int .u8 0, .int .u8 0, .int .u8 0, .int .u8 0, .int .u8 0, .int .u8 0, .int .u8 0, .int .u8 0, .int .u8 0]) (t := 62) ?hr ?_; (case hd => rfl); (case hg => rfl); (case hr => first | (go_simp; done) | (go_simp; rfl)); intro g hg w1 hbox hb; have HB1 := Aside0.mk (below_step HB.out hb); have BK := Aside0.mk hbox; have GB := Aside0.mk (show w.heap.size ≤ g by rw [hg]; exact Nat.le_refl _); clear HB hbox hb hg) | ((with_reducible refine gate_store (t := 62) (p := 2) rfl ?_); refine PutW.store_event ?b1 ?b2 62 (.tmp 2) (.tmp 4) ?b3 (g := g) (t := 62) (cells := #[.int .i64 1, .int .i64 key, .int .i64 0, .int .i64 0, .int .i64 0, .int .i64 0, .int .u8 0, .int .u8 0, .int .u8 0, .int .u8 0, .int .u8 0, .int .u8 0, .int .u8 0, .int .u8 0, .int .u8 0, .int .u8 0, .int .u8 0, .int .u8 0, .int .u8 0, .int .u8 0, .int .u8 0, .int .u8 0, .int .u8 0, .int .u8 0, .int .u8 0, .int .u8 0, .int .u8 0, .int .u8 0, .int .u8 0, .int .u8 0, .int .u8 0, .int .u8 0, .int .u8 0, .int .u8 0, .int .u8 0, .int .u8 0, .int .u8 0, .int .u8 0]) ?a1 ?a2 BK.out ?a3 ?a4 ?a5 ?_; (case b1 => rfl); (case b2 => rfl); (case b3 => rfl); (case a1 => first | rfl | (go_simp; done)); (case a2 => first | rfl | (go_simp; done)); (case a3 => rfl); (case a4 => kernel_rfl); (case a5 => first | rfl | kernel_rfl | (simp [Value.oneCell']; done)); intro w3 hz3 hs3 hg3; have HB3 := Aside0.mk (pw_below_grown HB1.out (some g) HB1.out.size hg3 (fun k e => by cases e; exact GB.out)); have BK3 := Aside0.mk hz3; clear hz3 hs3 hg3))
 refine bodyPost_ret (results_cell_row rfl _ _ g 62 #[.int .i64 1, .int .i64 key, .int .i64 0, .int .i64 0, .int .i64 0, .int .i64 0, .int .u8 0, .int .u8 0, .int .u8 0, .int .u8 0, .int .u8 0, .int .u8 0, .int .u8 0, .int .u8 0, .int .u8 0, .int .u8 0, .int .u8 0, .int .u8 0, .int .u8 0, .int .u8 0, .int .u8 0, .int .u8 0, .int .u8 0, .int .u8 0, .int .u8 0, .int .u8 0, .int .u8 0, .int .u8 0, .int .u8 0, .int .u8 0, .int .u8 0, .int .u8 0, .int .u8 0, .int .u8 0, .int .u8 0, .int .u8 0, .int .u8 0, .int .u8 0] (0, 0) _ rfl BK3.out Try.underlying62 rfl (by kernel_rfl)) rfl ?_
 exact ⟨rfl, HB3.out⟩
theorem info3 : (Try.prog.info? 3).map (fun i => (i.zero, i.size, i.bytes)) = some (some (.int .i64 0), 1, 8) := by kernel_rfl
end Go.Proofs.Ytiodebjjbgcbhaa.Inp
/- What Make tells. -/
namespace Go.Proofs.Ytiodebjjbgcbhaa.Inp
open Go.RowKit Go.Sort Go.Lib Go.Shelf Go.Proofs.Ytiodebjjbgcbhaa.Hand Go.Proofs.YtiodebjjbgcbhaaW.PrintWords Go.Proofs.YtiodebjjbgcbhaaW.PrintLast Go.Proofs.YtiodebjjbgcbhaaW.PrintMore Go.Proofs.Ytiodebjjbgcbhaa.RowK Go.Proofs.Ytiodebjjbgcbhaa.Fill Go.Proofs.Ytiodebjjbgcbhaa.OrdO Go.Proofs.Ytiodebjjbgcbhaa.QLef Go.Proofs.Ytiodebjjbgcbhaa.LefL
attribute [local go_sem ↓ high] Wide.hv44 Wide.hv33 Wide.hv37
set_option linter.unusedVariables false
set_option linter.unusedSectionVars false
set_option linter.unusedSimpArgs false
variable {α : Type}
/-- A batch, as Make tells it: inputs, outputs, lock, fee, rate. -/
structure Bt where
 ins : List S38
 outs : List S64
 lock : Int
 fee : Int
 rate : Int
def Bt.zero : Bt := ⟨[], [], 0, 0, 0⟩
/-- An output that pays a key. -/
def outS (v key : Int) : S64 := ⟨v, ⟨1, key, 0, 0, 0, 0, ⟨0, 0, 0, 0, 0, 0, 0, 0, 0, 0, 0, 0, 0, 0, 0, 0, 0, 0, 0, 0, 0, 0, 0, 0, 0, 0, 0, 0, 0, 0, 0, 0⟩⟩⟩
/-- What tx.Check is asked. -/
def TxChecked (tc : List S38 → List S64 → Int → Int) : Prop := ∀ (A0 : Option Addr) (c0 : Nat) (l0 : List S38) (A1 : Option Addr) (c1 : Nat) (l1 : List S64) (lock : Int) (W : World), Kd.C k38 W A0 l0.length l0 → l0.length ≤ c0 → Kd.C k64 W A1 l1.length l1 → l1.length ≤ c1 → l0.length < 1000000 → l1.length < 1000000 →
 Calls Try.prog 21 #[.agg #[.slice A0 l0.length c0, .slice A1 l1.length c1, .int .i64 lock]] W fun e w' => e = .returned (.int .i64 (tc l0 l1 lock)) ∧ Below W.heap.size W w'
def lockV (I : Spec α) (l : List α) : Int := l.foldl (fun a x => max a (I.lock x)) 0
def budV (I : Spec α) (l : List α) : Int := l.foldl (fun b x => min (wrap64 (b + I.budget x)) 1152921504606846976) 0
/-- What Make tells. -/
def makeV (I : Spec α) (ck : α → Int) (tot : List Int → Int × Int) (tc : List S38 → List S64 → Int → Int) (l : List α) (rate key : Int) : Option Bt :=
 if l = [] then none else
 if wiB key 0 1073741824 = false then none else
 if l.all (fun x => ck x == 0) = false then none else
 let t := tot (l.map I.value)
 let f := feeS (weightV (l.map I.inS) 1) rate
 if max t.2 f.2 ≠ 0 then none else
 if f.1 > budV I l then none else
 if wrap64 (t.1 - f.1) < 330 then none else
 if tc (l.map I.inS) [outS (wrap64 (t.1 - f.1)) key] (lockV I l) ≠ 0 then none else
 some ⟨l.map I.inS, [outS (wrap64 (t.1 - f.1)) key], lockV I l, f.1, rate⟩
/-- What is returned. -/
def Made (w : World) (e : Ending) (w' : World) (o : Option Bt) : Prop := ∃ v0 v1 : Value, e = .returned (.tuple #[.agg #[v0, v1, .int .i64 (o.getD .zero).lock, .int .i64 (o.getD .zero).fee, .int .i64 (o.getD .zero).rate], .bool o.isSome]) ∧ Kd.R k38 38 w' w.heap.size (fun _ => True) v0 (o.getD .zero).ins ∧ Kd.R k64 64 w' w.heap.size (fun _ => True) v1 (o.getD .zero).outs ∧ Below w.heap.size w w'
theorem Made.no {w w' : World} {v : Value} (h : v = .tuple #[.agg #[.slice none 0 0, .slice none 0 0, .int .i64 0, .int .i64 0, .int .i64 0], .bool false]) (hb : Below w.heap.size w w') : Made w (.returned v) w' none :=
 ⟨.slice none 0 0, .slice none 0 0, by rw [h]; rfl, Kd.R_nil _ _ _ _ _, Kd.R_nil _ _ _ _ _, hb⟩
theorem below_drawn0 {w w' : World} (h : Drawn0 w w') : Below w.heap.size w w' := by
 obtain ⟨nd, rfl⟩ := h
 exact pw_below_drewN (Below.refl _ _) _
theorem budV_snoc (I : Spec α) (l : List α) (x : α) : budV I (l ++ [x]) = min (wrap64 (budV I l + I.budget x)) 1152921504606846976 := by simp [budV]
theorem lockV_snoc (I : Spec α) (l : List α) (x : α) : lockV I (l ++ [x]) = max (lockV I l) (I.lock x) := by simp [lockV]
/-- The cells of an output that pays. -/
def outCells (v key : Int) : Array Value := #[.int .i64 v, .int .i64 1, .int .i64 key, .int .i64 0, .int .i64 0, .int .i64 0, .int .i64 0, .int .u8 0, .int .u8 0, .int .u8 0, .int .u8 0, .int .u8 0, .int .u8 0, .int .u8 0, .int .u8 0, .int .u8 0, .int .u8 0, .int .u8 0, .int .u8 0, .int .u8 0, .int .u8 0, .int .u8 0, .int .u8 0, .int .u8 0, .int .u8 0, .int .u8 0, .int .u8 0, .int .u8 0, .int .u8 0, .int .u8 0, .int .u8 0, .int .u8 0, .int .u8 0, .int .u8 0, .int .u8 0, .int .u8 0, .int .u8 0, .int .u8 0, .int .u8 0]
theorem outR {w : World} {base g : Nat} (v key : Int) (h : w.heap[g]? = some (.cells (outCells v key) 64 (0, 0))) (hb : base ≤ g) : Kd.R k64 64 w base (fun _ => True) (.slice (some ⟨g, 0, none⟩) 1 1) [outS v key] :=
 ⟨fun _ _ => trivial, (outCells v key).toList, ⟨rfl, .inr ⟨g, 1, outCells v key, rfl, hb, h, Nat.le_refl _, by unfold maxLen; omega, rfl, rfl⟩⟩, Reps.front (k64_mkM _ _ _ (outS v key)) rfl (Reps.none _ _) (List.append_nil _)⟩
theorem R_apart {α β : Type} {d : Kd α} {d' : Kd β} {e e' b b' : Nat} {ok ok' : Nat → Prop} {w : World} {v v' : Value} {xs : List α} {xs' : List β} (h : d.R e w b ok v xs) (h' : d'.R e' w b' ok' v' xs') (hne : e' ≠ e) : ∀ k, v.ownBlock = some k → some k ≠ v'.ownBlock := fun k hk => by
 obtain ⟨inner, ho⟩ := Kd.R_own h
 obtain ⟨cells, hc⟩ := own_typed ho k hk
 exact Kd.R_ne h' hc hne
theorem reads_load (I : Spec α) {w W : World} {A : Option Addr} {l : List α} (hA : ReadsRow (fun x c => c = I.enc x) 44 w A l.length l) (hb : Below w.heap.size w W) {ad : Addr} (e : A = some ad) {j : Nat} (hj : j < l.length) : Sem.run Try.prog (Wide.heavy0 (ad.add (j * 44)) 44) W = .ok (I.enc l[j]).toArray W := by
 obtain ⟨ad', e', hcc⟩ := hA.2.2 (by omega)
 have e2 : ad = ad' := Option.some.inj (e.symm.trans e')
 subst e2
 exact run_loadCellsFrom_list Try.prog _ _ (I.enc l[j]) 44 (I.hk _) (fun i v hi => by
  obtain ⟨c, _, rfl, h3⟩ := hcc j _ (List.getElem?_eq_getElem hj)
  have h4 := h3 i v hi
  have e : (ad.add (j * 44)).add i = ad.add (j * 44 + i) := by
   unfold Addr.add
   split <;> rename_i h1
   ·subst h1; simp
   ·split <;> rename_i h2
    ·split <;> rename_i h5
     ·exact absurd h5 (by omega)
     ·simp
    ·split <;> rename_i h5
     ·exact absurd h5 (by omega)
     ·simp [Nat.add_assoc]
  rw [e]
  exact (hb.cell (World.block_lt_of_cell? w _ h4)).trans h4)
set_option maxHeartbeats 16000000 in
set_option maxRecDepth 100000 in
theorem make_calls (I : Spec α) (ck : α → Int) (hC : Checked I ck) (tot : List Int → Int × Int) (htot : ∀ l : List Int, l.length < 100000 → ∃ k, amount_Total.f k l = some (tot l)) (tc : List S38 → List S64 → Int → Int) (hT : TxChecked tc) (l : List α) (A : Option Addr) (c : Nat) (rate key : Int) (w : World) (hA : ReadsRow (fun x c => c = I.enc x) 44 w A l.length l) (hl : l.length < 100000) :
 Calls Try.prog 38 #[.slice A l.length c, .int .i64 rate, .int .i64 key] w fun e w' => Made w e w' (makeV I ck tot tc l rate key) := by
 have HC := Aside0.mk hC
 have HT := Aside0.mk hT
 have HTT := Aside0.mk htot
 have HA := Aside0.mk hA
 have HL := Aside0.mk hl
 have HB := Aside0.mk (Below.refl w.heap.size w)
 have PY := Aside0.mk (pay_calls key)
 unfold payCells at PY
 have WI := Aside0.mk (within_calls key 0 1073741824)
 clear hC hT htot hA hl
 have hu39 := Try.underlying39
 unfold makeV
 by_cases hnil : l = []
 ·rw [if_pos hnil]
  subst hnil
  go_enter Try.func38, Try.ntmps38
  go_wp2_with (first | ((with_reducible refine gate_dst (N := 6) rfl ?_); refine box_event ?hg (N := 6) ?hd (cs := #[.slice none 0 0, .slice none 0 0, .int .i64 0, .int .i64 0, .int .i64 0]) (t := 39) ?hr ?_; (case hd => rfl); (case hg => rfl); (case hr => first | (go_simp; done) | (go_simp; rfl)); intro gm hg w1 hbox hb; have m_HB := Aside0.mk (below_step HB.out hb); have BM := Aside0.mk hbox; have GM := Aside0.mk (show w.heap.size ≤ gm by rw [hg]; exact Nat.le_refl _); clear HB hbox hb hg; have HB := m_HB; clear m_HB) | ((with_reducible refine gate_store (t := 39) (p := 6) rfl ?_); refine PutW.store_event ?b1 ?b2 39 (.tmp 6) (.tmp 24) ?b3 (g := gm) (t := 39) (cells := #[.slice none 0 0, .slice none 0 0, .int .i64 0, .int .i64 0, .int .i64 0]) ?a1 ?a2 BM.out ?a3 ?a4 ?a5 ?_; (case b1 => rfl); (case b2 => rfl); (case b3 => rfl); (case a1 => first | rfl | (go_simp; done)); (case a2 => first | rfl | (go_simp; done)); (case a3 => rfl); (case a4 => kernel_rfl); (case a5 => first | rfl | kernel_rfl | (simp [Value.oneCell']; done)); intro w3 hz3 hs3 hg3; have m_HB := Aside0.mk (pw_below_grown HB.out (some gm) HB.out.size hg3 (fun k e => by cases e; exact GM.out)); have m_BM := Aside0.mk hz3; clear hz3 hs3 hg3 HB BM; have HB := m_HB; have BM := m_BM; clear m_HB m_BM))
  (refine bodyPost_ret (results_ct rfl _ _ gm 39 #[.slice none 0 0, .slice none 0 0, .int .i64 0, .int .i64 0, .int .i64 0] (0, 0) _ rfl BM.out Try.underlying39 rfl (by kernel_rfl)) rfl ?_; exact Made.no rfl HB.out)
 ·rw [if_neg hnil]
  have hpos : 0 < l.length := List.length_pos_iff.2 hnil
  have HP := Aside0.mk hpos
  have hz : ((l.length : Int) == 0) = false := by simp; omega
  have hz2 := eq_false (show ¬ (l.length : Int) = 0 by omega)
  have hz3 := eq_false hnil
  clear hnil
  generalize hwi : wiB key 0 1073741824 = wi at WI ⊢
  cases wi
  ·rw [if_pos rfl]
   go_enter Try.func38, Try.ntmps38
   go_wp2_with (first | ((with_reducible refine gate_dst (N := 6) rfl ?_); refine box_event ?hg (N := 6) ?hd (cs := #[.slice none 0 0, .slice none 0 0, .int .i64 0, .int .i64 0, .int .i64 0]) (t := 39) ?hr ?_; (case hd => rfl); (case hg => rfl); (case hr => first | (go_simp; done) | (go_simp; rfl)); intro gm hg w1 hbox hb; have m_HB := Aside0.mk (below_step HB.out hb); have BM := Aside0.mk hbox; have GM := Aside0.mk (show w.heap.size ≤ gm by rw [hg]; exact Nat.le_refl _); clear HB hbox hb hg; have HB := m_HB; clear m_HB) | (go_at_call 40; refine (WI.out _).mono ?_; rintro e w2 ⟨rfl, hb⟩; have m_HB := Aside0.mk (below_step HB.out hb); have m_BM := Aside0.mk (blk_below BM.out hb); clear hb HB BM; have HB := m_HB; have BM := m_BM; clear m_HB m_BM) | ((with_reducible refine gate_store (t := 39) (p := 6) rfl ?_); refine PutW.store_event ?b1 ?b2 39 (.tmp 6) (.tmp 24) ?b3 (g := gm) (t := 39) (cells := #[.slice none 0 0, .slice none 0 0, .int .i64 0, .int .i64 0, .int .i64 0]) ?a1 ?a2 BM.out ?a3 ?a4 ?a5 ?_; (case b1 => rfl); (case b2 => rfl); (case b3 => rfl); (case a1 => first | rfl | (go_simp; done)); (case a2 => first | rfl | (go_simp; done)); (case a3 => rfl); (case a4 => kernel_rfl); (case a5 => first | rfl | kernel_rfl | (simp [Value.oneCell']; done)); intro w3 hz3 hs3 hg3; have m_HB := Aside0.mk (pw_below_grown HB.out (some gm) HB.out.size hg3 (fun k e => by cases e; exact GM.out)); have m_BM := Aside0.mk hz3; clear hz3 hs3 hg3 HB BM; have HB := m_HB; have BM := m_BM; clear m_HB m_BM))
   (refine bodyPost_ret (results_ct rfl _ _ gm 39 #[.slice none 0 0, .slice none 0 0, .int .i64 0, .int .i64 0, .int .i64 0] (0, 0) _ rfl BM.out Try.underlying39 rfl (by kernel_rfl)) rfl ?_; exact Made.no rfl HB.out)
  ·rw [if_neg (by decide)]
   obtain ⟨o, ho⟩ : ∃ o, (if (l.all fun x => ck x == 0) = false then none else let t := tot (l.map I.value); let f := feeS (weightV (l.map I.inS) 1) rate; if max t.2 f.2 ≠ 0 then none else if f.1 > budV I l then none else if wrap64 (t.1 - f.1) < 330 then none else if tc (l.map I.inS) [outS (wrap64 (t.1 - f.1)) key] (lockV I l) ≠ 0 then none else some (⟨l.map I.inS, [outS (wrap64 (t.1 - f.1)) key], lockV I l, f.1, rate⟩ : Bt)) = o := ⟨_, rfl⟩
   rw [ho]
   have OO := Aside0.mk ho
   clear ho
   go_enter Try.func38, Try.ntmps38
   go_wp2_with (first | ((with_reducible refine gate_dst (N := 6) rfl ?_); refine box_event ?hg (N := 6) ?hd (cs := #[.slice none 0 0, .slice none 0 0, .int .i64 0, .int .i64 0, .int .i64 0]) (t := 39) ?hr ?_; (case hd => rfl); (case hg => rfl); (case hr => first | (go_simp; done) | (go_simp; rfl)); intro gm hg w1 hbox hb; have m_HB := Aside0.mk (below_step HB.out hb); have BM := Aside0.mk hbox; have GM := Aside0.mk (show w.heap.size ≤ gm by rw [hg]; exact Nat.le_refl _); clear HB hbox hb hg; have HB := m_HB; clear m_HB) | (go_at_call 40; refine (WI.out _).mono ?_; rintro e w2 ⟨rfl, hb⟩; have m_HB := Aside0.mk (below_step HB.out hb); have m_BM := Aside0.mk (blk_below BM.out hb); clear hb HB BM; have HB := m_HB; have BM := m_BM; clear m_HB m_BM) | ((with_reducible refine gate_callee (f := 68) rfl ?_); refine goesL_ (some 27) rfl rfl Try.func68 (by kernel_rfl) rfl #[.int .i64 key] rfl (by (try simp only [List.map_toArray, List.map_cons, List.map_nil]); first | done | rfl) ?_; refine (PY.out _).mono ?_; rintro e w2 ⟨rfl, hb⟩; refine ⟨_, rfl, ?_⟩; have m_HB := Aside0.mk (below_step HB.out hb); have m_BM := Aside0.mk (blk_below BM.out hb); clear hb HB BM; have HB := m_HB; have BM := m_BM; clear m_HB m_BM) | ((with_reducible refine gate_store (t := 39) (p := 6) rfl ?_); refine PutW.store_event ?b1 ?b2 39 (.tmp 6) (.tmp 31) ?b3 (g := gm) (t := 39) (cells := #[.slice none 0 0, .slice (some ⟨w2.heap.size, 0, none⟩) 1 1, .int .i64 0, .int .i64 0, .int .i64 rate]) ?a1 ?a2 (blk_alloc BM.out _) ?a3 ?a4 ?a5 ?_; (case b1 => rfl); (case b2 => rfl); (case b3 => rfl); (case a1 => first | rfl | (go_simp; done)); (case a2 => first | rfl | (go_simp; done)); (case a3 => rfl); (case a4 => kernel_rfl); (case a5 => first | rfl | kernel_rfl | (simp [Value.oneCell']; done)); intro w3 hz3 hs3 hg3; have m_HB := Aside0.mk (pw_below_grown (below_alloc HB.out _) (some gm) (below_alloc HB.out _).size hg3 (fun k e => by cases e; exact GM.out)); have m_BM := Aside0.mk hz3; have BO := Aside0.mk (show w3.heap[w2.heap.size]? = some (.cells #[.int .i64 0, .int .i64 1, .int .i64 key, .int .i64 0, .int .i64 0, .int .i64 0, .int .i64 0, .int .u8 0, .int .u8 0, .int .u8 0, .int .u8 0, .int .u8 0, .int .u8 0, .int .u8 0, .int .u8 0, .int .u8 0, .int .u8 0, .int .u8 0, .int .u8 0, .int .u8 0, .int .u8 0, .int .u8 0, .int .u8 0, .int .u8 0, .int .u8 0, .int .u8 0, .int .u8 0, .int .u8 0, .int .u8 0, .int .u8 0, .int .u8 0, .int .u8 0, .int .u8 0, .int .u8 0, .int .u8 0, .int .u8 0, .int .u8 0, .int .u8 0, .int .u8 0] 64 (0, 0)) from (hg3.block w2.heap.size (by simp) (by simpa using Nat.ne_of_gt (Array.getElem?_eq_some_iff.1 BM.out).1)).trans (blk_new w2 _)); have NO := Aside0.mk (show w2.heap.size ≠ gm from Nat.ne_of_gt (Array.getElem?_eq_some_iff.1 BM.out).1); have GO := Aside0.mk (show w.heap.size ≤ w2.heap.size from HB.out.size); clear hz3 hs3 hg3 HB BM; have HB := m_HB; have BM := m_BM; clear m_HB m_BM))
   obtain ⟨gO, hgO⟩ : ∃ g, w2.heap.size = g := ⟨_, rfl⟩
   rw [hgO] at BM BO NO GO ⊢
   clear hgO
   obtain ⟨ad, rfl, _⟩ := HA.out.2.2 HP.out
   generalize hn : l.length = n at HL HP hz hz2 ⊢
   have HN := Aside0.mk hn
   clear hn
   go_loopg [8, 9, 34] n (fun kq v8 v9 v34 wr => ∃ (i : Nat) (v0 : Value), v34 = .int .i64 i ∧ v9 = .int .i64 (budV I (l.take i)) ∧ i ≤ n ∧ n - i ≤ kq ∧ Aside0 ((l.take i).all (fun x => ck x == 0) = true) ∧ Aside0 (wr.heap[gm]? = some (.cells #[v0, .slice (some ⟨gO, 0, none⟩) 1 1, .int .i64 (lockV I (l.take i)), .int .i64 0, .int .i64 rate] 39 (0, 0))) ∧ Aside0 (wr.heap[gO]? = some (.cells #[.int .i64 0, .int .i64 1, .int .i64 key, .int .i64 0, .int .i64 0, .int .i64 0, .int .i64 0, .int .u8 0, .int .u8 0, .int .u8 0, .int .u8 0, .int .u8 0, .int .u8 0, .int .u8 0, .int .u8 0, .int .u8 0, .int .u8 0, .int .u8 0, .int .u8 0, .int .u8 0, .int .u8 0, .int .u8 0, .int .u8 0, .int .u8 0, .int .u8 0, .int .u8 0, .int .u8 0, .int .u8 0, .int .u8 0, .int .u8 0, .int .u8 0, .int .u8 0, .int .u8 0, .int .u8 0, .int .u8 0, .int .u8 0, .int .u8 0, .int .u8 0, .int .u8 0] 64 (0, 0))) ∧ Aside0 (Kd.R k38 38 wr w.heap.size (fun _ => True) v0 ((l.take i).map I.inS)) ∧ Aside0 (Kd.R (Kd.int .i64) 3 wr w.heap.size (fun _ => True) v8 ((l.take i).map I.value)) ∧ Aside0 (Below w.heap.size w wr))
   case atStart => exact ⟨0, .slice none 0 0, rfl, rfl, by omega, by omega, ⟨rfl⟩, BM, BO, ⟨Kd.R_nil _ _ _ _ _⟩, ⟨Kd.R_nil _ _ _ _ _⟩, HB⟩
   case round =>
    clear BM BO HB
    obtain ⟨i, v0, rfl, rfl, hin, hkq, HCK, BM, BO, H0, H8, HB⟩ := hrel
    by_cases hlt : i < n
    ·have hltz : (i : Int) < (n : Int) := by omega
     have hil : i < l.length := by rw [HN.out]; exact hlt
     have hld := reads_load I HA.out HB.out rfl hil
     have HT1 := Aside0.mk (List.take_succ_eq_append_getElem hil)
     have HMEM := Aside0.mk (List.getElem_mem hil)
     have HX := Aside0.mk (And.intro (I.hk l[i]) (And.intro (I.at_value l[i]) (And.intro (show (I.enc l[i])[38]? = some (.int .i64 (I.lock l[i])) from I.at_ l[i] 5) (I.at_budget l[i]))))
     have H1 := Aside0.mk (List.all_eq_true.2 (I.h1 l[i]))
     have CX := Aside0.mk (HC.out l[i])
     have IX := Aside0.mk (in_calls I l[i])
     have HM := Aside0.mk (fun W base ok => I.inS_M l[i] W base ok)
     have HH := Aside0.mk (I.hin l[i])
     generalize l[i] = x at hld HT1 HMEM HX H1 CX IX HM HH
     clear hil
     generalize hcx : I.enc x = cx at hld HX H1 CX IX
     clear hcx
     by_cases hc0 : ck x = 0
     ·rw [hc0] at CX
      have HC0 := Aside0.mk hc0
      clear hc0
      go_wp2_with (first | ((with_reducible refine gate_dst (N := 11) rfl ?_); refine Fill.fill_event (N := 11) (x := 37) (cs := cx.toArray) (t := 90) rfl rfl rfl rfl rfl rfl Try.zeroValue90 ?fs ?fz ?f1 (fun _ => rfl) (fun _ => rfl) ?_; (case fs => exact fun W => (Try.sizeOf90 W).trans (by rw [List.size_toArray, HX.out.1])); (case fz => simp [HX.out.1]); (case f1 => simpa using H1.out); intro g11 hg11 w4 hbox hb; have B11 := Aside0.mk hbox; have G11 := Aside0.mk (show gm ≠ g11 by rw [hg11]; exact Nat.ne_of_lt (blk_lt BM.out)); have GO11 := Aside0.mk (show gO ≠ g11 by rw [hg11]; exact Nat.ne_of_lt (blk_lt BO.out)); have m_BM := Aside0.mk (blk_below BM.out hb); have m_BO := Aside0.mk (blk_below BO.out hb); have m_H0 := Aside0.mk (Kd.R_below H0.out hb); have m_H8 := Aside0.mk (Kd.R_below H8.out hb); have m_HB := Aside0.mk (below_step HB.out hb); clear BM BO H0 H8 HB; have BM := m_BM; have BO := m_BO; have H0 := m_H0; have H8 := m_H8; have HB := m_HB; clear m_BM m_BO m_H0 m_H8 m_HB; clear hbox hb hg11 hld; have hl0 : Sem.run Try.prog (Wide.heavy0 ⟨g11, 0, none⟩ 44) w4 = .ok cx.toArray w4 := row_load B11.out 0 44 _ HX.out.1 (by rw [List.drop_zero, List.take_of_length_le (by rw [HX.out.1]; exact Nat.le_refl _)])) | ((with_reducible refine gate_callee (f := 39) rfl ?_); refine goesL_ (some 39) rfl rfl Try.func39 (by kernel_rfl) rfl #[.agg cx.toArray] rfl (by (try simp only [List.map_toArray, List.map_cons, List.map_nil]); first | done | rfl) ?_; refine (CX.out _).mono ?_; rintro e w5 ⟨rfl, hb⟩; refine ⟨_, rfl, ?_⟩; have m_BM := Aside0.mk (blk_below BM.out hb); have m_BO := Aside0.mk (blk_below BO.out hb); have m_H0 := Aside0.mk (Kd.R_below H0.out hb); have m_H8 := Aside0.mk (Kd.R_below H8.out hb); have m_HB := Aside0.mk (below_step HB.out hb); have m_B11 := Aside0.mk (blk_below B11.out hb); clear BM BO H0 H8 HB B11; have BM := m_BM; have BO := m_BO; have H0 := m_H0; have H8 := m_H8; have HB := m_HB; have B11 := m_B11; clear m_BM m_BO m_H0 m_H8 m_HB m_B11; clear hb hl0; have hl0 : Sem.run Try.prog (Wide.heavy0 ⟨g11, 0, none⟩ 44) w5 = .ok cx.toArray w5 := row_load B11.out 0 44 _ HX.out.1 (by rw [List.drop_zero, List.take_of_length_le (by rw [HX.out.1]; exact Nat.le_refl _)])))
      clear hl0
      have m_BM := Aside0.mk (blk_drew BM.out)
      have m_BO := Aside0.mk (blk_drew BO.out)
      have m_B11 := Aside0.mk (blk_drew B11.out)
      have m_H0 := Aside0.mk (Kd.R_drew H0.out)
      have m_H8 := Aside0.mk (Kd.R_drew H8.out)
      have m_HB := Aside0.mk (below_drew1 HB.out)
      clear BM BO B11 H0 H8 HB
      have BM := m_BM
      have BO := m_BO
      have B11 := m_B11
      have H0 := m_H0
      have H8 := m_H8
      have HB := m_HB
      clear m_BM m_BO m_B11 m_H0 m_H8 m_HB
      refine start_ (n := 10) (S := (fun w' => w'.cell? ⟨gm, 0, none⟩ = some v0 ∧ Sem.run Try.prog (Wide.heavy0 ⟨g11, 0, none⟩ 44) w' = .ok cx.toArray w')) (ds := [9]) #[false, false, false, false, false, false, false, false, false, false] (by kernel_rfl) rfl rfl ⟨(blk_cell BM.out 0).trans rfl, (row_load B11.out 0 44 _ HX.out.1 (by rw [List.drop_zero, List.take_of_length_le (by rw [HX.out.1]; exact Nat.le_refl _)]))⟩ (fun hHeld => ?_)
      generalize w5.drew = w6 at BM BO B11 H0 H8 HB hHeld ⊢
      refine pure_ (i := 0) (N := some 42) (v := ?_) (a' := ?_) #[true, false, false, false, false, false, false, false, false, false] rfl rfl (by kernel_rfl) (fun _ _ _ h => h) (Or.inl ⟨by rfl, ?_⟩) ?_ ?_
      rotate_left
      ·intro w'
       go_simp
       with_reducible rfl
      rotate_left
      ·simp only [Act.put, List.setIfInBounds_toArray, List.set_cons_zero, List.set_cons_succ, i64_w, i32_w]
       rfl
      refine pure_ (i := 1) (N := some 43) (v := ?_) (a' := ?_) #[true, true, false, false, false, false, false, false, false, false] rfl rfl (by kernel_rfl) (fun _ _ _ h => h) (Or.inl ⟨by rfl, ?_⟩) ?_ ?_
      rotate_left
      ·intro w'
       go_simp
       with_reducible rfl
      rotate_left
      ·simp only [Act.put, List.setIfInBounds_toArray, List.set_cons_zero, List.set_cons_succ, i64_w, i32_w]
       rfl
      refine take_ (i := 2) (N := some 44) (v := ?_) (a' := ?_) #[true, true, true, false, false, false, false, false, false, false] rfl rfl (by kernel_rfl) (fun _ _ _ h => h) (Or.inl ⟨by rfl, ?_⟩) hHeld ?_ ?_
      rotate_left
      ·rintro w' ⟨hc0, hl0⟩
       go_simp
       with_reducible rfl
      rotate_left
      ·simp only [Act.put, List.setIfInBounds_toArray, List.set_cons_zero, List.set_cons_succ, i64_w, i32_w]
       rfl
      refine take_ (i := 3) (N := some 45) (v := ?_) (a' := ?_) #[true, true, true, true, false, false, false, false, false, false] rfl rfl (by kernel_rfl) (fun _ _ _ h => h) (Or.inl ⟨by rfl, ?_⟩) hHeld ?_ ?_
      rotate_left
      ·rintro w' ⟨hc0, hl0⟩
       go_simp
       with_reducible rfl
      rotate_left
      ·simp only [Act.put, List.setIfInBounds_toArray, List.set_cons_zero, List.set_cons_succ, i64_w, i32_w]
       rfl
      refine one_ (i := 4) (N := some 46) #[true, true, true, true, true, false, false, false, false, false] rfl rfl (by kernel_rfl) (by decide) (fun K hK => ?_)
      refine goes_ Try.func69 (by kernel_rfl) rfl #[.agg cx.toArray] (by rfl) rfl rfl (by (try simp only [List.map_toArray, List.map_cons, List.map_nil]); first | done | rfl) ?_
      refine (IX.out _).mono ?_
      rintro e w9 ⟨rfl, hb⟩
      refine ⟨_, rfl, ?_⟩
      have m_BM := Aside0.mk (blk_below BM.out hb)
      have m_BO := Aside0.mk (blk_below BO.out hb)
      have m_H0 := Aside0.mk (Kd.R_below H0.out hb)
      have m_H8 := Aside0.mk (Kd.R_below H8.out hb)
      have m_HB := Aside0.mk (below_step HB.out hb)
      have m_B11 := Aside0.mk (blk_below B11.out hb)
      clear BM BO H0 H8 HB B11
      have BM := m_BM
      have BO := m_BO
      have H0 := m_H0
      have H8 := m_H8
      have HB := m_HB
      have B11 := m_B11
      clear m_BM m_BO m_H0 m_H8 m_HB m_B11
      clear hb
      generalize hic : I.inCells x = ic at HM HH ⊢
      clear hic
      refine hK.out _ _ ⟨(blk_cell BM.out 0).trans rfl, (row_load B11.out 0 44 _ HX.out.1 (by rw [List.drop_zero, List.take_of_length_le (by rw [HX.out.1]; exact Nat.le_refl _)]))⟩ (fun hHeld => ?_)
      clear hK K
      refine norm_ (a' := ?_) ?_ ?_
      rotate_left
      ·show Act.put _ (some 46) _ = _
       simp only [Act.put, List.setIfInBounds_toArray, List.set_cons_zero, List.set_cons_succ, i64_w, i32_w]
       rfl
      refine one_ (i := 5) (N := some 47) #[true, true, true, true, true, true, false, false, false, false] rfl rfl (by kernel_rfl) (by decide) (fun K hK => ?_)
      refine value_ (w1 := w9.alloc (.cells ic.toArray 38)) (v := .slice (some ⟨w9.heap.size, 0, none⟩) 1 1) (by rfl) rfl ?_ ?_
      ·clear HM HC HT HTT HA
       obtain ⟨u0, u1, u2, u3, u4, u5, u6, u7, u8, u9, u10, u11, u12, u13, u14, u15, u16, u17, u18, u19, u20, u21, u22, u23, u24, u25, u26, u27, u28, u29, u30, u31, u32, u33, u34, u35, u36, rfl⟩ := list37 HH.out
       first | (go_simp; done) | (go_simp; rfl)
      refine hK.out _ _ ⟨(blk_cell (blk_alloc BM.out _) 0).trans rfl, (row_load (blk_alloc B11.out _) 0 44 _ HX.out.1 (by rw [List.drop_zero, List.take_of_length_le (by rw [HX.out.1]; exact Nat.le_refl _)]))⟩ (fun hHeld => ?_)
      clear hK K
      refine norm_ (a' := ?_) ?_ ?_
      rotate_left
      ·show Act.put _ (some 47) _ = _
       simp only [Act.put, List.setIfInBounds_toArray, List.set_cons_zero, List.set_cons_succ, i64_w, i32_w]
       rfl
      refine one_ (i := 6) (N := some 48) #[true, true, true, true, true, true, true, false, false, false] rfl rfl (by kernel_rfl) (by decide) (fun K hK => ?_)
      refine Kd.R_append_step k38 (w0 := w) (W := w9) w.heap.size (by rfl) (.tmp 44) (.tmp 47) 25 38 (.agg #[(.int .u8 0), (.int .u8 0), (.int .u8 0), (.int .u8 0), (.int .u8 0), (.int .u8 0), (.int .u8 0), (.int .u8 0), (.int .u8 0), (.int .u8 0), (.int .u8 0), (.int .u8 0), (.int .u8 0), (.int .u8 0), (.int .u8 0), (.int .u8 0), (.int .u8 0), (.int .u8 0), (.int .u8 0), (.int .u8 0), (.int .u8 0), (.int .u8 0), (.int .u8 0), (.int .u8 0), (.int .u8 0), (.int .u8 0), (.int .u8 0), (.int .u8 0), (.int .u8 0), (.int .u8 0), (.int .u8 0), (.int .u8 0), (.int .i64 0), (.int .i64 0), (.int .i64 0), (.int .i64 0), (.string ⟨#[]⟩)]) 80 rfl Try.underlying25 info38 rfl (by decide) (by omega) v0 ((l.take i).map I.inS) (I.inS x) ic (fun _ => True) (fun _ => False) rfl rfl (HM.out _ _ _) (fun _ h => h.elim) (fun _ _ => trivial) H0.out HB.out HB.out.size (by have := HL.out; rw [List.length_map, List.length_take]; omega) ?_
      intro v48 w10 hv hb hg hat
      have hE : (l.take i).map I.inS ++ [I.inS x] = (l.take (i + 1)).map I.inS := by rw [HT1.out, List.map_append]; rfl
      rw [hE] at hv
      have m_BM := Aside0.mk (blk_grown BM.out hg (Kd.R_ne H0.out BM.out (by decide)))
      have m_BO := Aside0.mk (blk_grown BO.out hg (Kd.R_ne H0.out BO.out (by decide)))
      have m_B11 := Aside0.mk (blk_grown B11.out hg (Kd.R_ne H0.out B11.out (by decide)))
      have m_H8 := Aside0.mk (Kd.R_grown2 H8.out rfl hg (R_apart H0.out H8.out (by decide)))
      clear BM BO B11 H0 H8 HB hg hat hE
      have BM := m_BM
      have BO := m_BO
      have B11 := m_B11
      have H8 := m_H8
      have H0 := Aside0.mk hv
      have HB := Aside0.mk hb
      clear m_BM m_BO m_B11 m_H8 hv hb
      refine hK.out _ _ ⟨(blk_cell BM.out 0).trans rfl, (row_load B11.out 0 44 _ HX.out.1 (by rw [List.drop_zero, List.take_of_length_le (by rw [HX.out.1]; exact Nat.le_refl _)]))⟩ (fun hHeld => ?_)
      clear hK K
      refine norm_ (a' := ?_) ?_ ?_
      rotate_left
      ·show Act.put _ (some 48) _ = _
       simp only [Act.put, List.setIfInBounds_toArray, List.set_cons_zero, List.set_cons_succ, i64_w, i32_w]
       rfl
      refine pure_ (i := 7) (N := some 49) (v := ?_) (a' := ?_) #[true, true, true, true, true, true, true, true, false, false] rfl rfl (by kernel_rfl) (fun _ _ _ h => h) (Or.inl ⟨by rfl, ?_⟩) ?_ ?_
      rotate_left
      ·intro w'
       go_simp
       with_reducible rfl
      rotate_left
      ·simp only [Act.put, List.setIfInBounds_toArray, List.set_cons_zero, List.set_cons_succ, i64_w, i32_w]
       rfl
      refine pure_ (i := 8) (N := some 50) (v := ?_) (a' := ?_) #[true, true, true, true, true, true, true, true, true, false] rfl rfl (by kernel_rfl) (fun _ _ _ h => h) (Or.inl ⟨by rfl, ?_⟩) ?_ ?_
      rotate_left
      ·intro w'
       go_simp
       with_reducible rfl
      rotate_left
      ·simp only [Act.put, List.setIfInBounds_toArray, List.set_cons_zero, List.set_cons_succ, i64_w, i32_w]
       rfl
      refine last_ (i := 9) (N := none) #[true, true, true, true, true, true, true, true, true, true] rfl rfl (by kernel_rfl) (by decide) (fun K hK => ?_)
      have k0 : w10.cell? ⟨gm, 0, none⟩ = some v0 := (blk_cell BM.out 0).trans rfl
      have f0 := blk_frozen BM.out 0
      refine skip_ (w1 := w10.setCell ⟨gm, 0, none⟩ v48) (by rfl) rfl ?_ ?_
      ·obtain ⟨Av, cv, ev⟩ := Kd.R_slice H0.out
       subst ev
       first | (go_simp; done) | (go_simp; rfl)
      have hgs : w10.grownBy (w10.setCell ⟨gm, 0, none⟩ v48) (some gm) := grown_setCells gm [v48] 0 w10
      have m_BM := Aside0.mk (blk_put BM.out 0 v48 rfl)
      have m_BO := Aside0.mk (blk_far (p := ⟨gm, 0, none⟩) BO.out NO.out v48)
      have m_B11 := Aside0.mk (blk_far (p := ⟨gm, 0, none⟩) B11.out (Ne.symm G11.out) v48)
      have m_H0 := Aside0.mk (Kd.R_grown2 H0.out rfl hgs (fun k e => by cases e; exact Kd.R_ne H0.out BM.out (by decide)))
      have m_H8 := Aside0.mk (Kd.R_grown2 H8.out rfl hgs (fun k e => by cases e; exact Kd.R_ne H8.out BM.out (by decide)))
      have m_HB := Aside0.mk (below_set (j := 0) (v := v48) HB.out GM.out)
      clear BM BO B11 H0 H8 HB hgs k0 f0
      have BM := m_BM
      have BO := m_BO
      have B11 := m_B11
      have H0 := m_H0
      have H8 := m_H8
      have HB := m_HB
      clear m_BM m_BO m_B11 m_H0 m_H8 m_HB
      refine hK.out _ _ ?_
      clear hK K
      refine done_ (by kernel_rfl) ?_
      clear hHeld
      generalize w10.setCell ⟨gm, 0, none⟩ v48 = w11 at BM BO B11 H0 H8 HB ⊢
      have k2 : w11.cell? ⟨gm, 2, none⟩ = some (.int .i64 (lockV I (l.take i))) := (blk_cell BM.out 2).trans rfl
      have k38 : w11.cell? ⟨g11, 38, none⟩ = some (.int .i64 (I.lock x)) := (blk_cell B11.out 38).trans (by simpa using HX.out.2.2.1)
      have f2 := blk_frozen BM.out 2
      go_upto_region 13 with fail
      clear k2 k38 f2
      have hgs : w11.grownBy (w11.setCell ⟨gm, 2, none⟩ (.int .i64 (max (lockV I (l.take i)) (I.lock x)))) (some gm) := grown_setCells gm [(.int .i64 (max (lockV I (l.take i)) (I.lock x)))] 2 w11
      have m_BM := Aside0.mk (blk_put BM.out 2 (.int .i64 (max (lockV I (l.take i)) (I.lock x))) rfl)
      have m_BO := Aside0.mk (blk_far (p := ⟨gm, 2, none⟩) BO.out NO.out (.int .i64 (max (lockV I (l.take i)) (I.lock x))))
      have m_B11 := Aside0.mk (blk_far (p := ⟨gm, 2, none⟩) B11.out (Ne.symm G11.out) (.int .i64 (max (lockV I (l.take i)) (I.lock x))))
      have m_H0 := Aside0.mk (Kd.R_grown2 H0.out rfl hgs (fun k e => by cases e; exact Kd.R_ne H0.out BM.out (by decide)))
      have m_H8 := Aside0.mk (Kd.R_grown2 H8.out rfl hgs (fun k e => by cases e; exact Kd.R_ne H8.out BM.out (by decide)))
      have m_HB := Aside0.mk (below_set (j := 2) (v := (.int .i64 (max (lockV I (l.take i)) (I.lock x)))) HB.out GM.out)
      clear BM BO B11 H0 H8 HB hgs
      have BM := m_BM
      have BO := m_BO
      have B11 := m_B11
      have H0 := m_H0
      have H8 := m_H8
      have HB := m_HB
      clear m_BM m_BO m_B11 m_H0 m_H8 m_HB
      generalize w11.setCell ⟨gm, 2, none⟩ (.int .i64 (max (lockV I (l.take i)) (I.lock x))) = w12 at BM BO B11 H0 H8 HB ⊢
      have kv : w12.cell? ⟨g11, 33, none⟩ = some (.int .i64 (I.value x)) := (blk_cell B11.out 33).trans (by simpa using HX.out.2.1)
      go_wp2_with (first | ((with_reducible refine gate_builtin (b := .append) (xs := #[.tmp 60, .tmp 63]) rfl ?_); at_builtin; refine Kd.R_append (Kd.int .i64) (w0 := w) (W := w12) w.heap.size rfl (.tmp 60) (.tmp 63) 22 3 (.int .i64 0) 8 rfl Try.underlying22 info3 rfl (by decide) (by omega) u8 ((l.take i).map I.value) (I.value x) [.int .i64 (I.value x)] (fun _ => True) (fun _ => False) rfl rfl ?aP (fun _ hk => hk.elim) (fun _ _ => trivial) H8.out HB.out HB.out.size ?aL ?_; (case aP => exact rfl); (case aL => have := HL.out; rw [List.length_map, List.length_take]; omega); intro v64 w13 hv hb hg hat; have hE : (l.take i).map I.value ++ [I.value x] = (l.take (i + 1)).map I.value := (by rw [HT1.out, List.map_append]; rfl); rw [hE] at hv; have m_BM := Aside0.mk (blk_grown BM.out hg (Kd.R_ne H8.out BM.out (by decide))); have m_BO := Aside0.mk (blk_grown BO.out hg (Kd.R_ne H8.out BO.out (by decide))); have m_B11 := Aside0.mk (blk_grown B11.out hg (Kd.R_ne H8.out B11.out (by decide))); have m_H0 := Aside0.mk (Kd.R_grown2 H0.out rfl hg (R_apart H8.out H0.out (by decide))); clear BM BO B11 H0 H8 HB hg hat hE kv; have BM := m_BM; have BO := m_BO; have B11 := m_B11; have H0 := m_H0; have H8 := Aside0.mk hv; have HB := Aside0.mk hb; clear m_BM m_BO m_B11 m_H0 hv hb; have kb : w13.cell? ⟨g11, 43, none⟩ = some (.int .i64 (I.budget x)) := (blk_cell B11.out 43).trans (by simpa using HX.out.2.2.2)))
      have hlb := HL.out
      go_roundg (n - (i + 1))
      case measure => omega
      case rel =>
       refine ⟨i + 1, v48, congrArg (Value.int .i64) (by have e := FltL.w64 (n := (i : Int) + 1) (by omega) (by omega); omega), ?_, by omega, by omega, ⟨?_⟩, ⟨?_⟩, BO, H0, H8, HB⟩
       ·rw [HT1.out, budV_snoc, ← i64_w]
       ·rw [HT1.out, List.all_append, HCK.out]; simp [HC0.out]
       ·rw [HT1.out, lockV_snoc]; exact BM.out
     ·have c0 : (ck x == 0) = false := by simpa using hc0
      have c1 := eq_false hc0
      have HC0 := Aside0.mk hc0
      clear hc0
      go_wp2_with (first | ((with_reducible refine gate_dst (N := 11) rfl ?_); refine Fill.fill_event (N := 11) (x := 37) (cs := cx.toArray) (t := 90) rfl rfl rfl rfl rfl rfl Try.zeroValue90 ?fs ?fz ?f1 (fun _ => rfl) (fun _ => rfl) ?_; (case fs => exact fun W => (Try.sizeOf90 W).trans (by rw [List.size_toArray, HX.out.1])); (case fz => simp [HX.out.1]); (case f1 => simpa using H1.out); intro g11 hg11 w4 hbox hb; have B11 := Aside0.mk hbox; have G11 := Aside0.mk (show gm ≠ g11 by rw [hg11]; exact Nat.ne_of_lt (blk_lt BM.out)); have GO11 := Aside0.mk (show gO ≠ g11 by rw [hg11]; exact Nat.ne_of_lt (blk_lt BO.out)); have m_BM := Aside0.mk (blk_below BM.out hb); have m_BO := Aside0.mk (blk_below BO.out hb); have m_H0 := Aside0.mk (Kd.R_below H0.out hb); have m_H8 := Aside0.mk (Kd.R_below H8.out hb); have m_HB := Aside0.mk (below_step HB.out hb); clear BM BO H0 H8 HB; have BM := m_BM; have BO := m_BO; have H0 := m_H0; have H8 := m_H8; have HB := m_HB; clear m_BM m_BO m_H0 m_H8 m_HB; clear hbox hb hg11 hld; have hl0 : Sem.run Try.prog (Wide.heavy0 ⟨g11, 0, none⟩ 44) w4 = .ok cx.toArray w4 := row_load B11.out 0 44 _ HX.out.1 (by rw [List.drop_zero, List.take_of_length_le (by rw [HX.out.1]; exact Nat.le_refl _)])) | ((with_reducible refine gate_callee (f := 39) rfl ?_); refine goesL_ (some 39) rfl rfl Try.func39 (by kernel_rfl) rfl #[.agg cx.toArray] rfl (by (try simp only [List.map_toArray, List.map_cons, List.map_nil]); first | done | rfl) ?_; refine (CX.out _).mono ?_; rintro e w5 ⟨rfl, hb⟩; refine ⟨_, rfl, ?_⟩; have m_BM := Aside0.mk (blk_below BM.out hb); have m_BO := Aside0.mk (blk_below BO.out hb); have m_H0 := Aside0.mk (Kd.R_below H0.out hb); have m_H8 := Aside0.mk (Kd.R_below H8.out hb); have m_HB := Aside0.mk (below_step HB.out hb); have m_B11 := Aside0.mk (blk_below B11.out hb); clear BM BO H0 H8 HB B11; have BM := m_BM; have BO := m_BO; have H0 := m_H0; have H8 := m_H8; have HB := m_HB; have B11 := m_B11; clear m_BM m_BO m_H0 m_H8 m_HB m_B11; clear hb hl0; have hl0 : Sem.run Try.prog (Wide.heavy0 ⟨g11, 0, none⟩ 44) w5 = .ok cx.toArray w5 := row_load B11.out 0 44 _ HX.out.1 (by rw [List.drop_zero, List.take_of_length_le (by rw [HX.out.1]; exact Nat.le_refl _)])) | ((with_reducible refine gate_store (t := 39) (p := 6) rfl ?_); refine PutW.store_event ?b1 ?b2 39 (.tmp 6) (.tmp 41) ?b3 (g := gm) (t := 39) (cells := #[.slice none 0 0, .slice none 0 0, .int .i64 0, .int .i64 0, .int .i64 0]) ?a1 ?a2 BM.out ?a3 ?a4 ?a5 ?_; (case b1 => rfl); (case b2 => rfl); (case b3 => rfl); (case a1 => first | rfl | (go_simp; done)); (case a2 => first | rfl | (go_simp; done)); (case a3 => rfl); (case a4 => kernel_rfl); (case a5 => first | rfl | kernel_rfl | (simp [Value.oneCell']; done)); intro w3 hz3 hs3 hg3; have m_HB := Aside0.mk (pw_below_grown HB.out (some gm) HB.out.size hg3 (fun k e => by cases e; exact GM.out)); have m_BM := Aside0.mk hz3; clear hz3 hs3 hg3 HB BM hl0; have HB := m_HB; have BM := m_BM; clear m_HB m_BM))
      have E := Aside0.mk (show o = none by rw [← OO.out, if_pos (Bool.eq_false_iff.2 fun h => HC0.out (by simpa using List.all_eq_true.1 h x HMEM.out))])
      refine bodyPost_ret (results_ct rfl _ _ gm 39 #[.slice none 0 0, .slice none 0 0, .int .i64 0, .int .i64 0, .int .i64 0] (0, 0) _ rfl BM.out Try.underlying39 rfl (by kernel_rfl)) rfl ?_
      rw [E.out]
      exact Made.no rfl HB.out
    ·obtain rfl : i = n := by omega
     have hnl : ¬ (i : Int) < (i : Int) := by omega
     have e0 : l.take i = l := List.take_of_length_le (by rw [HN.out]; exact Nat.le_refl _)
     rw [e0] at HCK BM H0 H8
     rw [e0]
     clear e0
     obtain ⟨A8, c8, e8⟩ := Kd.R_slice H8.out
     subst e8
     obtain ⟨A0, c0, e0⟩ := Kd.R_slice H0.out
     subst e0
     obtain ⟨kt, hkt⟩ := HTT.out (l.map I.value) (by rw [List.length_map, HN.out]; exact HL.out)
     obtain ⟨tv, te, htv⟩ : ∃ a b, tot (l.map I.value) = (a, b) := ⟨_, _, rfl⟩
     obtain ⟨fv, fe, hfv⟩ : ∃ a b, feeS (weightV (l.map I.inS) 1) rate = (a, b) := ⟨_, _, rfl⟩
     rw [htv] at hkt
     have hlen : (l.map I.inS).length < 1000000 := by have := HL.out; rw [List.length_map, HN.out]; omega
     have hkw : tx_Weight.f ((l.map I.inS).length + 1) (l.map I.inS) [outS 0 key] (lockV I l) = some (weightV (l.map I.inS) 1) := weight_f _ _ _ _ hlen (by simp) (by omega)
     have hff : amount_Fee.f (weightV (l.map I.inS) 1) rate = some (fv, fe) := by rw [fee_f, hfv]
     have hoo : o = (if max te fe ≠ 0 then none else if fv > budV I l then none else if wrap64 (tv - fv) < 330 then none else if tc (l.map I.inS) [outS (wrap64 (tv - fv)) key] (lockV I l) ≠ 0 then none else some (⟨l.map I.inS, [outS (wrap64 (tv - fv)) key], lockV I l, fv, rate⟩ : Bt)) := by rw [← OO.out, HCK.out, htv, hfv]; rfl
     have KT := Aside0.mk hkt
     have KW := Aside0.mk hkw
     have KF := Aside0.mk hff
     have OO2 := Aside0.mk hoo
     have LN := Aside0.mk hlen
     clear hkt hkw hff hoo hlen htv hfv OO HTT HCK
     generalize weightV (l.map I.inS) 1 = wt at KW KF
     generalize budV I l = bud at OO2 ⊢
     generalize lockV I l = lk at BM KW OO2
     generalize l.map I.inS = ins at H0 KW OO2 LN BM ⊢
     generalize l.map I.value = vals at H8 KT ⊢
     go_upto_region 18 with (first | ((with_reducible refine gate_callee (f := 30) rfl ?_); refine goesL_ (some 73) rfl rfl Try.func30 (by kernel_rfl) rfl #[.slice A8 vals.length c8] rfl (by (try simp only [List.map_toArray, List.map_cons, List.map_nil]); first | done | rfl) ?_; refine (amount_Total.calls kt A8 c8 vals tv te _ (Kd.R_reads' H8.out).2.2 (Kd.R_reads' H8.out).2.1 KT.out).mono ?_; rintro e w3 ⟨rfl, hd⟩; refine ⟨_, rfl, ?_⟩; have hb := below_drawn0 hd; clear hd; have m_BM := Aside0.mk (blk_below BM.out hb); have m_BO := Aside0.mk (blk_below BO.out hb); have m_H0 := Aside0.mk (Kd.R_below H0.out hb); have m_HB := Aside0.mk (below_step HB.out hb); clear BM BO H0 HB; have BM := m_BM; have BO := m_BO; have H0 := m_H0; have HB := m_HB; clear m_BM m_BO m_H0 m_HB hb; have k0 : w3.cell? ⟨gm, 0, none⟩ = some (.slice A0 ins.length c0) := (blk_cell BM.out 0).trans rfl; have k1 : w3.cell? ⟨gm, 1, none⟩ = some (.slice (some ⟨gO, 0, none⟩) 1 1) := (blk_cell BM.out 1).trans rfl; have k2 : w3.cell? ⟨gm, 2, none⟩ = some (.int .i64 lk) := (blk_cell BM.out 2).trans rfl) | ((with_reducible refine gate_callee (f := 22) rfl ?_); refine goesL_ (some 79) rfl rfl Try.func22 (by kernel_rfl) rfl #[.agg #[.slice A0 ins.length c0, .slice (some ⟨gO, 0, none⟩) 1 1, .int .i64 lk]] rfl (by (try simp only [List.map_toArray, List.map_cons, List.map_nil]); first | done | rfl) ?_; refine (tx_Weight.calls _ A0 c0 ins (some ⟨gO, 0, none⟩) 1 [outS 0 key] lk wt _ (Kd.R_reads' H0.out).2.2 (Kd.R_reads' H0.out).2.1 (Kd.R_reads' (outR 0 key BO.out GO.out)).2.2 (Nat.le_refl _) KW.out).mono ?_; rintro e w4 ⟨rfl, hb⟩; refine ⟨_, rfl, ?_⟩; clear k0 k1 k2; have m_BM := Aside0.mk (blk_below BM.out hb); have m_BO := Aside0.mk (blk_below BO.out hb); have m_H0 := Aside0.mk (Kd.R_below H0.out hb); have m_HB := Aside0.mk (below_step HB.out hb); clear BM BO H0 HB; have BM := m_BM; have BO := m_BO; have H0 := m_H0; have HB := m_HB; clear m_BM m_BO m_H0 m_HB hb) | (go_at_call 29; refine (amount_Fee.calls wt rate fv fe _ KF.out).mono ?_; rintro e w5 ⟨rfl, hd⟩; have hb := below_drawn0 hd; clear hd; have m_BM := Aside0.mk (blk_below BM.out hb); have m_BO := Aside0.mk (blk_below BO.out hb); have m_H0 := Aside0.mk (Kd.R_below H0.out hb); have m_HB := Aside0.mk (below_step HB.out hb); clear BM BO H0 HB; have BM := m_BM; have BO := m_BO; have H0 := m_H0; have HB := m_HB; clear m_BM m_BO m_H0 m_HB hb))
     by_cases h1 : max te fe = 0
     ·skip
      have h1a := eq_true h1
      have h1b : (max te fe == 0) = true := by simpa using h1
      have H1E := Aside0.mk h1
      clear h1
      by_cases h2 : bud < fv
      ·skip
       have h2a := eq_true h2
       have E := Aside0.mk (show o = none by rw [OO2.out, if_neg (fun h => h H1E.out), if_pos h2])
       clear h2
       go_wp2_with (first | ((with_reducible refine gate_store (t := 39) (p := 6) rfl ?_); refine PutW.store_event ?b1 ?b2 39 (.tmp 6) (.tmp 99) ?b3 (g := gm) (t := 39) (cells := #[.slice none 0 0, .slice none 0 0, .int .i64 0, .int .i64 0, .int .i64 0]) ?a1 ?a2 BM.out ?a3 ?a4 ?a5 ?_; (case b1 => rfl); (case b2 => rfl); (case b3 => rfl); (case a1 => first | rfl | (go_simp; done)); (case a2 => first | rfl | (go_simp; done)); (case a3 => rfl); (case a4 => kernel_rfl); (case a5 => first | rfl | kernel_rfl | (simp [Value.oneCell']; done)); intro w3 hz3 hs3 hg3; have m_HB := Aside0.mk (pw_below_grown HB.out (some gm) HB.out.size hg3 (fun k e => by cases e; exact GM.out)); have m_BM := Aside0.mk hz3; clear hz3 hs3 hg3 HB BM; have HB := m_HB; have BM := m_BM; clear m_HB m_BM))
       (refine bodyPost_ret (results_ct rfl _ _ gm 39 #[.slice none 0 0, .slice none 0 0, .int .i64 0, .int .i64 0, .int .i64 0] (0, 0) _ rfl BM.out Try.underlying39 rfl (by kernel_rfl)) rfl ?_; rw [E.out]; exact Made.no rfl HB.out)
      ·skip
       have h2a := eq_false h2
       have H2E := Aside0.mk h2
       clear h2
       obtain ⟨dv, hdv⟩ : ∃ d, wrap64 (tv - fv) = d := ⟨_, rfl⟩
       rw [hdv] at OO2
       have hdw : IntKind.i64.wrap (tv - fv) = dv := by rw [i64_w]; exact hdv
       clear hdv
       by_cases h3 : dv < 330
       ·skip
        have h3a := eq_true h3
        have E := Aside0.mk (show o = none by rw [OO2.out, if_neg (fun h => h H1E.out), if_neg H2E.out, if_pos h3])
        clear h3
        go_wp2_with (first | ((with_reducible refine gate_store (t := 39) (p := 6) rfl ?_); refine PutW.store_event ?b1 ?b2 39 (.tmp 6) (.tmp 99) ?b3 (g := gm) (t := 39) (cells := #[.slice none 0 0, .slice none 0 0, .int .i64 0, .int .i64 0, .int .i64 0]) ?a1 ?a2 BM.out ?a3 ?a4 ?a5 ?_; (case b1 => rfl); (case b2 => rfl); (case b3 => rfl); (case a1 => first | rfl | (go_simp; done)); (case a2 => first | rfl | (go_simp; done)); (case a3 => rfl); (case a4 => kernel_rfl); (case a5 => first | rfl | kernel_rfl | (simp [Value.oneCell']; done)); intro w3 hz3 hs3 hg3; have m_HB := Aside0.mk (pw_below_grown HB.out (some gm) HB.out.size hg3 (fun k e => by cases e; exact GM.out)); have m_BM := Aside0.mk hz3; clear hz3 hs3 hg3 HB BM; have HB := m_HB; have BM := m_BM; clear m_HB m_BM))
        (refine bodyPost_ret (results_ct rfl _ _ gm 39 #[.slice none 0 0, .slice none 0 0, .int .i64 0, .int .i64 0, .int .i64 0] (0, 0) _ rfl BM.out Try.underlying39 rfl (by kernel_rfl)) rfl ?_; rw [E.out]; exact Made.no rfl HB.out)
       ·skip
        have h3a := eq_false h3
        have H3E := Aside0.mk h3
        clear h3
        have k0 : w5.cell? ⟨gm, 0, none⟩ = some (.slice A0 ins.length c0) := (blk_cell BM.out 0).trans rfl
        have k1 : w5.cell? ⟨gm, 1, none⟩ = some (.slice (some ⟨gO, 0, none⟩) 1 1) := (blk_cell BM.out 1).trans rfl
        have k2 : w5.cell? ⟨gm, 2, none⟩ = some (.int .i64 lk) := (blk_cell BM.out 2).trans rfl
        have k3 : w5.cell? ⟨gm, 3, none⟩ = some (.int .i64 0) := (blk_cell BM.out 3).trans rfl
        have kO : w5.cell? ⟨gO, 0, none⟩ = some (.int .i64 0) := (blk_cell BO.out 0).trans rfl
        have f3 := blk_frozen BM.out 3
        have fO := blk_frozen BO.out 0
        have n1 := NO.out
        have n2 := Ne.symm NO.out
        go_upto_region 21 with fail
        clear k0 k1 k2 k3 kO f3 fO n1 n2
        have hgs : w5.grownBy (w5.setCell ⟨gm, 3, none⟩ (.int .i64 fv)) (some gm) := grown_setCells gm [(.int .i64 fv)] 3 w5
        have m_BM := Aside0.mk (blk_put BM.out 3 (.int .i64 fv) rfl)
        have m_BO := Aside0.mk (blk_far (p := ⟨gm, 3, none⟩) BO.out NO.out (.int .i64 fv))
        have m_H0 := Aside0.mk (Kd.R_grown2 H0.out rfl hgs (fun k e => by cases e; exact Kd.R_ne H0.out BM.out (by decide)))
        have m_HB := Aside0.mk (below_set (j := 3) (v := (.int .i64 fv)) HB.out GM.out)
        clear BM BO H0 HB hgs
        have BM := m_BM
        have BO := m_BO
        have H0 := m_H0
        have HB := m_HB
        clear m_BM m_BO m_H0 m_HB
        have hgs : (w5.setCell ⟨gm, 3, none⟩ (.int .i64 fv)).grownBy ((w5.setCell ⟨gm, 3, none⟩ (.int .i64 fv)).setCell ⟨gO, 0, none⟩ (.int .i64 dv)) (some gO) := grown_setCells gO [.int .i64 dv] 0 _
        have m_BM := Aside0.mk (blk_far (p := ⟨gO, 0, none⟩) BM.out (Ne.symm NO.out) (.int .i64 dv))
        have m_BO := Aside0.mk (blk_put (cs' := outCells dv key) BO.out 0 (.int .i64 dv) rfl)
        have m_H0 := Aside0.mk (Kd.R_grown2 H0.out rfl hgs (fun k e => by cases e; exact Kd.R_ne H0.out BO.out (by decide)))
        have m_HB := Aside0.mk (below_set (j := 0) (v := .int .i64 dv) HB.out GO.out)
        clear BM BO H0 HB hgs
        have BM := m_BM
        have BO := m_BO
        have H0 := m_H0
        have HB := m_HB
        clear m_BM m_BO m_H0 m_HB
        generalize (w5.setCell ⟨gm, 3, none⟩ (.int .i64 fv)).setCell ⟨gO, 0, none⟩ (.int .i64 dv) = w6 at BM BO H0 HB ⊢
        have k0 : w6.cell? ⟨gm, 0, none⟩ = some (.slice A0 ins.length c0) := (blk_cell BM.out 0).trans rfl
        have k1 : w6.cell? ⟨gm, 1, none⟩ = some (.slice (some ⟨gO, 0, none⟩) 1 1) := (blk_cell BM.out 1).trans rfl
        have k2 : w6.cell? ⟨gm, 2, none⟩ = some (.int .i64 lk) := (blk_cell BM.out 2).trans rfl
        obtain ⟨cv, hcv⟩ : ∃ x, tc ins [outS dv key] lk = x := ⟨_, rfl⟩
        rw [hcv] at OO2
        have HTC := Aside0.mk hcv
        clear hcv
        by_cases h4 : cv = 0
        ·skip
         subst h4
         have HT0 := Aside0.mk (show ∀ W, Kd.C k38 W A0 ins.length ins → Kd.C k64 W (some ⟨gO, 0, none⟩) 1 [outS dv key] → ins.length ≤ c0 → Calls Try.prog 21 #[.agg #[.slice A0 ins.length c0, .slice (some ⟨gO, 0, none⟩) 1 1, .int .i64 lk]] W fun e w' => e = .returned (.int .i64 0) ∧ Below W.heap.size W w' from fun W g1 g2 g3 => by have h := HT.out A0 c0 ins (some ⟨gO, 0, none⟩) 1 [outS dv key] lk W g1 g3 g2 (Nat.le_refl _) LN.out (by simp); rw [HTC.out] at h; exact h)
         have E := Aside0.mk (show o = some (⟨ins, [outS dv key], lk, fv, rate⟩ : Bt) by rw [OO2.out, if_neg (fun h => h H1E.out), if_neg H2E.out, if_neg H3E.out, if_neg (fun h => h rfl)])
         go_wp2_with (first | ((with_reducible refine gate_callee (f := 21) rfl ?_); refine goesL_ (some 112) rfl rfl Try.func21 (by kernel_rfl) rfl #[.agg #[.slice A0 ins.length c0, .slice (some ⟨gO, 0, none⟩) 1 1, .int .i64 lk]] rfl (by (try simp only [List.map_toArray, List.map_cons, List.map_nil]); first | done | rfl) ?_; refine (HT0.out _ (Kd.R_reads' H0.out).2.2 (Kd.R_reads' (outR dv key BO.out GO.out)).2.2 (Kd.R_reads' H0.out).2.1).mono ?_; rintro e w7 ⟨rfl, hb⟩; refine ⟨_, rfl, ?_⟩; clear k0 k1 k2; have m_BM := Aside0.mk (blk_below BM.out hb); have m_BO := Aside0.mk (blk_below BO.out hb); have m_H0 := Aside0.mk (Kd.R_below H0.out hb); have m_HB := Aside0.mk (below_step HB.out hb); clear BM BO H0 HB; have BM := m_BM; have BO := m_BO; have H0 := m_H0; have HB := m_HB; clear m_BM m_BO m_H0 m_HB hb; have k0 : w7.cell? ⟨gm, 0, none⟩ = some (.slice A0 ins.length c0) := (blk_cell BM.out 0).trans rfl; have k1 : w7.cell? ⟨gm, 1, none⟩ = some (.slice (some ⟨gO, 0, none⟩) 1 1) := (blk_cell BM.out 1).trans rfl; have k2 : w7.cell? ⟨gm, 2, none⟩ = some (.int .i64 lk) := (blk_cell BM.out 2).trans rfl; have k3 : w7.cell? ⟨gm, 3, none⟩ = some (.int .i64 fv) := (blk_cell BM.out 3).trans rfl; have k4 : w7.cell? ⟨gm, 4, none⟩ = some (.int .i64 rate) := (blk_cell BM.out 4).trans rfl) | ((with_reducible refine gate_store (t := 39) (p := 6) rfl ?_); refine PutW.store_event ?b1 ?b2 39 (.tmp 6) (.tmp 115) ?b3 (g := gm) (t := 39) (cells := #[.slice A0 ins.length c0, .slice (some ⟨gO, 0, none⟩) 1 1, .int .i64 lk, .int .i64 fv, .int .i64 rate]) ?a1 ?a2 BM.out ?a3 ?a4 ?a5 ?_; (case b1 => rfl); (case b2 => rfl); (case b3 => rfl); (case a1 => first | rfl | (go_simp; done)); (case a2 => first | rfl | (go_simp; done)); (case a3 => rfl); (case a4 => kernel_rfl); (case a5 => first | rfl | kernel_rfl | (simp [Value.oneCell']; done)); intro w8 hz3 hs3 hg3; have m_HB := Aside0.mk (pw_below_grown HB.out (some gm) HB.out.size hg3 (fun k e => by cases e; exact GM.out)); have m_BM := Aside0.mk hz3; have m_BO := Aside0.mk (blk_grown BO.out hg3 (by simpa using NO.out)); have m_H0 := Aside0.mk (Kd.R_grown2 H0.out rfl hg3 (fun k e => by cases e; exact Kd.R_ne H0.out BM.out (by decide))); clear hz3 hs3 hg3 HB BM BO H0 k0 k1 k2 k3 k4; have HB := m_HB; have BM := m_BM; have BO := m_BO; have H0 := m_H0; clear m_HB m_BM m_BO m_H0))
         refine bodyPost_ret (results_ct rfl _ _ gm 39 #[.slice A0 ins.length c0, .slice (some ⟨gO, 0, none⟩) 1 1, .int .i64 lk, .int .i64 fv, .int .i64 rate] (0, 0) _ rfl BM.out Try.underlying39 rfl (by kernel_rfl)) rfl ?_
         rw [E.out]
         exact ⟨_, _, rfl, H0.out, outR dv key BO.out GO.out, HB.out⟩
        ·skip
         have h4a := eq_false h4
         have h4b : (cv == 0) = false := by simpa using h4
         have HT0 := Aside0.mk (show ∀ W, Kd.C k38 W A0 ins.length ins → Kd.C k64 W (some ⟨gO, 0, none⟩) 1 [outS dv key] → ins.length ≤ c0 → Calls Try.prog 21 #[.agg #[.slice A0 ins.length c0, .slice (some ⟨gO, 0, none⟩) 1 1, .int .i64 lk]] W fun e w' => e = .returned (.int .i64 cv) ∧ Below W.heap.size W w' from fun W g1 g2 g3 => by have h := HT.out A0 c0 ins (some ⟨gO, 0, none⟩) 1 [outS dv key] lk W g1 g3 g2 (Nat.le_refl _) LN.out (by simp); rw [HTC.out] at h; exact h)
         have E := Aside0.mk (show o = none by rw [OO2.out, if_neg (fun h => h H1E.out), if_neg H2E.out, if_neg H3E.out, if_pos h4])
         clear h4
         go_wp2_with (first | ((with_reducible refine gate_callee (f := 21) rfl ?_); refine goesL_ (some 112) rfl rfl Try.func21 (by kernel_rfl) rfl #[.agg #[.slice A0 ins.length c0, .slice (some ⟨gO, 0, none⟩) 1 1, .int .i64 lk]] rfl (by (try simp only [List.map_toArray, List.map_cons, List.map_nil]); first | done | rfl) ?_; refine (HT0.out _ (Kd.R_reads' H0.out).2.2 (Kd.R_reads' (outR dv key BO.out GO.out)).2.2 (Kd.R_reads' H0.out).2.1).mono ?_; rintro e w7 ⟨rfl, hb⟩; refine ⟨_, rfl, ?_⟩; clear k0 k1 k2; have m_BM := Aside0.mk (blk_below BM.out hb); have m_BO := Aside0.mk (blk_below BO.out hb); have m_H0 := Aside0.mk (Kd.R_below H0.out hb); have m_HB := Aside0.mk (below_step HB.out hb); clear BM BO H0 HB; have BM := m_BM; have BO := m_BO; have H0 := m_H0; have HB := m_HB; clear m_BM m_BO m_H0 m_HB hb) | ((with_reducible refine gate_store (t := 39) (p := 6) rfl ?_); refine PutW.store_event ?b1 ?b2 39 (.tmp 6) (.tmp 114) ?b3 (g := gm) (t := 39) (cells := #[.slice none 0 0, .slice none 0 0, .int .i64 0, .int .i64 0, .int .i64 0]) ?a1 ?a2 BM.out ?a3 ?a4 ?a5 ?_; (case b1 => rfl); (case b2 => rfl); (case b3 => rfl); (case a1 => first | rfl | (go_simp; done)); (case a2 => first | rfl | (go_simp; done)); (case a3 => rfl); (case a4 => kernel_rfl); (case a5 => first | rfl | kernel_rfl | (simp [Value.oneCell']; done)); intro w3 hz3 hs3 hg3; have m_HB := Aside0.mk (pw_below_grown HB.out (some gm) HB.out.size hg3 (fun k e => by cases e; exact GM.out)); have m_BM := Aside0.mk hz3; clear hz3 hs3 hg3 HB BM; have HB := m_HB; have BM := m_BM; clear m_HB m_BM))
         (refine bodyPost_ret (results_ct rfl _ _ gm 39 #[.slice none 0 0, .slice none 0 0, .int .i64 0, .int .i64 0, .int .i64 0] (0, 0) _ rfl BM.out Try.underlying39 rfl (by kernel_rfl)) rfl ?_; rw [E.out]; exact Made.no rfl HB.out)
     ·skip
      have h1a := eq_false h1
      have h1b : (max te fe == 0) = false := by simpa using h1
      have E := Aside0.mk (show o = none by rw [OO2.out, if_pos h1])
      clear h1
      go_wp2_with (first | ((with_reducible refine gate_store (t := 39) (p := 6) rfl ?_); refine PutW.store_event ?b1 ?b2 39 (.tmp 6) (.tmp 99) ?b3 (g := gm) (t := 39) (cells := #[.slice none 0 0, .slice none 0 0, .int .i64 0, .int .i64 0, .int .i64 0]) ?a1 ?a2 BM.out ?a3 ?a4 ?a5 ?_; (case b1 => rfl); (case b2 => rfl); (case b3 => rfl); (case a1 => first | rfl | (go_simp; done)); (case a2 => first | rfl | (go_simp; done)); (case a3 => rfl); (case a4 => kernel_rfl); (case a5 => first | rfl | kernel_rfl | (simp [Value.oneCell']; done)); intro w3 hz3 hs3 hg3; have m_HB := Aside0.mk (pw_below_grown HB.out (some gm) HB.out.size hg3 (fun k e => by cases e; exact GM.out)); have m_BM := Aside0.mk hz3; clear hz3 hs3 hg3 HB BM; have HB := m_HB; have BM := m_BM; clear m_HB m_BM))
      (refine bodyPost_ret (results_ct rfl _ _ gm 39 #[.slice none 0 0, .slice none 0 0, .int .i64 0, .int .i64 0, .int .i64 0] (0, 0) _ rfl BM.out Try.underlying39 rfl (by kernel_rfl)) rfl ?_; rw [E.out]; exact Made.no rfl HB.out)
end Go.Proofs.Ytiodebjjbgcbhaa.Inp
