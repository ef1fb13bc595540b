import Derived.Test.YtiodebjjbgcbhaaGreatInpL
import Derived.Test.YtiodebjjbgcbhaaGreatLefL
import Derived.Test.YtiodebjjbgcbhaaGreatBatK
namespace Go.Proofs.YtiodebjjbgcbhaaGreat.Inp
open Go.RowKit Go.Sort Go.Lib Go.Shelf Go.Proofs YtiodebjjbgcbhaaGreatW.PrintWords YtiodebjjbgcbhaaGreatW.PrintLast YtiodebjjbgcbhaaGreatW.PrintMore YtiodebjjbgcbhaaGreat Hand RowK Fill OrdO QLef
attribute [local go_sem ↓ high] Wide.hv44 Wide.hv33 Wide.hv37
set_option linter.unusedVariables false
set_option linter.unusedSectionVars false
set_option linter.unusedSimpArgs false
variable {α : Type}
def payCells (key : Int) : Array Value := #[.int .i64 1, .int .i64 key, .int .i64 0, .int .i64 0, .int .i64 0, .int .i64 0, .int .u8 0, .int .u8 0, .int .u8 0, .int .u8 0, .int .u8 0, .int .u8 0, .int .u8 0, .int .u8 0, .int .u8 0, .int .u8 0, .int .u8 0, .int .u8 0, .int .u8 0, .int .u8 0, .int .u8 0, .int .u8 0, .int .u8 0, .int .u8 0, .int .u8 0, .int .u8 0, .int .u8 0, .int .u8 0, .int .u8 0, .int .u8 0, .int .u8 0, .int .u8 0, .int .u8 0, .int .u8 0, .int .u8 0, .int .u8 0, .int .u8 0, .int .u8 0]
set_option maxHeartbeats 4000000 in
set_option maxRecDepth 100000 in
theorem pay_calls (key : Int) (w : World) : Calls Tryz.prog 32 #[.int .i64 key] w fun e w' => e = .returned (.agg (payCells key)) ∧ Below w.heap.size w w' := by
 have HB := Ak (Below.refl w.heap.size w)
 unfold payCells
 go_enter Tryz.func32, Tryz.ntmps32
 go_wp2_with (first | ((with_reducible refine gate_dst (N := 2) rfl ?_); refine box_event ?hg (N := 2) ?hd (cs := #[.int .i64 0, .int .i64 0, .int .i64 0, .int .i64 0, .int .i64 0, .int .i64 0, .int .u8 0, .int .u8 0, .int .u8 0, .int .u8 0, .int .u8 0, .int .u8 0, .int .u8 0, .int .u8 0, .int .u8 0, .int .u8 0, .int .u8 0, .int .u8 0, .int .u8 0, .int .u8 0, .int .u8 0, .int .u8 0, .int .u8 0, .int .u8 0, .int .u8 0, .int .u8 0, .int .u8 0, .int .u8 0, .int .u8 0, .int .u8 0, .int .u8 0, .int .u8 0, .int .u8 0, .int .u8 0, .int .u8 0, .int .u8 0, .int .u8 0, .int .u8 0]) (t := 87) ?hr ?_; (case hd => rfl); (case hg => rfl); (case hr => first | (go_simp; done) | (go_simp; rfl)); intro g hg w1 hbox hb; have HB1 := Ak (below_step HB.1 hb); have BK := Ak hbox; have GB := Ak (show w.heap.size ≤ g by rw [hg]; exact Nat.le_refl _); clear HB hbox hb hg) | ((with_reducible refine gate_store (t := 87) (p := 2) rfl ?_); refine PutW.store_event ?b1 ?b2 87 (.tmp 2) (.tmp 4) ?b3 (g := g) (t := 87) (cells := #[.int .i64 1, .int .i64 key, .int .i64 0, .int .i64 0, .int .i64 0, .int .i64 0, .int .u8 0, .int .u8 0, .int .u8 0, .int .u8 0, .int .u8 0, .int .u8 0, .int .u8 0, .int .u8 0, .int .u8 0, .int .u8 0, .int .u8 0, .int .u8 0, .int .u8 0, .int .u8 0, .int .u8 0, .int .u8 0, .int .u8 0, .int .u8 0, .int .u8 0, .int .u8 0, .int .u8 0, .int .u8 0, .int .u8 0, .int .u8 0, .int .u8 0, .int .u8 0, .int .u8 0, .int .u8 0, .int .u8 0, .int .u8 0, .int .u8 0, .int .u8 0]) ?a1 ?a2 BK.1 ?a3 ?a4 ?a5 ?_; (case b1 => rfl); (case b2 => rfl); (case b3 => rfl); (case a1 => first | rfl | (go_simp; done)); (case a2 => first | rfl | (go_simp; done)); (case a3 => rfl); (case a4 => kernel_rfl); (case a5 => first | rfl | kernel_rfl | (simp [Value.oneCell']; done)); intro w3 hz3 hs3 hg3; have HB3 := Ak (pw_below_grown HB1.1 (some g) HB1.1.size hg3 (fun k e => by cases e; exact GB.1)); have BK3 := Ak hz3; clear hz3 hs3 hg3))
 refine bodyPost_ret (results_cell_row rfl _ _ g 87 #[.int .i64 1, .int .i64 key, .int .i64 0, .int .i64 0, .int .i64 0, .int .i64 0, .int .u8 0, .int .u8 0, .int .u8 0, .int .u8 0, .int .u8 0, .int .u8 0, .int .u8 0, .int .u8 0, .int .u8 0, .int .u8 0, .int .u8 0, .int .u8 0, .int .u8 0, .int .u8 0, .int .u8 0, .int .u8 0, .int .u8 0, .int .u8 0, .int .u8 0, .int .u8 0, .int .u8 0, .int .u8 0, .int .u8 0, .int .u8 0, .int .u8 0, .int .u8 0, .int .u8 0, .int .u8 0, .int .u8 0, .int .u8 0, .int .u8 0, .int .u8 0] (0, 0) _ rfl BK3.1 Tryz.underlying87 rfl (by kernel_rfl)) rfl ?_
 exact ⟨rfl, HB3.1⟩
theorem info3 : (Tryz.prog.info? 3).map (fun i => (i.zero, i.size, i.bytes)) = some (some (.int .i64 0), 1, 8) := by kernel_rfl
open Go.RowKit Go.Sort Go.Lib Go.Shelf Go.Proofs YtiodebjjbgcbhaaGreatW.PrintWords YtiodebjjbgcbhaaGreatW.PrintLast YtiodebjjbgcbhaaGreatW.PrintMore YtiodebjjbgcbhaaGreat Hand RowK Fill OrdO QLef LefL
structure Bt where
 ins : List S79
 outs : List S90
 lock : Int
 fee : Int
 rate : Int
def Bt.zero : Bt := ⟨[], [], 0, 0, 0⟩
def outS (v key : Int) : S90 := ⟨v, ⟨1, key, 0, 0, 0, 0, ⟨0, 0, 0, 0, 0, 0, 0, 0, 0, 0, 0, 0, 0, 0, 0, 0, 0, 0, 0, 0, 0, 0, 0, 0, 0, 0, 0, 0, 0, 0, 0, 0⟩⟩⟩
def TxChecked (tc : List S79 → List S90 → Int → Int) : Prop := ∀ (A0 : Option Addr) (c0 : Nat) (l0 : List S79) (A1 : Option Addr) (c1 : Nat) (l1 : List S90) (lock : Int) (W : World), Kd.C k79 W A0 l0.length l0 → l0.length ≤ c0 → Kd.C k90 W A1 l1.length l1 → l1.length ≤ c1 → l0.length < 1000000 → l1.length < 1000000 →
 Calls Tryz.prog 37 #[.agg #[.slice A0 l0.length c0, .slice A1 l1.length c1, .int .i64 lock]] W fun e w' => e = .returned (.int .i64 (tc l0 l1 lock)) ∧ Below W.heap.size W w'
def lockV (I : Spec α) (l : List α) : Int := l.foldl (fun a x => max a (I.lock x)) 0
def budV (I : Spec α) (l : List α) : Int := l.foldl (fun b x => min (wrap64 (b + I.budget x)) 1152921504606846976) 0
def makeV (I : Spec α) (ck : α → Int) (tot : List Int → Int × Int) (tc : List S79 → List S90 → Int → Int) (l : List α) (rate key : Int) : Option Bt :=
 if l = [] then none else
 if wiB key 0 1073741824 = false then none else
 if l.all (fun x => ck x == 0) = false then none else
 let t := tot (l.map I.value)
 let f := feeS (weightV (l.map I.inS) 1) rate
 if max t.2 f.2 ≠ 0 then none else
 if f.1 > budV I l then none else
 if wrap64 (t.1 - f.1) < 330 then none else
 if tc (l.map I.inS) [outS (wrap64 (t.1 - f.1)) key] (lockV I l) ≠ 0 then none else
 some ⟨l.map I.inS, [outS (wrap64 (t.1 - f.1)) key], lockV I l, f.1, rate⟩
def Made (w : World) (e : Ending) (w' : World) (o : Option Bt) : Prop := ∃ v0 v1 : Value, e = .returned (.tuple #[.agg #[v0, v1, .int .i64 (o.getD .zero).lock, .int .i64 (o.getD .zero).fee, .int .i64 (o.getD .zero).rate], .bool o.isSome]) ∧ Kd.R k79 79 w' w.heap.size (fun _ => True) v0 (o.getD .zero).ins ∧ Kd.R k90 90 w' w.heap.size (fun _ => True) v1 (o.getD .zero).outs ∧ Below w.heap.size w w'
theorem Made.no {w w' : World} {v : Value} (h : v = .tuple #[.agg #[.slice none 0 0, .slice none 0 0, .int .i64 0, .int .i64 0, .int .i64 0], .bool false]) (hb : Below w.heap.size w w') : Made w (.returned v) w' none :=
 ⟨.slice none 0 0, .slice none 0 0, by rw [h]; rfl, Kd.R_nil _ _ _ _ _, Kd.R_nil _ _ _ _ _, hb⟩
theorem below_drawn0 {w w' : World} (h : Drawn0 w w') : Below w.heap.size w w' := by
 obtain ⟨nd, rfl⟩ := h
 exact pw_below_drewN (Below.refl _ _) _
theorem budV_snoc (I : Spec α) (l : List α) (x : α) : budV I (l ++ [x]) = min (wrap64 (budV I l + I.budget x)) 1152921504606846976 := by simp [budV]
theorem lockV_snoc (I : Spec α) (l : List α) (x : α) : lockV I (l ++ [x]) = max (lockV I l) (I.lock x) := by simp [lockV]
def outCells (v key : Int) : Array Value := #[.int .i64 v, .int .i64 1, .int .i64 key, .int .i64 0, .int .i64 0, .int .i64 0, .int .i64 0, .int .u8 0, .int .u8 0, .int .u8 0, .int .u8 0, .int .u8 0, .int .u8 0, .int .u8 0, .int .u8 0, .int .u8 0, .int .u8 0, .int .u8 0, .int .u8 0, .int .u8 0, .int .u8 0, .int .u8 0, .int .u8 0, .int .u8 0, .int .u8 0, .int .u8 0, .int .u8 0, .int .u8 0, .int .u8 0, .int .u8 0, .int .u8 0, .int .u8 0, .int .u8 0, .int .u8 0, .int .u8 0, .int .u8 0, .int .u8 0, .int .u8 0, .int .u8 0]
theorem outR {w : World} {base g : Nat} (v key : Int) (h : w.heap[g]? = some (.cells (outCells v key) 90 (0, 0))) (hb : base ≤ g) : Kd.R k90 90 w base (fun _ => True) (.slice (some ⟨g, 0, none⟩) 1 1) [outS v key] :=
 ⟨fun _ _ => trivial, (outCells v key).toList, ⟨rfl, .inr ⟨g, 1, outCells v key, rfl, hb, h, Nat.le_refl _, by unfold maxLen; omega, rfl, rfl⟩⟩, Reps.front (k90_mkM _ _ _ (outS v key)) rfl (Reps.none _ _) (List.append_nil _)⟩
theorem R_apart {α β : Type} {d : Kd α} {d' : Kd β} {e e' b b' : Nat} {ok ok' : Nat → Prop} {w : World} {v v' : Value} {xs : List α} {xs' : List β} (h : d.R e w b ok v xs) (h' : d'.R e' w b' ok' v' xs') (hne : e' ≠ e) : ∀ k, v.ownBlock = some k → some k ≠ v'.ownBlock := fun k hk => by
 obtain ⟨inner, ho⟩ := Kd.R_own h
 obtain ⟨cells, hc⟩ := own_typed ho k hk
 exact Kd.R_ne h' hc hne
theorem reads_load (I : Spec α) {w W : World} {A : Option Addr} {l : List α} (hA : ReadsRow (fun x c => c = I.enc x) 44 w A l.length l) (hb : Below w.heap.size w W) {ad : Addr} (e : A = some ad) {j : Nat} (hj : j < l.length) : Sem.run Tryz.prog (Wide.heavy0 (ad.add (j * 44)) 44) W = .ok (I.enc l[j]).toArray W := by
 obtain ⟨ad', e', hcc⟩ := hA.2.2 (by omega)
 have e2 : ad = ad' := Option.some.inj (e.symm.trans e')
 subst e2
 exact run_loadCellsFrom_list Tryz.prog _ _ (I.enc l[j]) 44 (I.hk _) (fun i v hi => by
  obtain ⟨c, _, rfl, h3⟩ := hcc j _ (List.getElem?_eq_getElem hj)
  have h4 := h3 i v hi
  have e : (ad.add (j * 44)).add i = ad.add (j * 44 + i) := by
   unfold Addr.add
   split <;> rename_i h1
   ·subst h1; simp
   ·split <;> rename_i h2
    ·split <;> rename_i h5
     ·exact absurd h5 (by omega)
     ·simp
    ·split <;> rename_i h5
     ·exact absurd h5 (by omega)
     ·simp [Nat.add_assoc]
  rw [e]
  exact (hb.cell (World.block_lt_of_cell? w _ h4)).trans h4)
set_option maxHeartbeats 16000000 in
set_option maxRecDepth 100000 in
theorem make_calls (I : Spec α) (ck : α → Int) (hC : Checked I ck) (tot : List Int → Int × Int) (htot : ∀ l : List Int, l.length < 100000 → ∃ k, amount_Total.f k l = some (tot l)) (tc : List S79 → List S90 → Int → Int) (hT : TxChecked tc) (l : List α) (A : Option Addr) (c : Nat) (rate key : Int) (w : World) (hA : ReadsRow (fun x c => c = I.enc x) 44 w A l.length l) (hl : l.length < 100000) :
 Calls Tryz.prog 12 #[.slice A l.length c, .int .i64 rate, .int .i64 key] w fun e w' => Made w e w' (makeV I ck tot tc l rate key) := by
 have HC := Ak hC
 have HT := Ak hT
 have HTT := Ak htot
 have HA := Ak hA
 have HL := Ak hl
 have HB := Ak (Below.refl w.heap.size w)
 have PY := Ak (pay_calls key)
 unfold payCells at PY
 have WI := Ak (within_calls key 0 1073741824)
 clear hC hT htot hA hl
 have hu39 := Tryz.underlying50
 unfold makeV
 by_cases hnil : l = []
 ·rw [if_pos hnil]
  subst hnil
  go_enter Tryz.func12, Tryz.ntmps12
  go_wp2_with (first | ((with_reducible refine gate_dst (N := 6) rfl ?_); refine box_event ?hg (N := 6) ?hd (cs := #[.slice none 0 0, .slice none 0 0, .int .i64 0, .int .i64 0, .int .i64 0]) (t := 50) ?hr ?_; (case hd => rfl); (case hg => rfl); (case hr => first | (go_simp; done) | (go_simp; rfl)); intro gm hg w1 hbox hb; have m_HB := Ak (below_step HB.1 hb); have BM := Ak hbox; have GM := Ak (show w.heap.size ≤ gm by rw [hg]; exact Nat.le_refl _); clear HB hbox hb hg; have HB := m_HB; clear m_HB) | ((with_reducible refine gate_store (t := 50) (p := 6) rfl ?_); refine PutW.store_event ?b1 ?b2 50 (.tmp 6) (.tmp 24) ?b3 (g := gm) (t := 50) (cells := #[.slice none 0 0, .slice none 0 0, .int .i64 0, .int .i64 0, .int .i64 0]) ?a1 ?a2 BM.1 ?a3 ?a4 ?a5 ?_; (case b1 => rfl); (case b2 => rfl); (case b3 => rfl); (case a1 => first | rfl | (go_simp; done)); (case a2 => first | rfl | (go_simp; done)); (case a3 => rfl); (case a4 => kernel_rfl); (case a5 => first | rfl | kernel_rfl | (simp [Value.oneCell']; done)); intro w3 hz3 hs3 hg3; replace HB := Ak (pw_below_grown HB.1 (some gm) HB.1.size hg3 (fun k e => by cases e; exact GM.1)); replace BM := Ak hz3; clear hz3 hs3 hg3))
  (refine bodyPost_ret (results_ct rfl _ _ gm 50 #[.slice none 0 0, .slice none 0 0, .int .i64 0, .int .i64 0, .int .i64 0] (0, 0) _ rfl BM.1 Tryz.underlying50 rfl (by kernel_rfl)) rfl ?_; exact Made.no rfl HB.1)
 ·rw [if_neg hnil]
  have hpos : 0 < l.length := List.length_pos_iff.2 hnil
  have HP := Ak hpos
  have hz : ((l.length : Int) == 0) = false := by simp; omega
  have hz2 := eq_false (show ¬ (l.length : Int) = 0 by omega)
  have hz3 := eq_false hnil
  clear hnil
  generalize hwi : wiB key 0 1073741824 = wi at WI ⊢
  cases wi
  ·rw [if_pos rfl]
   go_enter Tryz.func12, Tryz.ntmps12
   go_wp2_with (first | ((with_reducible refine gate_dst (N := 6) rfl ?_); refine box_event ?hg (N := 6) ?hd (cs := #[.slice none 0 0, .slice none 0 0, .int .i64 0, .int .i64 0, .int .i64 0]) (t := 50) ?hr ?_; (case hd => rfl); (case hg => rfl); (case hr => first | (go_simp; done) | (go_simp; rfl)); intro gm hg w1 hbox hb; have m_HB := Ak (below_step HB.1 hb); have BM := Ak hbox; have GM := Ak (show w.heap.size ≤ gm by rw [hg]; exact Nat.le_refl _); clear HB hbox hb hg; have HB := m_HB; clear m_HB) | (go_at_call 23; refine (WI.1 _).mono ?_; rintro e w2 ⟨rfl, hb⟩; replace HB := Ak (below_step HB.1 hb); replace BM := Ak (blk_below BM.1 hb); clear hb) | ((with_reducible refine gate_store (t := 50) (p := 6) rfl ?_); refine PutW.store_event ?b1 ?b2 50 (.tmp 6) (.tmp 24) ?b3 (g := gm) (t := 50) (cells := #[.slice none 0 0, .slice none 0 0, .int .i64 0, .int .i64 0, .int .i64 0]) ?a1 ?a2 BM.1 ?a3 ?a4 ?a5 ?_; (case b1 => rfl); (case b2 => rfl); (case b3 => rfl); (case a1 => first | rfl | (go_simp; done)); (case a2 => first | rfl | (go_simp; done)); (case a3 => rfl); (case a4 => kernel_rfl); (case a5 => first | rfl | kernel_rfl | (simp [Value.oneCell']; done)); intro w3 hz3 hs3 hg3; replace HB := Ak (pw_below_grown HB.1 (some gm) HB.1.size hg3 (fun k e => by cases e; exact GM.1)); replace BM := Ak hz3; clear hz3 hs3 hg3))
   (refine bodyPost_ret (results_ct rfl _ _ gm 50 #[.slice none 0 0, .slice none 0 0, .int .i64 0, .int .i64 0, .int .i64 0] (0, 0) _ rfl BM.1 Tryz.underlying50 rfl (by kernel_rfl)) rfl ?_; exact Made.no rfl HB.1)
  ·rw [if_neg (by decide)]
   obtain ⟨o, ho⟩ : ∃ o, (if (l.all fun x => ck x == 0) = false then none else let t := tot (l.map I.value); let f := feeS (weightV (l.map I.inS) 1) rate; if max t.2 f.2 ≠ 0 then none else if f.1 > budV I l then none else if wrap64 (t.1 - f.1) < 330 then none else if tc (l.map I.inS) [outS (wrap64 (t.1 - f.1)) key] (lockV I l) ≠ 0 then none else some (⟨l.map I.inS, [outS (wrap64 (t.1 - f.1)) key], lockV I l, f.1, rate⟩ : Bt)) = o := ⟨_, rfl⟩
   rw [ho]
   have OO := Ak ho
   clear ho
   go_enter Tryz.func12, Tryz.ntmps12
   go_wp2_with (first | ((with_reducible refine gate_dst (N := 6) rfl ?_); refine box_event ?hg (N := 6) ?hd (cs := #[.slice none 0 0, .slice none 0 0, .int .i64 0, .int .i64 0, .int .i64 0]) (t := 50) ?hr ?_; (case hd => rfl); (case hg => rfl); (case hr => first | (go_simp; done) | (go_simp; rfl)); intro gm hg w1 hbox hb; have m_HB := Ak (below_step HB.1 hb); have BM := Ak hbox; have GM := Ak (show w.heap.size ≤ gm by rw [hg]; exact Nat.le_refl _); clear HB hbox hb hg; have HB := m_HB; clear m_HB) | (go_at_call 23; refine (WI.1 _).mono ?_; rintro e w2 ⟨rfl, hb⟩; replace HB := Ak (below_step HB.1 hb); replace BM := Ak (blk_below BM.1 hb); clear hb) | ((with_reducible refine gate_callee (f := 32) rfl ?_); refine goesL_ (some 27) rfl rfl Tryz.func32 (by kernel_rfl) rfl #[.int .i64 key] rfl (by (try simp only [lm_, lc_, ln_]); first | done | rfl) ?_; refine (PY.1 _).mono ?_; rintro e w2 ⟨rfl, hb⟩; refine ⟨_, rfl, ?_⟩; replace HB := Ak (below_step HB.1 hb); replace BM := Ak (blk_below BM.1 hb); clear hb) | ((with_reducible refine gate_store (t := 50) (p := 6) rfl ?_); refine PutW.store_event ?b1 ?b2 50 (.tmp 6) (.tmp 31) ?b3 (g := gm) (t := 50) (cells := #[.slice none 0 0, .slice (some ⟨w2.heap.size, 0, none⟩) 1 1, .int .i64 0, .int .i64 0, .int .i64 rate]) ?a1 ?a2 (blk_alloc BM.1 _) ?a3 ?a4 ?a5 ?_; (case b1 => rfl); (case b2 => rfl); (case b3 => rfl); (case a1 => first | rfl | (go_simp; done)); (case a2 => first | rfl | (go_simp; done)); (case a3 => rfl); (case a4 => kernel_rfl); (case a5 => first | rfl | kernel_rfl | (simp [Value.oneCell']; done)); intro w3 hz3 hs3 hg3; have m_HB := Ak (pw_below_grown (below_alloc HB.1 _) (some gm) (below_alloc HB.1 _).size hg3 (fun k e => by cases e; exact GM.1)); have m_BM := Ak hz3; have BO := Ak (show w3.heap[w2.heap.size]? = some (.cells #[.int .i64 0, .int .i64 1, .int .i64 key, .int .i64 0, .int .i64 0, .int .i64 0, .int .i64 0, .int .u8 0, .int .u8 0, .int .u8 0, .int .u8 0, .int .u8 0, .int .u8 0, .int .u8 0, .int .u8 0, .int .u8 0, .int .u8 0, .int .u8 0, .int .u8 0, .int .u8 0, .int .u8 0, .int .u8 0, .int .u8 0, .int .u8 0, .int .u8 0, .int .u8 0, .int .u8 0, .int .u8 0, .int .u8 0, .int .u8 0, .int .u8 0, .int .u8 0, .int .u8 0, .int .u8 0, .int .u8 0, .int .u8 0, .int .u8 0, .int .u8 0, .int .u8 0] 90 (0, 0)) from (hg3.block w2.heap.size (by simp) (by simpa using Nat.ne_of_gt (Array.getElem?_eq_some_iff.1 BM.1).1)).trans (blk_new w2 _)); have NO := Ak (show w2.heap.size ≠ gm from Nat.ne_of_gt (Array.getElem?_eq_some_iff.1 BM.1).1); have GO := Ak (show w.heap.size ≤ w2.heap.size from HB.1.size); clear hz3 hs3 hg3 HB BM; have HB := m_HB; have BM := m_BM; clear m_HB m_BM))
   obtain ⟨gO, hgO⟩ : ∃ g, w2.heap.size = g := ⟨_, rfl⟩
   rw [hgO] at BM BO NO GO ⊢
   clear hgO
   obtain ⟨ad, rfl, _⟩ := HA.1.2.2 HP.1
   generalize hn : l.length = n at HL HP hz hz2 ⊢
   have HN := Ak hn
   clear hn
   go_loopg [8, 9, 34] n (fun kq v8 v9 v34 wr => ∃ (i : Nat) (v0 : Value), v34 = .int .i64 i ∧ v9 = .int .i64 (budV I (l.take i)) ∧ i ≤ n ∧ n - i ≤ kq ∧ Aside0 ((l.take i).all (fun x => ck x == 0) = true) ∧ Aside0 (wr.heap[gm]? = some (.cells #[v0, .slice (some ⟨gO, 0, none⟩) 1 1, .int .i64 (lockV I (l.take i)), .int .i64 0, .int .i64 rate] 50 (0, 0))) ∧ Aside0 (wr.heap[gO]? = some (.cells #[.int .i64 0, .int .i64 1, .int .i64 key, .int .i64 0, .int .i64 0, .int .i64 0, .int .i64 0, .int .u8 0, .int .u8 0, .int .u8 0, .int .u8 0, .int .u8 0, .int .u8 0, .int .u8 0, .int .u8 0, .int .u8 0, .int .u8 0, .int .u8 0, .int .u8 0, .int .u8 0, .int .u8 0, .int .u8 0, .int .u8 0, .int .u8 0, .int .u8 0, .int .u8 0, .int .u8 0, .int .u8 0, .int .u8 0, .int .u8 0, .int .u8 0, .int .u8 0, .int .u8 0, .int .u8 0, .int .u8 0, .int .u8 0, .int .u8 0, .int .u8 0, .int .u8 0] 90 (0, 0))) ∧ Aside0 (Kd.R k79 79 wr w.heap.size (fun _ => True) v0 ((l.take i).map I.inS)) ∧ Aside0 (Kd.R (Kd.int .i64) 3 wr w.heap.size (fun _ => True) v8 ((l.take i).map I.value)) ∧ Aside0 (Below w.heap.size w wr))
   case atStart => exact ⟨0, .slice none 0 0, rfl, rfl, by omega, by omega, ⟨rfl⟩, BM, BO, ⟨Kd.R_nil _ _ _ _ _⟩, ⟨Kd.R_nil _ _ _ _ _⟩, HB⟩
   case round =>
    clear BM BO HB
    obtain ⟨i, v0, rfl, rfl, hin, hkq, HCK, BM, BO, H0, H8, HB⟩ := hrel
    by_cases hlt : i < n
    ·have hltz : (i : Int) < (n : Int) := by omega
     have hil : i < l.length := by rw [HN.1]; exact hlt
     have hld := reads_load I HA.1 HB.1 rfl hil
     have HT1 := Ak (List.take_succ_eq_append_getElem hil)
     have HMEM := Ak (List.getElem_mem hil)
     have HX := Ak (And.intro (I.hk l[i]) (And.intro (I.at_value l[i]) (And.intro (show (I.enc l[i])[38]? = some (.int .i64 (I.lock l[i])) from I.at_ l[i] 5) (I.at_budget l[i]))))
     have H1 := Ak (List.all_eq_true.2 (I.h1 l[i]))
     have CX := Ak (HC.1 l[i])
     have IX := Ak (in_calls I l[i])
     have HM := Ak (fun W base ok => I.inS_M l[i] W base ok)
     have HH := Ak (I.hin l[i])
     generalize l[i] = x at hld HT1 HMEM HX H1 CX IX HM HH
     clear hil
     generalize hcx : I.enc x = cx at hld HX H1 CX IX
     clear hcx
     by_cases hc0 : ck x = 0
     ·rw [hc0] at CX
      have HC0 := Ak hc0
      clear hc0
      go_wp2_with (first | ((with_reducible refine gate_dst (N := 11) rfl ?_); refine Fill.fill_event (N := 11) (x := 37) (cs := cx.toArray) (t := 38) rfl rfl rfl rfl rfl rfl Tryz.zeroValue38 ?fs ?fz ?f1 (fun _ => rfl) (fun _ => rfl) ?_; (case fs => exact fun W => (Tryz.sizeOf38 W).trans (by rw [List.size_toArray, HX.1.1])); (case fz => simp [HX.1.1]); (case f1 => simpa using H1.1); intro g11 hg11 w4 hbox hb; have B11 := Ak hbox; have G11 := Ak (show gm ≠ g11 by rw [hg11]; exact Nat.ne_of_lt (blk_lt BM.1)); have GO11 := Ak (show gO ≠ g11 by rw [hg11]; exact Nat.ne_of_lt (blk_lt BO.1)); replace BM := Ak (blk_below BM.1 hb); replace BO := Ak (blk_below BO.1 hb); replace H0 := Ak (Kd.R_below H0.1 hb); replace H8 := Ak (Kd.R_below H8.1 hb); replace HB := Ak (below_step HB.1 hb); clear hbox hb hg11 hld; have hl0 : Sem.run Tryz.prog (Wide.heavy0 ⟨g11, 0, none⟩ 44) w4 = .ok cx.toArray w4 := row_load B11.1 0 44 _ HX.1.1 (by rw [List.drop_zero, List.take_of_length_le (by rw [HX.1.1]; exact Nat.le_refl _)])) | ((with_reducible refine gate_callee (f := 8) rfl ?_); refine goesL_ (some 39) rfl rfl Tryz.func8 (by kernel_rfl) rfl #[.agg cx.toArray] rfl (by (try simp only [lm_, lc_, ln_]); first | done | rfl) ?_; refine (CX.1 _).mono ?_; rintro e w5 ⟨rfl, hb⟩; refine ⟨_, rfl, ?_⟩; replace BM := Ak (blk_below BM.1 hb); replace BO := Ak (blk_below BO.1 hb); replace H0 := Ak (Kd.R_below H0.1 hb); replace H8 := Ak (Kd.R_below H8.1 hb); replace HB := Ak (below_step HB.1 hb); replace B11 := Ak (blk_below B11.1 hb); clear hb hl0; have hl0 : Sem.run Tryz.prog (Wide.heavy0 ⟨g11, 0, none⟩ 44) w5 = .ok cx.toArray w5 := row_load B11.1 0 44 _ HX.1.1 (by rw [List.drop_zero, List.take_of_length_le (by rw [HX.1.1]; exact Nat.le_refl _)])))
      clear hl0
      replace BM := Ak (blk_drew BM.1)
      replace BO := Ak (blk_drew BO.1)
      replace B11 := Ak (blk_drew B11.1)
      replace H0 := Ak (Kd.R_drew H0.1)
      replace H8 := Ak (Kd.R_drew H8.1)
      replace HB := Ak (below_drew1 HB.1)
      refine start_ (n := 10) (S := (fun w' => w'.cell? ⟨gm, 0, none⟩ = some v0 ∧ Sem.run Tryz.prog (Wide.heavy0 ⟨g11, 0, none⟩ 44) w' = .ok cx.toArray w')) (ds := [9]) #[false, false, false, false, false, false, false, false, false, false] (by kernel_rfl) rfl rfl ⟨(blk_cell BM.1 0).trans rfl, (row_load B11.1 0 44 _ HX.1.1 (by rw [List.drop_zero, List.take_of_length_le (by rw [HX.1.1]; exact Nat.le_refl _)]))⟩ (fun hHeld => ?_)
      generalize w5.drew = w6 at BM BO B11 H0 H8 HB hHeld ⊢
      refine pure_ (i := 0) (N := some 42) (v := ?_) (a' := ?_) #[true, false, false, false, false, false, false, false, false, false] rfl rfl (by kernel_rfl) (fun _ _ _ h => h) (Or.inl ⟨by rfl, ?_⟩) ?_ ?_
      rotate_left
      ·intro w'
       go_simp
       with_reducible rfl
      rotate_left
      ·simp only [Act.put, ls_, l0_, l1_, i64_w, i32_w]
       rfl
      refine pure_ (i := 1) (N := some 43) (v := ?_) (a' := ?_) #[true, true, false, false, false, false, false, false, false, false] rfl rfl (by kernel_rfl) (fun _ _ _ h => h) (Or.inl ⟨by rfl, ?_⟩) ?_ ?_
      rotate_left
      ·intro w'
       go_simp
       with_reducible rfl
      rotate_left
      ·simp only [Act.put, ls_, l0_, l1_, i64_w, i32_w]
       rfl
      refine take_ (i := 2) (N := some 44) (v := ?_) (a' := ?_) #[true, true, true, false, false, false, false, false, false, false] rfl rfl (by kernel_rfl) (fun _ _ _ h => h) (Or.inl ⟨by rfl, ?_⟩) hHeld ?_ ?_
      rotate_left
      ·rintro w' ⟨hc0, hl0⟩
       go_simp
       with_reducible rfl
      rotate_left
      ·simp only [Act.put, ls_, l0_, l1_, i64_w, i32_w]
       rfl
      refine take_ (i := 3) (N := some 45) (v := ?_) (a' := ?_) #[true, true, true, true, false, false, false, false, false, false] rfl rfl (by kernel_rfl) (fun _ _ _ h => h) (Or.inl ⟨by rfl, ?_⟩) hHeld ?_ ?_
      rotate_left
      ·rintro w' ⟨hc0, hl0⟩
       go_simp
       with_reducible rfl
      rotate_left
      ·simp only [Act.put, ls_, l0_, l1_, i64_w, i32_w]
       rfl
      refine one_ (i := 4) (N := some 46) #[true, true, true, true, true, false, false, false, false, false] rfl rfl (by kernel_rfl) (by decide) (fun K hK => ?_)
      refine goes_ Tryz.func33 (by kernel_rfl) rfl #[.agg cx.toArray] (by rfl) rfl rfl (by (try simp only [lm_, lc_, ln_]); first | done | rfl) ?_
      refine (IX.1 _).mono ?_
      rintro e w9 ⟨rfl, hb⟩
      refine ⟨_, rfl, ?_⟩
      replace BM := Ak (blk_below BM.1 hb)
      replace BO := Ak (blk_below BO.1 hb)
      replace H0 := Ak (Kd.R_below H0.1 hb)
      replace H8 := Ak (Kd.R_below H8.1 hb)
      replace HB := Ak (below_step HB.1 hb)
      replace B11 := Ak (blk_below B11.1 hb)
      clear hb
      generalize hic : I.inCells x = ic at HM HH ⊢
      clear hic
      refine hK.out _ _ ⟨(blk_cell BM.1 0).trans rfl, (row_load B11.1 0 44 _ HX.1.1 (by rw [List.drop_zero, List.take_of_length_le (by rw [HX.1.1]; exact Nat.le_refl _)]))⟩ (fun hHeld => ?_)
      clear hK K
      refine norm_ (a' := ?_) ?_ ?_
      rotate_left
      ·show Act.put _ (some 46) _ = _
       simp only [Act.put, ls_, l0_, l1_, i64_w, i32_w]
       rfl
      refine one_ (i := 5) (N := some 47) #[true, true, true, true, true, true, false, false, false, false] rfl rfl (by kernel_rfl) (by decide) (fun K hK => ?_)
      refine value_ (w1 := w9.alloc (.cells ic.toArray 79)) (v := .slice (some ⟨w9.heap.size, 0, none⟩) 1 1) (by rfl) rfl ?_ ?_
      ·clear HM HC HT HTT HA
       obtain ⟨u0, u1, u2, u3, u4, u5, u6, u7, u8, u9, u10, u11, u12, u13, u14, u15, u16, u17, u18, u19, u20, u21, u22, u23, u24, u25, u26, u27, u28, u29, u30, u31, u32, u33, u34, u35, u36, rfl⟩ := list37 HH.1
       first | (go_simp; done) | (go_simp; rfl)
      refine hK.out _ _ ⟨(blk_cell (blk_alloc BM.1 _) 0).trans rfl, (row_load (blk_alloc B11.1 _) 0 44 _ HX.1.1 (by rw [List.drop_zero, List.take_of_length_le (by rw [HX.1.1]; exact Nat.le_refl _)]))⟩ (fun hHeld => ?_)
      clear hK K
      refine norm_ (a' := ?_) ?_ ?_
      rotate_left
      ·show Act.put _ (some 47) _ = _
       simp only [Act.put, ls_, l0_, l1_, i64_w, i32_w]
       rfl
      refine one_ (i := 6) (N := some 48) #[true, true, true, true, true, true, true, false, false, false] rfl rfl (by kernel_rfl) (by decide) (fun K hK => ?_)
      refine Kd.R_append_step k79 (w0 := w) (W := w9) w.heap.size (by rfl) (.tmp 44) (.tmp 47) 45 79 (.agg #[(.int .u8 0), (.int .u8 0), (.int .u8 0), (.int .u8 0), (.int .u8 0), (.int .u8 0), (.int .u8 0), (.int .u8 0), (.int .u8 0), (.int .u8 0), (.int .u8 0), (.int .u8 0), (.int .u8 0), (.int .u8 0), (.int .u8 0), (.int .u8 0), (.int .u8 0), (.int .u8 0), (.int .u8 0), (.int .u8 0), (.int .u8 0), (.int .u8 0), (.int .u8 0), (.int .u8 0), (.int .u8 0), (.int .u8 0), (.int .u8 0), (.int .u8 0), (.int .u8 0), (.int .u8 0), (.int .u8 0), (.int .u8 0), (.int .i64 0), (.int .i64 0), (.int .i64 0), (.int .i64 0), (.string ⟨#[]⟩)]) 80 rfl Tryz.underlying45 info79 rfl (by decide) (by omega) v0 ((l.take i).map I.inS) (I.inS x) ic (fun _ => True) (fun _ => False) rfl rfl (HM.1 _ _ _) (fun _ h => h.elim) (fun _ _ => trivial) H0.1 HB.1 HB.1.size (by have := HL.1; rw [List.length_map, List.length_take]; omega) ?_
      intro v48 w10 hv hb hg hat
      have hE : (l.take i).map I.inS ++ [I.inS x] = (l.take (i + 1)).map I.inS := by rw [HT1.1, List.map_append]; rfl
      rw [hE] at hv
      have m_BM := Ak (blk_grown BM.1 hg (Kd.R_ne H0.1 BM.1 (by decide)))
      have m_BO := Ak (blk_grown BO.1 hg (Kd.R_ne H0.1 BO.1 (by decide)))
      have m_B11 := Ak (blk_grown B11.1 hg (Kd.R_ne H0.1 B11.1 (by decide)))
      have m_H8 := Ak (Kd.R_grown2 H8.1 rfl hg (R_apart H0.1 H8.1 (by decide)))
      clear BM BO B11 H0 H8 HB hg hat hE
      have BM := m_BM
      have BO := m_BO
      have B11 := m_B11
      have H8 := m_H8
      have H0 := Ak hv
      have HB := Ak hb
      clear m_BM m_BO m_B11 m_H8 hv hb
      refine hK.out _ _ ⟨(blk_cell BM.1 0).trans rfl, (row_load B11.1 0 44 _ HX.1.1 (by rw [List.drop_zero, List.take_of_length_le (by rw [HX.1.1]; exact Nat.le_refl _)]))⟩ (fun hHeld => ?_)
      clear hK K
      refine norm_ (a' := ?_) ?_ ?_
      rotate_left
      ·show Act.put _ (some 48) _ = _
       simp only [Act.put, ls_, l0_, l1_, i64_w, i32_w]
       rfl
      refine pure_ (i := 7) (N := some 49) (v := ?_) (a' := ?_) #[true, true, true, true, true, true, true, true, false, false] rfl rfl (by kernel_rfl) (fun _ _ _ h => h) (Or.inl ⟨by rfl, ?_⟩) ?_ ?_
      rotate_left
      ·intro w'
       go_simp
       with_reducible rfl
      rotate_left
      ·simp only [Act.put, ls_, l0_, l1_, i64_w, i32_w]
       rfl
      refine pure_ (i := 8) (N := some 50) (v := ?_) (a' := ?_) #[true, true, true, true, true, true, true, true, true, false] rfl rfl (by kernel_rfl) (fun _ _ _ h => h) (Or.inl ⟨by rfl, ?_⟩) ?_ ?_
      rotate_left
      ·intro w'
       go_simp
       with_reducible rfl
      rotate_left
      ·simp only [Act.put, ls_, l0_, l1_, i64_w, i32_w]
       rfl
      refine last_ (i := 9) (N := none) #[true, true, true, true, true, true, true, true, true, true] rfl rfl (by kernel_rfl) (by decide) (fun K hK => ?_)
      have k0 : w10.cell? ⟨gm, 0, none⟩ = some v0 := (blk_cell BM.1 0).trans rfl
      have f0 := blk_frozen BM.1 0
      refine skip_ (w1 := w10.setCell ⟨gm, 0, none⟩ v48) (by rfl) rfl ?_ ?_
      ·obtain ⟨Av, cv, ev⟩ := Kd.R_slice H0.1
       subst ev
       first | (go_simp; done) | (go_simp; rfl)
      have hgs : w10.grownBy (w10.setCell ⟨gm, 0, none⟩ v48) (some gm) := grown_setCells gm [v48] 0 w10
      replace BO := Ak (blk_far (p := ⟨gm, 0, none⟩) BO.1 NO.1 v48)
      replace B11 := Ak (blk_far (p := ⟨gm, 0, none⟩) B11.1 (Ne.symm G11.1) v48)
      replace H0 := Ak (Kd.R_grown2 H0.1 rfl hgs (fun k e => by cases e; exact Kd.R_ne H0.1 BM.1 (by decide)))
      replace H8 := Ak (Kd.R_grown2 H8.1 rfl hgs (fun k e => by cases e; exact Kd.R_ne H8.1 BM.1 (by decide)))
      replace BM := Ak (blk_put BM.1 0 v48 rfl)
      replace HB := Ak (below_set (j := 0) (v := v48) HB.1 GM.1)
      clear hgs k0 f0
      refine hK.out _ _ ?_
      clear hK K
      refine done_ (by kernel_rfl) ?_
      clear hHeld
      generalize w10.setCell ⟨gm, 0, none⟩ v48 = w11 at BM BO B11 H0 H8 HB ⊢
      have k2 : w11.cell? ⟨gm, 2, none⟩ = some (.int .i64 (lockV I (l.take i))) := (blk_cell BM.1 2).trans rfl
      have k38 : w11.cell? ⟨g11, 38, none⟩ = some (.int .i64 (I.lock x)) := (blk_cell B11.1 38).trans (by simpa using HX.1.2.2.1)
      have f2 := blk_frozen BM.1 2
      go_upto_region 13 with fail
      clear k2 k38 f2
      have hgs : w11.grownBy (w11.setCell ⟨gm, 2, none⟩ (.int .i64 (max (lockV I (l.take i)) (I.lock x)))) (some gm) := grown_setCells gm [(.int .i64 (max (lockV I (l.take i)) (I.lock x)))] 2 w11
      replace BO := Ak (blk_far (p := ⟨gm, 2, none⟩) BO.1 NO.1 (.int .i64 (max (lockV I (l.take i)) (I.lock x))))
      replace B11 := Ak (blk_far (p := ⟨gm, 2, none⟩) B11.1 (Ne.symm G11.1) (.int .i64 (max (lockV I (l.take i)) (I.lock x))))
      replace H0 := Ak (Kd.R_grown2 H0.1 rfl hgs (fun k e => by cases e; exact Kd.R_ne H0.1 BM.1 (by decide)))
      replace H8 := Ak (Kd.R_grown2 H8.1 rfl hgs (fun k e => by cases e; exact Kd.R_ne H8.1 BM.1 (by decide)))
      replace BM := Ak (blk_put BM.1 2 (.int .i64 (max (lockV I (l.take i)) (I.lock x))) rfl)
      replace HB := Ak (below_set (j := 2) (v := (.int .i64 (max (lockV I (l.take i)) (I.lock x)))) HB.1 GM.1)
      clear hgs
      generalize w11.setCell ⟨gm, 2, none⟩ (.int .i64 (max (lockV I (l.take i)) (I.lock x))) = w12 at BM BO B11 H0 H8 HB ⊢
      have kv : w12.cell? ⟨g11, 33, none⟩ = some (.int .i64 (I.value x)) := (blk_cell B11.1 33).trans (by simpa using HX.1.2.1)
      go_wp2_with (first | ((with_reducible refine gate_builtin (b := .append) (xs := #[.tmp 60, .tmp 63]) rfl ?_); at_builtin; refine Kd.R_append (Kd.int .i64) (w0 := w) (W := w12) w.heap.size rfl (.tmp 60) (.tmp 63) 85 3 (.int .i64 0) 8 rfl Tryz.underlying85 info3 rfl (by decide) (by omega) u8 ((l.take i).map I.value) (I.value x) [.int .i64 (I.value x)] (fun _ => True) (fun _ => False) rfl rfl ?aP (fun _ hk => hk.elim) (fun _ _ => trivial) H8.1 HB.1 HB.1.size ?aL ?_; (case aP => exact rfl); (case aL => have := HL.1; rw [List.length_map, List.length_take]; omega); intro v64 w13 hv hb hg hat; have hE : (l.take i).map I.value ++ [I.value x] = (l.take (i + 1)).map I.value := (by rw [HT1.1, List.map_append]; rfl); rw [hE] at hv; have m_BM := Ak (blk_grown BM.1 hg (Kd.R_ne H8.1 BM.1 (by decide))); have m_BO := Ak (blk_grown BO.1 hg (Kd.R_ne H8.1 BO.1 (by decide))); have m_B11 := Ak (blk_grown B11.1 hg (Kd.R_ne H8.1 B11.1 (by decide))); have m_H0 := Ak (Kd.R_grown2 H0.1 rfl hg (R_apart H8.1 H0.1 (by decide))); clear BM BO B11 H0 H8 HB hg hat hE kv; have BM := m_BM; have BO := m_BO; have B11 := m_B11; have H0 := m_H0; have H8 := Ak hv; have HB := Ak hb; clear m_BM m_BO m_B11 m_H0 hv hb; have kb : w13.cell? ⟨g11, 43, none⟩ = some (.int .i64 (I.budget x)) := (blk_cell B11.1 43).trans (by simpa using HX.1.2.2.2)))
      have hlb := HL.1
      go_roundg (n - (i + 1))
      case measure => omega
      case rel =>
       refine ⟨i + 1, v48, congrArg (Value.int .i64) (by have e := FltL.w64 (n := (i : Int) + 1) (by omega) (by omega); omega), ?_, by omega, by omega, ⟨?_⟩, ⟨?_⟩, BO, H0, H8, HB⟩
       ·rw [HT1.1, budV_snoc, ← i64_w]
       ·rw [HT1.1, List.all_append, HCK.out]; simp [HC0.1]
       ·rw [HT1.1, lockV_snoc]; exact BM.1
     ·have c0 : (ck x == 0) = false := by simpa using hc0
      have c1 := eq_false hc0
      have HC0 := Ak hc0
      clear hc0
      go_wp2_with (first | ((with_reducible refine gate_dst (N := 11) rfl ?_); refine Fill.fill_event (N := 11) (x := 37) (cs := cx.toArray) (t := 38) rfl rfl rfl rfl rfl rfl Tryz.zeroValue38 ?fs ?fz ?f1 (fun _ => rfl) (fun _ => rfl) ?_; (case fs => exact fun W => (Tryz.sizeOf38 W).trans (by rw [List.size_toArray, HX.1.1])); (case fz => simp [HX.1.1]); (case f1 => simpa using H1.1); intro g11 hg11 w4 hbox hb; have B11 := Ak hbox; have G11 := Ak (show gm ≠ g11 by rw [hg11]; exact Nat.ne_of_lt (blk_lt BM.1)); have GO11 := Ak (show gO ≠ g11 by rw [hg11]; exact Nat.ne_of_lt (blk_lt BO.1)); replace BM := Ak (blk_below BM.1 hb); replace BO := Ak (blk_below BO.1 hb); replace H0 := Ak (Kd.R_below H0.1 hb); replace H8 := Ak (Kd.R_below H8.1 hb); replace HB := Ak (below_step HB.1 hb); clear hbox hb hg11 hld; have hl0 : Sem.run Tryz.prog (Wide.heavy0 ⟨g11, 0, none⟩ 44) w4 = .ok cx.toArray w4 := row_load B11.1 0 44 _ HX.1.1 (by rw [List.drop_zero, List.take_of_length_le (by rw [HX.1.1]; exact Nat.le_refl _)])) | ((with_reducible refine gate_callee (f := 8) rfl ?_); refine goesL_ (some 39) rfl rfl Tryz.func8 (by kernel_rfl) rfl #[.agg cx.toArray] rfl (by (try simp only [lm_, lc_, ln_]); first | done | rfl) ?_; refine (CX.1 _).mono ?_; rintro e w5 ⟨rfl, hb⟩; refine ⟨_, rfl, ?_⟩; replace BM := Ak (blk_below BM.1 hb); replace BO := Ak (blk_below BO.1 hb); replace H0 := Ak (Kd.R_below H0.1 hb); replace H8 := Ak (Kd.R_below H8.1 hb); replace HB := Ak (below_step HB.1 hb); replace B11 := Ak (blk_below B11.1 hb); clear hb hl0; have hl0 : Sem.run Tryz.prog (Wide.heavy0 ⟨g11, 0, none⟩ 44) w5 = .ok cx.toArray w5 := row_load B11.1 0 44 _ HX.1.1 (by rw [List.drop_zero, List.take_of_length_le (by rw [HX.1.1]; exact Nat.le_refl _)])) | ((with_reducible refine gate_store (t := 50) (p := 6) rfl ?_); refine PutW.store_event ?b1 ?b2 50 (.tmp 6) (.tmp 41) ?b3 (g := gm) (t := 50) (cells := #[.slice none 0 0, .slice none 0 0, .int .i64 0, .int .i64 0, .int .i64 0]) ?a1 ?a2 BM.1 ?a3 ?a4 ?a5 ?_; (case b1 => rfl); (case b2 => rfl); (case b3 => rfl); (case a1 => first | rfl | (go_simp; done)); (case a2 => first | rfl | (go_simp; done)); (case a3 => rfl); (case a4 => kernel_rfl); (case a5 => first | rfl | kernel_rfl | (simp [Value.oneCell']; done)); intro w3 hz3 hs3 hg3; replace HB := Ak (pw_below_grown HB.1 (some gm) HB.1.size hg3 (fun k e => by cases e; exact GM.1)); replace BM := Ak hz3; clear hz3 hs3 hg3 hl0))
      have E := Ak (show o = none by rw [← OO.1, if_pos (Bool.eq_false_iff.2 fun h => HC0.1 (by simpa using List.all_eq_true.1 h x HMEM.1))])
      refine bodyPost_ret (results_ct rfl _ _ gm 50 #[.slice none 0 0, .slice none 0 0, .int .i64 0, .int .i64 0, .int .i64 0] (0, 0) _ rfl BM.1 Tryz.underlying50 rfl (by kernel_rfl)) rfl ?_
      rw [E.1]
      exact Made.no rfl HB.1
    ·obtain rfl : i = n := by omega
     have hnl : ¬ (i : Int) < (i : Int) := by omega
     have e0 : l.take i = l := List.take_of_length_le (by rw [HN.1]; exact Nat.le_refl _)
     rw [e0] at HCK BM H0 H8
     rw [e0]
     clear e0
     obtain ⟨A8, c8, e8⟩ := Kd.R_slice H8.1
     subst e8
     obtain ⟨A0, c0, e0⟩ := Kd.R_slice H0.1
     subst e0
     obtain ⟨kt, hkt⟩ := HTT.1 (l.map I.value) (by rw [List.length_map, HN.1]; exact HL.1)
     obtain ⟨tv, te, htv⟩ : ∃ a b, tot (l.map I.value) = (a, b) := ⟨_, _, rfl⟩
     obtain ⟨fv, fe, hfv⟩ : ∃ a b, feeS (weightV (l.map I.inS) 1) rate = (a, b) := ⟨_, _, rfl⟩
     rw [htv] at hkt
     have hlen : (l.map I.inS).length < 1000000 := by have := HL.1; rw [List.length_map, HN.1]; omega
     have hkw : tx_Weight.f ((l.map I.inS).length + 1) (l.map I.inS) [outS 0 key] (lockV I l) = some (weightV (l.map I.inS) 1) := weight_f _ _ _ _ hlen (by simp) (by omega)
     have hff : amount_Fee.f (weightV (l.map I.inS) 1) rate = some (fv, fe) := by rw [fee_f, hfv]
     have hoo : o = (if max te fe ≠ 0 then none else if fv > budV I l then none else if wrap64 (tv - fv) < 330 then none else if tc (l.map I.inS) [outS (wrap64 (tv - fv)) key] (lockV I l) ≠ 0 then none else some (⟨l.map I.inS, [outS (wrap64 (tv - fv)) key], lockV I l, fv, rate⟩ : Bt)) := by rw [← OO.1, HCK.out, htv, hfv]; rfl
     have KT := Ak hkt
     have KW := Ak hkw
     have KF := Ak hff
     have OO2 := Ak hoo
     have LN := Ak hlen
     clear hkt hkw hff hoo hlen htv hfv OO HTT HCK
     generalize weightV (l.map I.inS) 1 = wt at KW KF
     generalize budV I l = bud at OO2 ⊢
     generalize lockV I l = lk at BM KW OO2
     generalize l.map I.inS = ins at H0 KW OO2 LN BM ⊢
     generalize l.map I.value = vals at H8 KT ⊢
     go_upto_region 18 with (first | ((with_reducible refine gate_callee (f := 34) rfl ?_); refine goesL_ (some 73) rfl rfl Tryz.func34 (by kernel_rfl) rfl #[.slice A8 vals.length c8] rfl (by (try simp only [lm_, lc_, ln_]); first | done | rfl) ?_; refine (amount_Total.calls kt A8 c8 vals tv te _ (Kd.R_reads' H8.1).2.2 (Kd.R_reads' H8.1).2.1 KT.1).mono ?_; rintro e w3 ⟨rfl, hd⟩; refine ⟨_, rfl, ?_⟩; have hb := below_drawn0 hd; clear hd; have m_BM := Ak (blk_below BM.1 hb); have m_BO := Ak (blk_below BO.1 hb); have m_H0 := Ak (Kd.R_below H0.1 hb); have m_HB := Ak (below_step HB.1 hb); clear BM BO H0 HB; have BM := m_BM; have BO := m_BO; have H0 := m_H0; have HB := m_HB; clear m_BM m_BO m_H0 m_HB hb; have k0 : w3.cell? ⟨gm, 0, none⟩ = some (.slice A0 ins.length c0) := (blk_cell BM.1 0).trans rfl; have k1 : w3.cell? ⟨gm, 1, none⟩ = some (.slice (some ⟨gO, 0, none⟩) 1 1) := (blk_cell BM.1 1).trans rfl; have k2 : w3.cell? ⟨gm, 2, none⟩ = some (.int .i64 lk) := (blk_cell BM.1 2).trans rfl) | ((with_reducible refine gate_callee (f := 36) rfl ?_); refine goesL_ (some 79) rfl rfl Tryz.func36 (by kernel_rfl) rfl #[.agg #[.slice A0 ins.length c0, .slice (some ⟨gO, 0, none⟩) 1 1, .int .i64 lk]] rfl (by (try simp only [lm_, lc_, ln_]); first | done | rfl) ?_; refine (tx_Weight.calls _ A0 c0 ins (some ⟨gO, 0, none⟩) 1 [outS 0 key] lk wt _ (Kd.R_reads' H0.1).2.2 (Kd.R_reads' H0.1).2.1 (Kd.R_reads' (outR 0 key BO.1 GO.1)).2.2 (Nat.le_refl _) KW.1).mono ?_; rintro e w4 ⟨rfl, hb⟩; refine ⟨_, rfl, ?_⟩; clear k0 k1 k2; have m_BM := Ak (blk_below BM.1 hb); have m_BO := Ak (blk_below BO.1 hb); have m_H0 := Ak (Kd.R_below H0.1 hb); have m_HB := Ak (below_step HB.1 hb); clear BM BO H0 HB; have BM := m_BM; have BO := m_BO; have H0 := m_H0; have HB := m_HB; clear m_BM m_BO m_H0 m_HB hb) | (go_at_call 35; refine (amount_Fee.calls wt rate fv fe _ KF.1).mono ?_; rintro e w5 ⟨rfl, hd⟩; have hb := below_drawn0 hd; clear hd; have m_BM := Ak (blk_below BM.1 hb); have m_BO := Ak (blk_below BO.1 hb); have m_H0 := Ak (Kd.R_below H0.1 hb); have m_HB := Ak (below_step HB.1 hb); clear BM BO H0 HB; have BM := m_BM; have BO := m_BO; have H0 := m_H0; have HB := m_HB; clear m_BM m_BO m_H0 m_HB hb))
     by_cases h1 : max te fe = 0
     ·skip
      have h1a := eq_true h1
      have h1b : (max te fe == 0) = true := by simpa using h1
      have H1E := Ak h1
      clear h1
      by_cases h2 : bud < fv
      ·skip
       have h2a := eq_true h2
       have E := Ak (show o = none by rw [OO2.1, if_neg (fun h => h H1E.1), if_pos h2])
       clear h2
       go_wp2_with (first | ((with_reducible refine gate_store (t := 50) (p := 6) rfl ?_); refine PutW.store_event ?b1 ?b2 50 (.tmp 6) (.tmp 99) ?b3 (g := gm) (t := 50) (cells := #[.slice none 0 0, .slice none 0 0, .int .i64 0, .int .i64 0, .int .i64 0]) ?a1 ?a2 BM.1 ?a3 ?a4 ?a5 ?_; (case b1 => rfl); (case b2 => rfl); (case b3 => rfl); (case a1 => first | rfl | (go_simp; done)); (case a2 => first | rfl | (go_simp; done)); (case a3 => rfl); (case a4 => kernel_rfl); (case a5 => first | rfl | kernel_rfl | (simp [Value.oneCell']; done)); intro w3 hz3 hs3 hg3; replace HB := Ak (pw_below_grown HB.1 (some gm) HB.1.size hg3 (fun k e => by cases e; exact GM.1)); replace BM := Ak hz3; clear hz3 hs3 hg3))
       (refine bodyPost_ret (results_ct rfl _ _ gm 50 #[.slice none 0 0, .slice none 0 0, .int .i64 0, .int .i64 0, .int .i64 0] (0, 0) _ rfl BM.1 Tryz.underlying50 rfl (by kernel_rfl)) rfl ?_; rw [E.1]; exact Made.no rfl HB.1)
      ·skip
       have h2a := eq_false h2
       have H2E := Ak h2
       clear h2
       obtain ⟨dv, hdv⟩ : ∃ d, wrap64 (tv - fv) = d := ⟨_, rfl⟩
       rw [hdv] at OO2
       have hdw : IntKind.i64.wrap (tv - fv) = dv := by rw [i64_w]; exact hdv
       clear hdv
       by_cases h3 : dv < 330
       ·skip
        have h3a := eq_true h3
        have E := Ak (show o = none by rw [OO2.1, if_neg (fun h => h H1E.1), if_neg H2E.1, if_pos h3])
        clear h3
        go_wp2_with (first | ((with_reducible refine gate_store (t := 50) (p := 6) rfl ?_); refine PutW.store_event ?b1 ?b2 50 (.tmp 6) (.tmp 99) ?b3 (g := gm) (t := 50) (cells := #[.slice none 0 0, .slice none 0 0, .int .i64 0, .int .i64 0, .int .i64 0]) ?a1 ?a2 BM.1 ?a3 ?a4 ?a5 ?_; (case b1 => rfl); (case b2 => rfl); (case b3 => rfl); (case a1 => first | rfl | (go_simp; done)); (case a2 => first | rfl | (go_simp; done)); (case a3 => rfl); (case a4 => kernel_rfl); (case a5 => first | rfl | kernel_rfl | (simp [Value.oneCell']; done)); intro w3 hz3 hs3 hg3; replace HB := Ak (pw_below_grown HB.1 (some gm) HB.1.size hg3 (fun k e => by cases e; exact GM.1)); replace BM := Ak hz3; clear hz3 hs3 hg3))
        (refine bodyPost_ret (results_ct rfl _ _ gm 50 #[.slice none 0 0, .slice none 0 0, .int .i64 0, .int .i64 0, .int .i64 0] (0, 0) _ rfl BM.1 Tryz.underlying50 rfl (by kernel_rfl)) rfl ?_; rw [E.1]; exact Made.no rfl HB.1)
       ·skip
        have h3a := eq_false h3
        have H3E := Ak h3
        clear h3
        have k0 : w5.cell? ⟨gm, 0, none⟩ = some (.slice A0 ins.length c0) := (blk_cell BM.1 0).trans rfl
        have k1 : w5.cell? ⟨gm, 1, none⟩ = some (.slice (some ⟨gO, 0, none⟩) 1 1) := (blk_cell BM.1 1).trans rfl
        have k2 : w5.cell? ⟨gm, 2, none⟩ = some (.int .i64 lk) := (blk_cell BM.1 2).trans rfl
        have k3 : w5.cell? ⟨gm, 3, none⟩ = some (.int .i64 0) := (blk_cell BM.1 3).trans rfl
        have kO : w5.cell? ⟨gO, 0, none⟩ = some (.int .i64 0) := (blk_cell BO.1 0).trans rfl
        have f3 := blk_frozen BM.1 3
        have fO := blk_frozen BO.1 0
        have n1 := NO.1
        have n2 := Ne.symm NO.1
        go_upto_region 21 with fail
        clear k0 k1 k2 k3 kO f3 fO n1 n2
        have hgs : w5.grownBy (w5.setCell ⟨gm, 3, none⟩ (.int .i64 fv)) (some gm) := grown_setCells gm [(.int .i64 fv)] 3 w5
        replace BO := Ak (blk_far (p := ⟨gm, 3, none⟩) BO.1 NO.1 (.int .i64 fv))
        replace H0 := Ak (Kd.R_grown2 H0.1 rfl hgs (fun k e => by cases e; exact Kd.R_ne H0.1 BM.1 (by decide)))
        replace BM := Ak (blk_put BM.1 3 (.int .i64 fv) rfl)
        replace HB := Ak (below_set (j := 3) (v := (.int .i64 fv)) HB.1 GM.1)
        clear hgs
        have hgs : (w5.setCell ⟨gm, 3, none⟩ (.int .i64 fv)).grownBy ((w5.setCell ⟨gm, 3, none⟩ (.int .i64 fv)).setCell ⟨gO, 0, none⟩ (.int .i64 dv)) (some gO) := grown_setCells gO [.int .i64 dv] 0 _
        replace BM := Ak (blk_far (p := ⟨gO, 0, none⟩) BM.1 (Ne.symm NO.1) (.int .i64 dv))
        replace H0 := Ak (Kd.R_grown2 H0.1 rfl hgs (fun k e => by cases e; exact Kd.R_ne H0.1 BO.1 (by decide)))
        replace BO := Ak (blk_put (cs' := outCells dv key) BO.1 0 (.int .i64 dv) rfl)
        replace HB := Ak (below_set (j := 0) (v := .int .i64 dv) HB.1 GO.1)
        clear hgs
        generalize (w5.setCell ⟨gm, 3, none⟩ (.int .i64 fv)).setCell ⟨gO, 0, none⟩ (.int .i64 dv) = w6 at BM BO H0 HB ⊢
        have k0 : w6.cell? ⟨gm, 0, none⟩ = some (.slice A0 ins.length c0) := (blk_cell BM.1 0).trans rfl
        have k1 : w6.cell? ⟨gm, 1, none⟩ = some (.slice (some ⟨gO, 0, none⟩) 1 1) := (blk_cell BM.1 1).trans rfl
        have k2 : w6.cell? ⟨gm, 2, none⟩ = some (.int .i64 lk) := (blk_cell BM.1 2).trans rfl
        obtain ⟨cv, hcv⟩ : ∃ x, tc ins [outS dv key] lk = x := ⟨_, rfl⟩
        rw [hcv] at OO2
        have HTC := Ak hcv
        clear hcv
        by_cases h4 : cv = 0
        ·skip
         subst h4
         have HT0 := Ak (show ∀ W, Kd.C k79 W A0 ins.length ins → Kd.C k90 W (some ⟨gO, 0, none⟩) 1 [outS dv key] → ins.length ≤ c0 → Calls Tryz.prog 37 #[.agg #[.slice A0 ins.length c0, .slice (some ⟨gO, 0, none⟩) 1 1, .int .i64 lk]] W fun e w' => e = .returned (.int .i64 0) ∧ Below W.heap.size W w' from fun W g1 g2 g3 => by have h := HT.1 A0 c0 ins (some ⟨gO, 0, none⟩) 1 [outS dv key] lk W g1 g3 g2 (Nat.le_refl _) LN.1 (by simp); rw [HTC.1] at h; exact h)
         have E := Ak (show o = some (⟨ins, [outS dv key], lk, fv, rate⟩ : Bt) by rw [OO2.1, if_neg (fun h => h H1E.1), if_neg H2E.1, if_neg H3E.1, if_neg (fun h => h rfl)])
         go_wp2_with (first | ((with_reducible refine gate_callee (f := 37) rfl ?_); refine goesL_ (some 112) rfl rfl Tryz.func37 (by kernel_rfl) rfl #[.agg #[.slice A0 ins.length c0, .slice (some ⟨gO, 0, none⟩) 1 1, .int .i64 lk]] rfl (by (try simp only [lm_, lc_, ln_]); first | done | rfl) ?_; refine (HT0.1 _ (Kd.R_reads' H0.1).2.2 (Kd.R_reads' (outR dv key BO.1 GO.1)).2.2 (Kd.R_reads' H0.1).2.1).mono ?_; rintro e w7 ⟨rfl, hb⟩; refine ⟨_, rfl, ?_⟩; clear k0 k1 k2; have m_BM := Ak (blk_below BM.1 hb); have m_BO := Ak (blk_below BO.1 hb); have m_H0 := Ak (Kd.R_below H0.1 hb); have m_HB := Ak (below_step HB.1 hb); clear BM BO H0 HB; have BM := m_BM; have BO := m_BO; have H0 := m_H0; have HB := m_HB; clear m_BM m_BO m_H0 m_HB hb; have k0 : w7.cell? ⟨gm, 0, none⟩ = some (.slice A0 ins.length c0) := (blk_cell BM.1 0).trans rfl; have k1 : w7.cell? ⟨gm, 1, none⟩ = some (.slice (some ⟨gO, 0, none⟩) 1 1) := (blk_cell BM.1 1).trans rfl; have k2 : w7.cell? ⟨gm, 2, none⟩ = some (.int .i64 lk) := (blk_cell BM.1 2).trans rfl; have k3 : w7.cell? ⟨gm, 3, none⟩ = some (.int .i64 fv) := (blk_cell BM.1 3).trans rfl; have k4 : w7.cell? ⟨gm, 4, none⟩ = some (.int .i64 rate) := (blk_cell BM.1 4).trans rfl) | ((with_reducible refine gate_store (t := 50) (p := 6) rfl ?_); refine PutW.store_event ?b1 ?b2 50 (.tmp 6) (.tmp 115) ?b3 (g := gm) (t := 50) (cells := #[.slice A0 ins.length c0, .slice (some ⟨gO, 0, none⟩) 1 1, .int .i64 lk, .int .i64 fv, .int .i64 rate]) ?a1 ?a2 BM.1 ?a3 ?a4 ?a5 ?_; (case b1 => rfl); (case b2 => rfl); (case b3 => rfl); (case a1 => first | rfl | (go_simp; done)); (case a2 => first | rfl | (go_simp; done)); (case a3 => rfl); (case a4 => kernel_rfl); (case a5 => first | rfl | kernel_rfl | (simp [Value.oneCell']; done)); intro w8 hz3 hs3 hg3; replace HB := Ak (pw_below_grown HB.1 (some gm) HB.1.size hg3 (fun k e => by cases e; exact GM.1)); replace BO := Ak (blk_grown BO.1 hg3 (by simpa using NO.1)); replace H0 := Ak (Kd.R_grown2 H0.1 rfl hg3 (fun k e => by cases e; exact Kd.R_ne H0.1 BM.1 (by decide))); replace BM := Ak hz3; clear hz3 hs3 hg3 k0 k1 k2 k3 k4))
         refine bodyPost_ret (results_ct rfl _ _ gm 50 #[.slice A0 ins.length c0, .slice (some ⟨gO, 0, none⟩) 1 1, .int .i64 lk, .int .i64 fv, .int .i64 rate] (0, 0) _ rfl BM.1 Tryz.underlying50 rfl (by kernel_rfl)) rfl ?_
         rw [E.1]
         exact ⟨_, _, rfl, H0.1, outR dv key BO.1 GO.1, HB.1⟩
        ·skip
         have h4a := eq_false h4
         have h4b : (cv == 0) = false := by simpa using h4
         have HT0 := Ak (show ∀ W, Kd.C k79 W A0 ins.length ins → Kd.C k90 W (some ⟨gO, 0, none⟩) 1 [outS dv key] → ins.length ≤ c0 → Calls Tryz.prog 37 #[.agg #[.slice A0 ins.length c0, .slice (some ⟨gO, 0, none⟩) 1 1, .int .i64 lk]] W fun e w' => e = .returned (.int .i64 cv) ∧ Below W.heap.size W w' from fun W g1 g2 g3 => by have h := HT.1 A0 c0 ins (some ⟨gO, 0, none⟩) 1 [outS dv key] lk W g1 g3 g2 (Nat.le_refl _) LN.1 (by simp); rw [HTC.1] at h; exact h)
         have E := Ak (show o = none by rw [OO2.1, if_neg (fun h => h H1E.1), if_neg H2E.1, if_neg H3E.1, if_pos h4])
         clear h4
         go_wp2_with (first | ((with_reducible refine gate_callee (f := 37) rfl ?_); refine goesL_ (some 112) rfl rfl Tryz.func37 (by kernel_rfl) rfl #[.agg #[.slice A0 ins.length c0, .slice (some ⟨gO, 0, none⟩) 1 1, .int .i64 lk]] rfl (by (try simp only [lm_, lc_, ln_]); first | done | rfl) ?_; refine (HT0.1 _ (Kd.R_reads' H0.1).2.2 (Kd.R_reads' (outR dv key BO.1 GO.1)).2.2 (Kd.R_reads' H0.1).2.1).mono ?_; rintro e w7 ⟨rfl, hb⟩; refine ⟨_, rfl, ?_⟩; clear k0 k1 k2; have m_BM := Ak (blk_below BM.1 hb); have m_BO := Ak (blk_below BO.1 hb); have m_H0 := Ak (Kd.R_below H0.1 hb); have m_HB := Ak (below_step HB.1 hb); clear BM BO H0 HB; have BM := m_BM; have BO := m_BO; have H0 := m_H0; have HB := m_HB; clear m_BM m_BO m_H0 m_HB hb) | ((with_reducible refine gate_store (t := 50) (p := 6) rfl ?_); refine PutW.store_event ?b1 ?b2 50 (.tmp 6) (.tmp 114) ?b3 (g := gm) (t := 50) (cells := #[.slice none 0 0, .slice none 0 0, .int .i64 0, .int .i64 0, .int .i64 0]) ?a1 ?a2 BM.1 ?a3 ?a4 ?a5 ?_; (case b1 => rfl); (case b2 => rfl); (case b3 => rfl); (case a1 => first | rfl | (go_simp; done)); (case a2 => first | rfl | (go_simp; done)); (case a3 => rfl); (case a4 => kernel_rfl); (case a5 => first | rfl | kernel_rfl | (simp [Value.oneCell']; done)); intro w3 hz3 hs3 hg3; replace HB := Ak (pw_below_grown HB.1 (some gm) HB.1.size hg3 (fun k e => by cases e; exact GM.1)); replace BM := Ak hz3; clear hz3 hs3 hg3))
         (refine bodyPost_ret (results_ct rfl _ _ gm 50 #[.slice none 0 0, .slice none 0 0, .int .i64 0, .int .i64 0, .int .i64 0] (0, 0) _ rfl BM.1 Tryz.underlying50 rfl (by kernel_rfl)) rfl ?_; rw [E.1]; exact Made.no rfl HB.1)
     ·skip
      have h1a := eq_false h1
      have h1b : (max te fe == 0) = false := by simpa using h1
      have E := Ak (show o = none by rw [OO2.1, if_pos h1])
      clear h1
      go_wp2_with (first | ((with_reducible refine gate_store (t := 50) (p := 6) rfl ?_); refine PutW.store_event ?b1 ?b2 50 (.tmp 6) (.tmp 99) ?b3 (g := gm) (t := 50) (cells := #[.slice none 0 0, .slice none 0 0, .int .i64 0, .int .i64 0, .int .i64 0]) ?a1 ?a2 BM.1 ?a3 ?a4 ?a5 ?_; (case b1 => rfl); (case b2 => rfl); (case b3 => rfl); (case a1 => first | rfl | (go_simp; done)); (case a2 => first | rfl | (go_simp; done)); (case a3 => rfl); (case a4 => kernel_rfl); (case a5 => first | rfl | kernel_rfl | (simp [Value.oneCell']; done)); intro w3 hz3 hs3 hg3; replace HB := Ak (pw_below_grown HB.1 (some gm) HB.1.size hg3 (fun k e => by cases e; exact GM.1)); replace BM := Ak hz3; clear hz3 hs3 hg3))
      (refine bodyPost_ret (results_ct rfl _ _ gm 50 #[.slice none 0 0, .slice none 0 0, .int .i64 0, .int .i64 0, .int .i64 0] (0, 0) _ rfl BM.1 Tryz.underlying50 rfl (by kernel_rfl)) rfl ?_; rw [E.1]; exact Made.no rfl HB.1)
def Fit (w : World) (e : Ending) (w' : World) (b : Bt) (s : Bool) : Prop := ∃ v0 v1 : Value, e = .returned (.tuple #[.agg #[v0, v1, .int .i64 b.lock, .int .i64 b.fee, .int .i64 b.rate], .bool s]) ∧ Kd.R k79 79 w' w.heap.size (fun _ => True) v0 b.ins ∧ Kd.R k90 90 w' w.heap.size (fun _ => True) v1 b.outs ∧ Below w.heap.size w w'
theorem make_len (I : Spec α) (ck : α → Int) (tot : List Int → Int × Int) (tc : List S79 → List S90 → Int → Int) (l : List α) (rate key : Int) : ((makeV I ck tot tc l rate key).getD .zero).ins.length ≤ l.length ∧ ((makeV I ck tot tc l rate key).getD .zero).outs.length ≤ 1 := by
 unfold makeV
 simp only []
 (repeat' split) <;> simp [Bt.zero]
def fitsV (I : Spec α) (ck : α → Int) (tot : List Int → Int × Int) (tc : List S79 → List S90 → Int → Int) (limit key : Int) (l : List α) (rate : Int) : Bt × Bool :=
 let o := makeV I ck tot tc l rate key
 (o.getD .zero, o.isSome && decide (weightV (o.getD .zero).ins (o.getD .zero).outs.length ≤ limit))
set_option maxHeartbeats 16000000 in
set_option maxRecDepth 100000 in
theorem fits_calls (I : Spec α) (ck : α → Int) (hC : Checked I ck) (tot : List Int → Int × Int) (htot : ∀ l : List Int, l.length < 100000 → ∃ k, amount_Total.f k l = some (tot l)) (tc : List S79 → List S90 → Int → Int) (hT : TxChecked tc) (l : List α) (A : Option Addr) (c : Nat) (next limit key rate : Int) (w : World) (hA : ReadsRow (fun x c => c = I.enc x) 44 w A l.length l) (hl : l.length < 100000) :
 Calls Tryz.prog 81 #[.agg #[.int .i64 next, .int .i64 limit, .int .i64 key], .slice A l.length c, .int .i64 rate] w fun e w' => Fit w e w' (fitsV I ck tot tc limit key l rate).1 (fitsV I ck tot tc limit key l rate).2 := by
 have hlen := make_len I ck tot tc l rate key
 have MK := Ak (fun W (hb : Below w.heap.size w W) => make_calls I ck hC tot htot tc hT l A c rate key W (ReadsRow.imp_ hA hb (fun _ _ h => h)) hl)
 unfold fitsV
 simp only []
 unfold Made at MK
 have LN := Ak (show ((makeV I ck tot tc l rate key).getD .zero).ins.length < 1000000 ∧ ((makeV I ck tot tc l rate key).getD .zero).outs.length < 1000000 by omega)
 clear hC htot hT hA hlen
 generalize (makeV I ck tot tc l rate key).getD .zero = b at MK LN ⊢
 generalize (makeV I ck tot tc l rate key).isSome = s at MK ⊢
 obtain ⟨ins, outs, lock, fee, rt⟩ := b
 simp only [] at MK LN ⊢
 have HB := Ak (Below.refl w.heap.size w)
 have hwf := weight_f ins outs lock (ins.length + 1) LN.1.1 LN.1.2 (by omega)
 generalize weightV ins outs.length = wt at hwf ⊢
 have KW := Ak hwf
 clear hwf
 cases s
 ·go_enter Tryz.func81, Tryz.ntmps81
  go_wp2_with (first | ((with_reducible refine gate_dst (N := 3) rfl ?_); refine box_event ?hg (N := 3) ?hd (cs := #[.int .i64 next, .int .i64 limit, .int .i64 key]) (t := 112) ?hr ?_; (case hd => rfl); (case hg => rfl); (case hr => first | (go_simp; done) | (go_simp; rfl)); intro g3 hg w1 hbox hb; have m_HB := Ak (below_step HB.1 hb); have B3 := Ak hbox; clear HB hbox hb hg; have HB := m_HB; clear m_HB) | ((with_reducible refine gate_dst (N := 6) rfl ?_); refine box_event ?hg (N := 6) ?hd (cs := #[.slice none 0 0, .slice none 0 0, .int .i64 0, .int .i64 0, .int .i64 0]) (t := 50) ?hr ?_; (case hd => rfl); (case hg => rfl); (case hr => first | (go_simp; done) | (go_simp; rfl)); intro g6 hg w2 hbox hb; have N36 := Ak (show g3 ≠ g6 by rw [hg]; exact Nat.ne_of_lt (blk_lt B3.1)); have G6 := Ak (show w.heap.size ≤ g6 by rw [hg]; exact HB.1.size); have m_HB := Ak (below_step HB.1 hb); have m_B3 := Ak (blk_below B3.1 hb); have B6 := Ak hbox; clear HB B3 hbox hb hg; have HB := m_HB; have B3 := m_B3; clear m_HB m_B3; have kk : w2.cell? ⟨g3, 2, none⟩ = some (.int .i64 key) := (blk_cell B3.1 2).trans rfl) | ((with_reducible refine gate_callee (f := 12) rfl ?_); refine goesL_ (some 15) rfl rfl Tryz.func12 (by kernel_rfl) rfl #[.slice A l.length c, .int .i64 rate, .int .i64 key] rfl (by (try simp only [lm_, lc_, ln_]); first | done | rfl) ?_; refine (MK.1 _ HB.1).mono ?_; rintro e w4 ⟨v0, v1, rfl, h0, h1, hb⟩; refine ⟨_, rfl, ?_⟩; have H0 := Ak (Kd.R_lower h0 HB.1.size); have H1 := Ak (Kd.R_lower h1 HB.1.size); clear h0 h1 kk; obtain ⟨A0, c0, e0⟩ := Kd.R_slice H0.1; subst e0; obtain ⟨A1, c1, e1⟩ := Kd.R_slice H1.1; subst e1; replace B3 := Ak (blk_below B3.1 hb); replace B6 := Ak (blk_below B6.1 hb); replace HB := Ak (below_step HB.1 hb); clear hb) | ((with_reducible refine gate_dst (N := 8) rfl ?_); refine Fill.fill_event (N := 8) (x := 16) (cs := #[.slice A0 ins.length c0, .slice A1 outs.length c1, .int .i64 lock, .int .i64 fee, .int .i64 rt]) (t := 50) rfl rfl rfl rfl rfl rfl Tryz.zeroValue50 Tryz.sizeOf50 rfl rfl (fun _ => rfl) (fun _ => rfl) ?_; intro g8 hg8 w5 hbox hb; have N68 := Ak (show g6 ≠ g8 by rw [hg8]; exact Nat.ne_of_lt (blk_lt B6.1)); have B8 := Ak hbox; have m_H0 := Ak (Kd.R_below H0.1 hb); have m_H1 := Ak (Kd.R_below H1.1 hb); replace B3 := Ak (blk_below B3.1 hb); replace B6 := Ak (blk_below B6.1 hb); replace HB := Ak (below_step HB.1 hb); clear H0 H1 hbox hb hg8; have H0 := m_H0; have H1 := m_H1; clear m_H0 m_H1))
  replace B3 := Ak (blk_drew B3.1)
  replace B6 := Ak (blk_drew B6.1)
  replace B8 := Ak (blk_drew B8.1)
  replace H0 := Ak (Kd.R_drew H0.1)
  replace H1 := Ak (Kd.R_drew H1.1)
  replace HB := Ak (below_drew1 HB.1)
  refine start_ (n := 12) (S := (fun w' => (w'.cell? ⟨g8, 0, none⟩ = some (.slice A0 ins.length c0) ∧ w'.cell? ⟨g8, 1, none⟩ = some (.slice A1 outs.length c1) ∧ w'.cell? ⟨g8, 2, none⟩ = some (.int .i64 lock) ∧ w'.cell? ⟨g8, 3, none⟩ = some (.int .i64 fee) ∧ w'.cell? ⟨g8, 4, none⟩ = some (.int .i64 rt)) ∧ w'.cell? ⟨g3, 1, none⟩ = some (.int .i64 limit))) (ds := []) #[false, false, false, false, false, false, false, false, false, false, false, false] (by kernel_rfl) rfl rfl ⟨⟨(blk_cell B8.1 0).trans rfl, (blk_cell B8.1 1).trans rfl, (blk_cell B8.1 2).trans rfl, (blk_cell B8.1 3).trans rfl, (blk_cell B8.1 4).trans rfl⟩, (blk_cell B3.1 1).trans rfl⟩ (fun hHeld => ?_)
  generalize w5.drew = w6 at B3 B6 B8 H0 H1 HB hHeld ⊢
  refine pure_ (i := 1) (N := some 19) (v := ?_) (a' := ?_) #[false, true, false, false, false, false, false, false, false, false, false, false] rfl rfl (by kernel_rfl) (fun _ _ _ h => h) (Or.inl ⟨by rfl, ?_⟩) ?_ ?_
  rotate_left
  ·intro w'
   go_simp
   with_reducible rfl
  rotate_left
  ·simp only [Act.put, ls_, l0_, l1_, i64_w, i32_w]
   rfl
  refine pure_ (i := 2) (N := some 20) (v := ?_) (a' := ?_) #[false, true, true, false, false, false, false, false, false, false, false, false] rfl rfl (by kernel_rfl) (fun _ _ _ h => h) (Or.inl ⟨by rfl, ?_⟩) ?_ ?_
  rotate_left
  ·intro w'
   go_simp
   with_reducible rfl
  rotate_left
  ·simp only [Act.put, ls_, l0_, l1_, i64_w, i32_w]
   rfl
  refine pure_ (i := 3) (N := some 21) (v := undef) (a' := ?_) #[false, true, true, true, false, false, false, false, false, false, false, false] rfl rfl (by kernel_rfl) (fun _ _ _ h => h) (Or.inr ⟨by rfl, rfl⟩) ?_ ?_
  rotate_left
  ·simp only [Act.put, ls_, l0_, l1_, i64_w, i32_w]
   rfl
  refine pure_ (i := 4) (N := some 22) (v := undef) (a' := ?_) #[false, true, true, true, true, false, false, false, false, false, false, false] rfl rfl (by kernel_rfl) (fun _ _ _ h => h) (Or.inr ⟨by rfl, rfl⟩) ?_ ?_
  rotate_left
  ·simp only [Act.put, ls_, l0_, l1_, i64_w, i32_w]
   rfl
  refine pure_ (i := 5) (N := some 23) (v := undef) (a' := ?_) #[false, true, true, true, true, true, false, false, false, false, false, false] rfl rfl (by kernel_rfl) (fun _ _ _ h => h) (Or.inr ⟨by rfl, rfl⟩) ?_ ?_
  rotate_left
  ·simp only [Act.put, ls_, l0_, l1_, i64_w, i32_w]
   rfl
  refine pure_ (i := 6) (N := some 24) (v := undef) (a' := ?_) #[false, true, true, true, true, true, true, false, false, false, false, false] rfl rfl (by kernel_rfl) (fun _ _ _ h => h) (Or.inr ⟨by rfl, rfl⟩) ?_ ?_
  rotate_left
  ·simp only [Act.put, ls_, l0_, l1_, i64_w, i32_w]
   rfl
  refine pure_ (i := 7) (N := some 25) (v := undef) (a' := ?_) #[false, true, true, true, true, true, true, true, false, false, false, false] rfl rfl (by kernel_rfl) (fun _ _ _ h => h) (Or.inr ⟨by rfl, rfl⟩) ?_ ?_
  rotate_left
  ·simp only [Act.put, ls_, l0_, l1_, i64_w, i32_w]
   rfl
  refine pure_ (i := 8) (N := some 26) (v := undef) (a' := ?_) #[false, true, true, true, true, true, true, true, true, false, false, false] rfl rfl (by kernel_rfl) (fun _ _ _ h => h) (Or.inr ⟨by rfl, rfl⟩) ?_ ?_
  rotate_left
  ·simp only [Act.put, ls_, l0_, l1_, i64_w, i32_w]
   rfl
  refine take_ (i := 0) (N := some 18) (v := ?_) (a' := ?_) #[true, true, true, true, true, true, true, true, true, false, false, false] rfl rfl (by kernel_rfl) (fun _ _ _ h => h) (Or.inl ⟨by rfl, ?_⟩) hHeld ?_ ?_
  rotate_left
  ·rintro w' ⟨⟨hs0, hs1, hs2, hs3, hs4⟩, hs5⟩
   go_simp
   with_reducible rfl
  rotate_left
  ·simp only [Act.put, ls_, l0_, l1_, i64_w, i32_w]
   rfl
  refine pure_ (i := 9) (N := some 27) (v := ?_) (a' := ?_) #[true, true, true, true, true, true, true, true, true, true, false, false] rfl rfl (by kernel_rfl) (fun _ _ _ h => h) (Or.inl ⟨by rfl, ?_⟩) ?_ ?_
  rotate_left
  ·intro w'
   go_simp
   with_reducible rfl
  rotate_left
  ·simp only [Act.put, ls_, l0_, l1_, i64_w, i32_w]
   rfl
  refine one_ (i := 10) (N := none) #[true, true, true, true, true, true, true, true, true, true, true, false] rfl rfl (by kernel_rfl) (by decide) (fun K hK => ?_)
  have q0 : w6.cell? ⟨g6, 0, none⟩ = some (.slice none 0 0) := (blk_cell B6.1 0).trans rfl
  have q1 : w6.cell? ⟨g6, 1, none⟩ = some (.slice none 0 0) := (blk_cell B6.1 1).trans rfl
  have q2 : w6.cell? ⟨g6, 2, none⟩ = some (.int .i64 0) := (blk_cell B6.1 2).trans rfl
  have q3 : w6.cell? ⟨g6, 3, none⟩ = some (.int .i64 0) := (blk_cell B6.1 3).trans rfl
  have q4 : w6.cell? ⟨g6, 4, none⟩ = some (.int .i64 0) := (blk_cell B6.1 4).trans rfl
  have f0 := blk_frozen B6.1 0
  have f1 := blk_frozen B6.1 1
  have f2 := blk_frozen B6.1 2
  have f3 := blk_frozen B6.1 3
  have f4 := blk_frozen B6.1 4
  refine skip_ (w1 := w6.setCells g6 0 [.slice A0 ins.length c0, .slice A1 outs.length c1, .int .i64 lock, .int .i64 fee, .int .i64 rt]) (by rfl) rfl ?_ ?_
  ·first | (go_simp; done) | (go_simp; rfl)
  have hgs : w6.grownBy (w6.setCells g6 0 [.slice A0 ins.length c0, .slice A1 outs.length c1, .int .i64 lock, .int .i64 fee, .int .i64 rt]) (some g6) := grown_setCells g6 [.slice A0 ins.length c0, .slice A1 outs.length c1, .int .i64 lock, .int .i64 fee, .int .i64 rt] 0 w6
  replace B3 := Ak (blk_grown B3.1 hgs (by simpa using N36.1))
  replace B8 := Ak (blk_grown B8.1 hgs (by simpa using Ne.symm N68.1))
  replace H0 := Ak (Kd.R_grown2 H0.1 rfl hgs (fun k e => by cases e; exact Kd.R_ne H0.1 B6.1 (by decide)))
  replace H1 := Ak (Kd.R_grown2 H1.1 rfl hgs (fun k e => by cases e; exact Kd.R_ne H1.1 B6.1 (by decide)))
  replace B6 := Ak (heap_setCells [.slice A0 ins.length c0, .slice A1 outs.length c1, .int .i64 lock, .int .i64 fee, .int .i64 rt] 0 w6 [.slice none 0 0, .slice none 0 0, .int .i64 0, .int .i64 0, .int .i64 0] B6.1 (by simp))
  replace HB := Ak (pw_below_grown HB.1 (some g6) HB.1.size hgs (fun k e => by cases e; exact G6.1))
  clear hgs q0 q1 q2 q3 q4 f0 f1 f2 f3 f4
  generalize w6.setCells g6 0 [.slice A0 ins.length c0, .slice A1 outs.length c1, .int .i64 lock, .int .i64 fee, .int .i64 rt] = w9 at B3 B6 B8 H0 H1 HB ⊢
  refine hK.out _ _ ⟨⟨(blk_cell B8.1 0).trans rfl, (blk_cell B8.1 1).trans rfl, (blk_cell B8.1 2).trans rfl, (blk_cell B8.1 3).trans rfl, (blk_cell B8.1 4).trans rfl⟩, (blk_cell B3.1 1).trans rfl⟩ (fun hHeld => ?_)
  clear hK K
  refine pure_ (i := 11) (N := some 7) (v := ?_) (a' := ?_) #[true, true, true, true, true, true, true, true, true, true, true, true] rfl rfl (by kernel_rfl) (fun _ _ _ h => h) (Or.inl ⟨by rfl, ?_⟩) ?_ ?_
  rotate_left
  ·intro w'
   go_simp
   with_reducible rfl
  rotate_left
  ·simp only [Act.put, ls_, l0_, l1_, i64_w, i32_w]
   rfl
  refine done_ (by kernel_rfl) ?_
  clear hHeld
  go_wp2
  (refine bodyPost_ret (results_ct rfl _ _ g6 50 #[.slice A0 ins.length c0, .slice A1 outs.length c1, .int .i64 lock, .int .i64 fee, .int .i64 rt] (0, 0) _ rfl (by simpa [over] using B6.1) Tryz.underlying50 rfl (by kernel_rfl)) rfl ?_; first | exact ⟨_, _, rfl, H0.1, H1.1, HB.1⟩ | (rw [HW.1]; exact ⟨_, _, rfl, H0.1, H1.1, HB.1⟩))
 ·by_cases hw : wt ≤ limit
  ·have hw1 := eq_true hw
   have HW := Ak (show (true && decide (wt ≤ limit)) = true by simpa using hw)
   clear hw
   go_enter Tryz.func81, Tryz.ntmps81
   go_wp2_with (first | ((with_reducible refine gate_dst (N := 3) rfl ?_); refine box_event ?hg (N := 3) ?hd (cs := #[.int .i64 next, .int .i64 limit, .int .i64 key]) (t := 112) ?hr ?_; (case hd => rfl); (case hg => rfl); (case hr => first | (go_simp; done) | (go_simp; rfl)); intro g3 hg w1 hbox hb; have m_HB := Ak (below_step HB.1 hb); have B3 := Ak hbox; clear HB hbox hb hg; have HB := m_HB; clear m_HB) | ((with_reducible refine gate_dst (N := 6) rfl ?_); refine box_event ?hg (N := 6) ?hd (cs := #[.slice none 0 0, .slice none 0 0, .int .i64 0, .int .i64 0, .int .i64 0]) (t := 50) ?hr ?_; (case hd => rfl); (case hg => rfl); (case hr => first | (go_simp; done) | (go_simp; rfl)); intro g6 hg w2 hbox hb; have N36 := Ak (show g3 ≠ g6 by rw [hg]; exact Nat.ne_of_lt (blk_lt B3.1)); have G6 := Ak (show w.heap.size ≤ g6 by rw [hg]; exact HB.1.size); have m_HB := Ak (below_step HB.1 hb); have m_B3 := Ak (blk_below B3.1 hb); have B6 := Ak hbox; clear HB B3 hbox hb hg; have HB := m_HB; have B3 := m_B3; clear m_HB m_B3; have kk : w2.cell? ⟨g3, 2, none⟩ = some (.int .i64 key) := (blk_cell B3.1 2).trans rfl) | ((with_reducible refine gate_callee (f := 12) rfl ?_); refine goesL_ (some 15) rfl rfl Tryz.func12 (by kernel_rfl) rfl #[.slice A l.length c, .int .i64 rate, .int .i64 key] rfl (by (try simp only [lm_, lc_, ln_]); first | done | rfl) ?_; refine (MK.1 _ HB.1).mono ?_; rintro e w4 ⟨v0, v1, rfl, h0, h1, hb⟩; refine ⟨_, rfl, ?_⟩; have H0 := Ak (Kd.R_lower h0 HB.1.size); have H1 := Ak (Kd.R_lower h1 HB.1.size); clear h0 h1 kk; obtain ⟨A0, c0, e0⟩ := Kd.R_slice H0.1; subst e0; obtain ⟨A1, c1, e1⟩ := Kd.R_slice H1.1; subst e1; replace B3 := Ak (blk_below B3.1 hb); replace B6 := Ak (blk_below B6.1 hb); replace HB := Ak (below_step HB.1 hb); clear hb) | ((with_reducible refine gate_dst (N := 8) rfl ?_); refine Fill.fill_event (N := 8) (x := 16) (cs := #[.slice A0 ins.length c0, .slice A1 outs.length c1, .int .i64 lock, .int .i64 fee, .int .i64 rt]) (t := 50) rfl rfl rfl rfl rfl rfl Tryz.zeroValue50 Tryz.sizeOf50 rfl rfl (fun _ => rfl) (fun _ => rfl) ?_; intro g8 hg8 w5 hbox hb; have N68 := Ak (show g6 ≠ g8 by rw [hg8]; exact Nat.ne_of_lt (blk_lt B6.1)); have B8 := Ak hbox; have m_H0 := Ak (Kd.R_below H0.1 hb); have m_H1 := Ak (Kd.R_below H1.1 hb); replace B3 := Ak (blk_below B3.1 hb); replace B6 := Ak (blk_below B6.1 hb); replace HB := Ak (below_step HB.1 hb); clear H0 H1 hbox hb hg8; have H0 := m_H0; have H1 := m_H1; clear m_H0 m_H1))
   replace B3 := Ak (blk_drew B3.1)
   replace B6 := Ak (blk_drew B6.1)
   replace B8 := Ak (blk_drew B8.1)
   replace H0 := Ak (Kd.R_drew H0.1)
   replace H1 := Ak (Kd.R_drew H1.1)
   replace HB := Ak (below_drew1 HB.1)
   refine start_ (n := 12) (S := (fun w' => (w'.cell? ⟨g8, 0, none⟩ = some (.slice A0 ins.length c0) ∧ w'.cell? ⟨g8, 1, none⟩ = some (.slice A1 outs.length c1) ∧ w'.cell? ⟨g8, 2, none⟩ = some (.int .i64 lock) ∧ w'.cell? ⟨g8, 3, none⟩ = some (.int .i64 fee) ∧ w'.cell? ⟨g8, 4, none⟩ = some (.int .i64 rt)) ∧ w'.cell? ⟨g3, 1, none⟩ = some (.int .i64 limit))) (ds := []) #[false, false, false, false, false, false, false, false, false, false, false, false] (by kernel_rfl) rfl rfl ⟨⟨(blk_cell B8.1 0).trans rfl, (blk_cell B8.1 1).trans rfl, (blk_cell B8.1 2).trans rfl, (blk_cell B8.1 3).trans rfl, (blk_cell B8.1 4).trans rfl⟩, (blk_cell B3.1 1).trans rfl⟩ (fun hHeld => ?_)
   generalize w5.drew = w6 at B3 B6 B8 H0 H1 HB hHeld ⊢
   refine pure_ (i := 1) (N := some 19) (v := ?_) (a' := ?_) #[false, true, false, false, false, false, false, false, false, false, false, false] rfl rfl (by kernel_rfl) (fun _ _ _ h => h) (Or.inl ⟨by rfl, ?_⟩) ?_ ?_
   rotate_left
   ·intro w'
    go_simp
    with_reducible rfl
   rotate_left
   ·simp only [Act.put, ls_, l0_, l1_, i64_w, i32_w]
    rfl
   refine pure_ (i := 2) (N := some 20) (v := ?_) (a' := ?_) #[false, true, true, false, false, false, false, false, false, false, false, false] rfl rfl (by kernel_rfl) (fun _ _ _ h => h) (Or.inl ⟨by rfl, ?_⟩) ?_ ?_
   rotate_left
   ·intro w'
    go_simp
    with_reducible rfl
   rotate_left
   ·simp only [Act.put, ls_, l0_, l1_, i64_w, i32_w]
    rfl
   refine pure_ (i := 3) (N := some 21) (v := ?_) (a' := ?_) #[false, true, true, true, false, false, false, false, false, false, false, false] rfl rfl (by kernel_rfl) (fun _ _ _ h => h) (Or.inl ⟨by rfl, ?_⟩) ?_ ?_
   rotate_left
   ·intro w'
    go_simp
    with_reducible rfl
   rotate_left
   ·simp only [Act.put, ls_, l0_, l1_, i64_w, i32_w]
    rfl
   refine take_ (i := 4) (N := some 22) (v := ?_) (a' := ?_) #[false, true, true, true, true, false, false, false, false, false, false, false] rfl rfl (by kernel_rfl) (fun _ _ _ h => h) (Or.inl ⟨by rfl, ?_⟩) hHeld ?_ ?_
   rotate_left
   ·rintro w' ⟨⟨hs0, hs1, hs2, hs3, hs4⟩, hs5⟩
    go_simp
    with_reducible rfl
   rotate_left
   ·simp only [Act.put, ls_, l0_, l1_, i64_w, i32_w]
    rfl
   refine pure_ (i := 6) (N := some 24) (v := ?_) (a' := ?_) #[false, true, true, true, true, false, true, false, false, false, false, false] rfl rfl (by kernel_rfl) (fun _ _ _ h => h) (Or.inl ⟨by rfl, ?_⟩) ?_ ?_
   rotate_left
   ·intro w'
    go_simp
    with_reducible rfl
   rotate_left
   ·simp only [Act.put, ls_, l0_, l1_, i64_w, i32_w]
    rfl
   refine take_ (i := 7) (N := some 25) (v := ?_) (a' := ?_) #[false, true, true, true, true, false, true, true, false, false, false, false] rfl rfl (by kernel_rfl) (fun _ _ _ h => h) (Or.inl ⟨by rfl, ?_⟩) hHeld ?_ ?_
   rotate_left
   ·rintro w' ⟨⟨hs0, hs1, hs2, hs3, hs4⟩, hs5⟩
    go_simp
    with_reducible rfl
   rotate_left
   ·simp only [Act.put, ls_, l0_, l1_, i64_w, i32_w]
    rfl
   refine take_ (i := 0) (N := some 18) (v := ?_) (a' := ?_) #[true, true, true, true, true, false, true, true, false, false, false, false] rfl rfl (by kernel_rfl) (fun _ _ _ h => h) (Or.inl ⟨by rfl, ?_⟩) hHeld ?_ ?_
   rotate_left
   ·rintro w' ⟨⟨hs0, hs1, hs2, hs3, hs4⟩, hs5⟩
    go_simp
    with_reducible rfl
   rotate_left
   ·simp only [Act.put, ls_, l0_, l1_, i64_w, i32_w]
    rfl
   refine one_ (i := 5) (N := some 23) #[true, true, true, true, true, true, true, true, false, false, false, false] rfl rfl (by kernel_rfl) (by decide) (fun K hK => ?_)
   refine goes_ Tryz.func36 (by kernel_rfl) rfl #[.agg #[.slice A0 ins.length c0, .slice A1 outs.length c1, .int .i64 lock]] (by rfl) rfl rfl (by (try simp only [lm_, lc_, ln_]); first | done | rfl) ?_
   refine (tx_Weight.calls _ A0 c0 ins A1 c1 outs lock wt _ (Kd.R_reads' H0.1).2.2 (Kd.R_reads' H0.1).2.1 (Kd.R_reads' H1.1).2.2 (Kd.R_reads' H1.1).2.1 KW.1).mono ?_
   rintro e w7 ⟨rfl, hb⟩
   refine ⟨_, rfl, ?_⟩
   replace B3 := Ak (blk_below B3.1 hb)
   replace B6 := Ak (blk_below B6.1 hb)
   replace B8 := Ak (blk_below B8.1 hb)
   replace H0 := Ak (Kd.R_below H0.1 hb)
   replace H1 := Ak (Kd.R_below H1.1 hb)
   replace HB := Ak (below_step HB.1 hb)
   clear hb
   refine hK.out _ _ ⟨⟨(blk_cell B8.1 0).trans rfl, (blk_cell B8.1 1).trans rfl, (blk_cell B8.1 2).trans rfl, (blk_cell B8.1 3).trans rfl, (blk_cell B8.1 4).trans rfl⟩, (blk_cell B3.1 1).trans rfl⟩ (fun hHeld => ?_)
   clear hK K
   refine norm_ (a' := ?_) ?_ ?_
   rotate_left
   ·show Act.put _ (some 23) _ = _
    simp only [Act.put, ls_, l0_, l1_, i64_w, i32_w]
    rfl
   refine pure_ (i := 8) (N := some 26) (v := ?_) (a' := ?_) #[true, true, true, true, true, true, true, true, true, false, false, false] rfl rfl (by kernel_rfl) (fun _ _ _ h => h) (Or.inl ⟨by rfl, ?_⟩) ?_ ?_
   rotate_left
   ·intro w'
    go_simp
    with_reducible rfl
   rotate_left
   ·simp only [Act.put, ls_, l0_, l1_, i64_w, i32_w]
    rfl
   refine pure_ (i := 9) (N := some 27) (v := ?_) (a' := ?_) #[true, true, true, true, true, true, true, true, true, true, false, false] rfl rfl (by kernel_rfl) (fun _ _ _ h => h) (Or.inl ⟨by rfl, ?_⟩) ?_ ?_
   rotate_left
   ·intro w'
    go_simp
    with_reducible rfl
   rotate_left
   ·simp only [Act.put, ls_, l0_, l1_, i64_w, i32_w]
    rfl
   refine one_ (i := 10) (N := none) #[true, true, true, true, true, true, true, true, true, true, true, false] rfl rfl (by kernel_rfl) (by decide) (fun K hK => ?_)
   have q0 : w7.cell? ⟨g6, 0, none⟩ = some (.slice none 0 0) := (blk_cell B6.1 0).trans rfl
   have q1 : w7.cell? ⟨g6, 1, none⟩ = some (.slice none 0 0) := (blk_cell B6.1 1).trans rfl
   have q2 : w7.cell? ⟨g6, 2, none⟩ = some (.int .i64 0) := (blk_cell B6.1 2).trans rfl
   have q3 : w7.cell? ⟨g6, 3, none⟩ = some (.int .i64 0) := (blk_cell B6.1 3).trans rfl
   have q4 : w7.cell? ⟨g6, 4, none⟩ = some (.int .i64 0) := (blk_cell B6.1 4).trans rfl
   have f0 := blk_frozen B6.1 0
   have f1 := blk_frozen B6.1 1
   have f2 := blk_frozen B6.1 2
   have f3 := blk_frozen B6.1 3
   have f4 := blk_frozen B6.1 4
   refine skip_ (w1 := w7.setCells g6 0 [.slice A0 ins.length c0, .slice A1 outs.length c1, .int .i64 lock, .int .i64 fee, .int .i64 rt]) (by rfl) rfl ?_ ?_
   ·first | (go_simp; done) | (go_simp; rfl)
   have hgs : w7.grownBy (w7.setCells g6 0 [.slice A0 ins.length c0, .slice A1 outs.length c1, .int .i64 lock, .int .i64 fee, .int .i64 rt]) (some g6) := grown_setCells g6 [.slice A0 ins.length c0, .slice A1 outs.length c1, .int .i64 lock, .int .i64 fee, .int .i64 rt] 0 w7
   replace B3 := Ak (blk_grown B3.1 hgs (by simpa using N36.1))
   replace B8 := Ak (blk_grown B8.1 hgs (by simpa using Ne.symm N68.1))
   replace H0 := Ak (Kd.R_grown2 H0.1 rfl hgs (fun k e => by cases e; exact Kd.R_ne H0.1 B6.1 (by decide)))
   replace H1 := Ak (Kd.R_grown2 H1.1 rfl hgs (fun k e => by cases e; exact Kd.R_ne H1.1 B6.1 (by decide)))
   replace B6 := Ak (heap_setCells [.slice A0 ins.length c0, .slice A1 outs.length c1, .int .i64 lock, .int .i64 fee, .int .i64 rt] 0 w7 [.slice none 0 0, .slice none 0 0, .int .i64 0, .int .i64 0, .int .i64 0] B6.1 (by simp))
   replace HB := Ak (pw_below_grown HB.1 (some g6) HB.1.size hgs (fun k e => by cases e; exact G6.1))
   clear hgs q0 q1 q2 q3 q4 f0 f1 f2 f3 f4
   generalize w7.setCells g6 0 [.slice A0 ins.length c0, .slice A1 outs.length c1, .int .i64 lock, .int .i64 fee, .int .i64 rt] = w9 at B3 B6 B8 H0 H1 HB ⊢
   refine hK.out _ _ ⟨⟨(blk_cell B8.1 0).trans rfl, (blk_cell B8.1 1).trans rfl, (blk_cell B8.1 2).trans rfl, (blk_cell B8.1 3).trans rfl, (blk_cell B8.1 4).trans rfl⟩, (blk_cell B3.1 1).trans rfl⟩ (fun hHeld => ?_)
   clear hK K
   refine pure_ (i := 11) (N := some 7) (v := ?_) (a' := ?_) #[true, true, true, true, true, true, true, true, true, true, true, true] rfl rfl (by kernel_rfl) (fun _ _ _ h => h) (Or.inl ⟨by rfl, ?_⟩) ?_ ?_
   rotate_left
   ·intro w'
    go_simp
    with_reducible rfl
   rotate_left
   ·simp only [Act.put, ls_, l0_, l1_, i64_w, i32_w]
    rfl
   refine done_ (by kernel_rfl) ?_
   clear hHeld
   go_wp2
   (refine bodyPost_ret (results_ct rfl _ _ g6 50 #[.slice A0 ins.length c0, .slice A1 outs.length c1, .int .i64 lock, .int .i64 fee, .int .i64 rt] (0, 0) _ rfl (by simpa [over] using B6.1) Tryz.underlying50 rfl (by kernel_rfl)) rfl ?_; first | exact ⟨_, _, rfl, H0.1, H1.1, HB.1⟩ | (rw [HW.1]; exact ⟨_, _, rfl, H0.1, H1.1, HB.1⟩))
  ·have hw1 := eq_false hw
   have HW := Ak (show (true && decide (wt ≤ limit)) = false by simpa using hw)
   clear hw
   go_enter Tryz.func81, Tryz.ntmps81
   go_wp2_with (first | ((with_reducible refine gate_dst (N := 3) rfl ?_); refine box_event ?hg (N := 3) ?hd (cs := #[.int .i64 next, .int .i64 limit, .int .i64 key]) (t := 112) ?hr ?_; (case hd => rfl); (case hg => rfl); (case hr => first | (go_simp; done) | (go_simp; rfl)); intro g3 hg w1 hbox hb; have m_HB := Ak (below_step HB.1 hb); have B3 := Ak hbox; clear HB hbox hb hg; have HB := m_HB; clear m_HB) | ((with_reducible refine gate_dst (N := 6) rfl ?_); refine box_event ?hg (N := 6) ?hd (cs := #[.slice none 0 0, .slice none 0 0, .int .i64 0, .int .i64 0, .int .i64 0]) (t := 50) ?hr ?_; (case hd => rfl); (case hg => rfl); (case hr => first | (go_simp; done) | (go_simp; rfl)); intro g6 hg w2 hbox hb; have N36 := Ak (show g3 ≠ g6 by rw [hg]; exact Nat.ne_of_lt (blk_lt B3.1)); have G6 := Ak (show w.heap.size ≤ g6 by rw [hg]; exact HB.1.size); have m_HB := Ak (below_step HB.1 hb); have m_B3 := Ak (blk_below B3.1 hb); have B6 := Ak hbox; clear HB B3 hbox hb hg; have HB := m_HB; have B3 := m_B3; clear m_HB m_B3; have kk : w2.cell? ⟨g3, 2, none⟩ = some (.int .i64 key) := (blk_cell B3.1 2).trans rfl) | ((with_reducible refine gate_callee (f := 12) rfl ?_); refine goesL_ (some 15) rfl rfl Tryz.func12 (by kernel_rfl) rfl #[.slice A l.length c, .int .i64 rate, .int .i64 key] rfl (by (try simp only [lm_, lc_, ln_]); first | done | rfl) ?_; refine (MK.1 _ HB.1).mono ?_; rintro e w4 ⟨v0, v1, rfl, h0, h1, hb⟩; refine ⟨_, rfl, ?_⟩; have H0 := Ak (Kd.R_lower h0 HB.1.size); have H1 := Ak (Kd.R_lower h1 HB.1.size); clear h0 h1 kk; obtain ⟨A0, c0, e0⟩ := Kd.R_slice H0.1; subst e0; obtain ⟨A1, c1, e1⟩ := Kd.R_slice H1.1; subst e1; replace B3 := Ak (blk_below B3.1 hb); replace B6 := Ak (blk_below B6.1 hb); replace HB := Ak (below_step HB.1 hb); clear hb) | ((with_reducible refine gate_dst (N := 8) rfl ?_); refine Fill.fill_event (N := 8) (x := 16) (cs := #[.slice A0 ins.length c0, .slice A1 outs.length c1, .int .i64 lock, .int .i64 fee, .int .i64 rt]) (t := 50) rfl rfl rfl rfl rfl rfl Tryz.zeroValue50 Tryz.sizeOf50 rfl rfl (fun _ => rfl) (fun _ => rfl) ?_; intro g8 hg8 w5 hbox hb; have N68 := Ak (show g6 ≠ g8 by rw [hg8]; exact Nat.ne_of_lt (blk_lt B6.1)); have B8 := Ak hbox; have m_H0 := Ak (Kd.R_below H0.1 hb); have m_H1 := Ak (Kd.R_below H1.1 hb); replace B3 := Ak (blk_below B3.1 hb); replace B6 := Ak (blk_below B6.1 hb); replace HB := Ak (below_step HB.1 hb); clear H0 H1 hbox hb hg8; have H0 := m_H0; have H1 := m_H1; clear m_H0 m_H1))
   replace B3 := Ak (blk_drew B3.1)
   replace B6 := Ak (blk_drew B6.1)
   replace B8 := Ak (blk_drew B8.1)
   replace H0 := Ak (Kd.R_drew H0.1)
   replace H1 := Ak (Kd.R_drew H1.1)
   replace HB := Ak (below_drew1 HB.1)
   refine start_ (n := 12) (S := (fun w' => (w'.cell? ⟨g8, 0, none⟩ = some (.slice A0 ins.length c0) ∧ w'.cell? ⟨g8, 1, none⟩ = some (.slice A1 outs.length c1) ∧ w'.cell? ⟨g8, 2, none⟩ = some (.int .i64 lock) ∧ w'.cell? ⟨g8, 3, none⟩ = some (.int .i64 fee) ∧ w'.cell? ⟨g8, 4, none⟩ = some (.int .i64 rt)) ∧ w'.cell? ⟨g3, 1, none⟩ = some (.int .i64 limit))) (ds := []) #[false, false, false, false, false, false, false, false, false, false, false, false] (by kernel_rfl) rfl rfl ⟨⟨(blk_cell B8.1 0).trans rfl, (blk_cell B8.1 1).trans rfl, (blk_cell B8.1 2).trans rfl, (blk_cell B8.1 3).trans rfl, (blk_cell B8.1 4).trans rfl⟩, (blk_cell B3.1 1).trans rfl⟩ (fun hHeld => ?_)
   generalize w5.drew = w6 at B3 B6 B8 H0 H1 HB hHeld ⊢
   refine pure_ (i := 1) (N := some 19) (v := ?_) (a' := ?_) #[false, true, false, false, false, false, false, false, false, false, false, false] rfl rfl (by kernel_rfl) (fun _ _ _ h => h) (Or.inl ⟨by rfl, ?_⟩) ?_ ?_
   rotate_left
   ·intro w'
    go_simp
    with_reducible rfl
   rotate_left
   ·simp only [Act.put, ls_, l0_, l1_, i64_w, i32_w]
    rfl
   refine pure_ (i := 2) (N := some 20) (v := ?_) (a' := ?_) #[false, true, true, false, false, false, false, false, false, false, false, false] rfl rfl (by kernel_rfl) (fun _ _ _ h => h) (Or.inl ⟨by rfl, ?_⟩) ?_ ?_
   rotate_left
   ·intro w'
    go_simp
    with_reducible rfl
   rotate_left
   ·simp only [Act.put, ls_, l0_, l1_, i64_w, i32_w]
    rfl
   refine pure_ (i := 3) (N := some 21) (v := ?_) (a' := ?_) #[false, true, true, true, false, false, false, false, false, false, false, false] rfl rfl (by kernel_rfl) (fun _ _ _ h => h) (Or.inl ⟨by rfl, ?_⟩) ?_ ?_
   rotate_left
   ·intro w'
    go_simp
    with_reducible rfl
   rotate_left
   ·simp only [Act.put, ls_, l0_, l1_, i64_w, i32_w]
    rfl
   refine take_ (i := 4) (N := some 22) (v := ?_) (a' := ?_) #[false, true, true, true, true, false, false, false, false, false, false, false] rfl rfl (by kernel_rfl) (fun _ _ _ h => h) (Or.inl ⟨by rfl, ?_⟩) hHeld ?_ ?_
   rotate_left
   ·rintro w' ⟨⟨hs0, hs1, hs2, hs3, hs4⟩, hs5⟩
    go_simp
    with_reducible rfl
   rotate_left
   ·simp only [Act.put, ls_, l0_, l1_, i64_w, i32_w]
    rfl
   refine pure_ (i := 6) (N := some 24) (v := ?_) (a' := ?_) #[false, true, true, true, true, false, true, false, false, false, false, false] rfl rfl (by kernel_rfl) (fun _ _ _ h => h) (Or.inl ⟨by rfl, ?_⟩) ?_ ?_
   rotate_left
   ·intro w'
    go_simp
    with_reducible rfl
   rotate_left
   ·simp only [Act.put, ls_, l0_, l1_, i64_w, i32_w]
    rfl
   refine take_ (i := 7) (N := some 25) (v := ?_) (a' := ?_) #[false, true, true, true, true, false, true, true, false, false, false, false] rfl rfl (by kernel_rfl) (fun _ _ _ h => h) (Or.inl ⟨by rfl, ?_⟩) hHeld ?_ ?_
   rotate_left
   ·rintro w' ⟨⟨hs0, hs1, hs2, hs3, hs4⟩, hs5⟩
    go_simp
    with_reducible rfl
   rotate_left
   ·simp only [Act.put, ls_, l0_, l1_, i64_w, i32_w]
    rfl
   refine take_ (i := 0) (N := some 18) (v := ?_) (a' := ?_) #[true, true, true, true, true, false, true, true, false, false, false, false] rfl rfl (by kernel_rfl) (fun _ _ _ h => h) (Or.inl ⟨by rfl, ?_⟩) hHeld ?_ ?_
   rotate_left
   ·rintro w' ⟨⟨hs0, hs1, hs2, hs3, hs4⟩, hs5⟩
    go_simp
    with_reducible rfl
   rotate_left
   ·simp only [Act.put, ls_, l0_, l1_, i64_w, i32_w]
    rfl
   refine one_ (i := 5) (N := some 23) #[true, true, true, true, true, true, true, true, false, false, false, false] rfl rfl (by kernel_rfl) (by decide) (fun K hK => ?_)
   refine goes_ Tryz.func36 (by kernel_rfl) rfl #[.agg #[.slice A0 ins.length c0, .slice A1 outs.length c1, .int .i64 lock]] (by rfl) rfl rfl (by (try simp only [lm_, lc_, ln_]); first | done | rfl) ?_
   refine (tx_Weight.calls _ A0 c0 ins A1 c1 outs lock wt _ (Kd.R_reads' H0.1).2.2 (Kd.R_reads' H0.1).2.1 (Kd.R_reads' H1.1).2.2 (Kd.R_reads' H1.1).2.1 KW.1).mono ?_
   rintro e w7 ⟨rfl, hb⟩
   refine ⟨_, rfl, ?_⟩
   replace B3 := Ak (blk_below B3.1 hb)
   replace B6 := Ak (blk_below B6.1 hb)
   replace B8 := Ak (blk_below B8.1 hb)
   replace H0 := Ak (Kd.R_below H0.1 hb)
   replace H1 := Ak (Kd.R_below H1.1 hb)
   replace HB := Ak (below_step HB.1 hb)
   clear hb
   refine hK.out _ _ ⟨⟨(blk_cell B8.1 0).trans rfl, (blk_cell B8.1 1).trans rfl, (blk_cell B8.1 2).trans rfl, (blk_cell B8.1 3).trans rfl, (blk_cell B8.1 4).trans rfl⟩, (blk_cell B3.1 1).trans rfl⟩ (fun hHeld => ?_)
   clear hK K
   refine norm_ (a' := ?_) ?_ ?_
   rotate_left
   ·show Act.put _ (some 23) _ = _
    simp only [Act.put, ls_, l0_, l1_, i64_w, i32_w]
    rfl
   refine pure_ (i := 8) (N := some 26) (v := ?_) (a' := ?_) #[true, true, true, true, true, true, true, true, true, false, false, false] rfl rfl (by kernel_rfl) (fun _ _ _ h => h) (Or.inl ⟨by rfl, ?_⟩) ?_ ?_
   rotate_left
   ·intro w'
    go_simp
    with_reducible rfl
   rotate_left
   ·simp only [Act.put, ls_, l0_, l1_, i64_w, i32_w]
    rfl
   refine pure_ (i := 9) (N := some 27) (v := ?_) (a' := ?_) #[true, true, true, true, true, true, true, true, true, true, false, false] rfl rfl (by kernel_rfl) (fun _ _ _ h => h) (Or.inl ⟨by rfl, ?_⟩) ?_ ?_
   rotate_left
   ·intro w'
    go_simp
    with_reducible rfl
   rotate_left
   ·simp only [Act.put, ls_, l0_, l1_, i64_w, i32_w]
    rfl
   refine one_ (i := 10) (N := none) #[true, true, true, true, true, true, true, true, true, true, true, false] rfl rfl (by kernel_rfl) (by decide) (fun K hK => ?_)
   have q0 : w7.cell? ⟨g6, 0, none⟩ = some (.slice none 0 0) := (blk_cell B6.1 0).trans rfl
   have q1 : w7.cell? ⟨g6, 1, none⟩ = some (.slice none 0 0) := (blk_cell B6.1 1).trans rfl
   have q2 : w7.cell? ⟨g6, 2, none⟩ = some (.int .i64 0) := (blk_cell B6.1 2).trans rfl
   have q3 : w7.cell? ⟨g6, 3, none⟩ = some (.int .i64 0) := (blk_cell B6.1 3).trans rfl
   have q4 : w7.cell? ⟨g6, 4, none⟩ = some (.int .i64 0) := (blk_cell B6.1 4).trans rfl
   have f0 := blk_frozen B6.1 0
   have f1 := blk_frozen B6.1 1
   have f2 := blk_frozen B6.1 2
   have f3 := blk_frozen B6.1 3
   have f4 := blk_frozen B6.1 4
   refine skip_ (w1 := w7.setCells g6 0 [.slice A0 ins.length c0, .slice A1 outs.length c1, .int .i64 lock, .int .i64 fee, .int .i64 rt]) (by rfl) rfl ?_ ?_
   ·first | (go_simp; done) | (go_simp; rfl)
   have hgs : w7.grownBy (w7.setCells g6 0 [.slice A0 ins.length c0, .slice A1 outs.length c1, .int .i64 lock, .int .i64 fee, .int .i64 rt]) (some g6) := grown_setCells g6 [.slice A0 ins.length c0, .slice A1 outs.length c1, .int .i64 lock, .int .i64 fee, .int .i64 rt] 0 w7
   replace B3 := Ak (blk_grown B3.1 hgs (by simpa using N36.1))
   replace B8 := Ak (blk_grown B8.1 hgs (by simpa using Ne.symm N68.1))
   replace H0 := Ak (Kd.R_grown2 H0.1 rfl hgs (fun k e => by cases e; exact Kd.R_ne H0.1 B6.1 (by decide)))
   replace H1 := Ak (Kd.R_grown2 H1.1 rfl hgs (fun k e => by cases e; exact Kd.R_ne H1.1 B6.1 (by decide)))
   replace B6 := Ak (heap_setCells [.slice A0 ins.length c0, .slice A1 outs.length c1, .int .i64 lock, .int .i64 fee, .int .i64 rt] 0 w7 [.slice none 0 0, .slice none 0 0, .int .i64 0, .int .i64 0, .int .i64 0] B6.1 (by simp))
   replace HB := Ak (pw_below_grown HB.1 (some g6) HB.1.size hgs (fun k e => by cases e; exact G6.1))
   clear hgs q0 q1 q2 q3 q4 f0 f1 f2 f3 f4
   generalize w7.setCells g6 0 [.slice A0 ins.length c0, .slice A1 outs.length c1, .int .i64 lock, .int .i64 fee, .int .i64 rt] = w9 at B3 B6 B8 H0 H1 HB ⊢
   refine hK.out _ _ ⟨⟨(blk_cell B8.1 0).trans rfl, (blk_cell B8.1 1).trans rfl, (blk_cell B8.1 2).trans rfl, (blk_cell B8.1 3).trans rfl, (blk_cell B8.1 4).trans rfl⟩, (blk_cell B3.1 1).trans rfl⟩ (fun hHeld => ?_)
   clear hK K
   refine pure_ (i := 11) (N := some 7) (v := ?_) (a' := ?_) #[true, true, true, true, true, true, true, true, true, true, true, true] rfl rfl (by kernel_rfl) (fun _ _ _ h => h) (Or.inl ⟨by rfl, ?_⟩) ?_ ?_
   rotate_left
   ·intro w'
    go_simp
    with_reducible rfl
   rotate_left
   ·simp only [Act.put, ls_, l0_, l1_, i64_w, i32_w]
    rfl
   refine done_ (by kernel_rfl) ?_
   clear hHeld
   go_wp2
   (refine bodyPost_ret (results_ct rfl _ _ g6 50 #[.slice A0 ins.length c0, .slice A1 outs.length c1, .int .i64 lock, .int .i64 fee, .int .i64 rt] (0, 0) _ rfl (by simpa [over] using B6.1) Tryz.underlying50 rfl (by kernel_rfl)) rfl ?_; first | exact ⟨_, _, rfl, H0.1, H1.1, HB.1⟩ | (rw [HW.1]; exact ⟨_, _, rfl, H0.1, H1.1, HB.1⟩))
end Go.Proofs.YtiodebjjbgcbhaaGreat.Inp
