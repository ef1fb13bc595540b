import Derived.Lib.Bytes
import Derived.Test.YtiodebjjbgcbhaaGreatRfE
namespace Go.Proofs.YtiodebjjbgcbhaaGreat.RfB
open Go.RowKit Go.Sort Go.Lib Go.Shelf Go.Proofs YtiodebjjbgcbhaaGreatW.PrintWords YtiodebjjbgcbhaaGreatW.PrintLast YtiodebjjbgcbhaaGreatW.PrintMore YtiodebjjbgcbhaaGreat Hand Inp RowK Fill OrdO QLef LefL
attribute [local go_sem ↓ high] Wide.hv44 Wide.hv33 Wide.hv37 Wide.hv32
set_option linter.unusedVariables false
set_option linter.unusedSimpArgs false
variable {α : Type}
def Byt (l : List Int) : Prop := ∀ v ∈ l, 0 ≤ v ∧ v ≤ 255
theorem bl : ∀ (xs ys : List Int), xs.length = ys.length → Byt xs → Byt ys → Op.bytesLess (xs.map fun n => UInt8.ofNat n.toNat) (ys.map fun n => UInt8.ofNat n.toNat) = decide (lcmp xs ys < 0)
 | [], [], _, _, _ => rfl
 | [], _ :: _, h, _, _ => by simp at h
 | _ :: _, [], h, _, _ => by simp at h
 | a :: xs, b :: ys, h, hx, hy => by
  have ih := bl xs ys (by simpa using h) (fun v hv => hx v (List.mem_cons_of_mem _ hv)) (fun v hv => hy v (List.mem_cons_of_mem _ hv))
  have ha := hx a List.mem_cons_self
  have hb := hy b List.mem_cons_self
  have hl : (UInt8.ofNat a.toNat < UInt8.ofNat b.toNat) ↔ a < b := by
   rw [UInt8.lt_iff_toNat_lt, UInt8.toNat_ofNat', UInt8.toNat_ofNat', Nat.mod_eq_of_lt (by omega), Nat.mod_eq_of_lt (by omega)]
   omega
  have he : (UInt8.ofNat a.toNat = UInt8.ofNat b.toNat) ↔ a = b := by
   rw [← UInt8.toNat_inj, UInt8.toNat_ofNat', UInt8.toNat_ofNat', Nat.mod_eq_of_lt (by omega), Nat.mod_eq_of_lt (by omega)]
   omega
  rw [lc_, lc_, Op.bytesLess, ih, lcmp]
  unfold cmp3
  by_cases h1 : a < b
  ·simp [hl.2 h1, h1]
  ·by_cases h2 : b < a
   ·have h3 : ¬ (UInt8.ofNat a.toNat < UInt8.ofNat b.toNat) := fun h => h1 (hl.1 h)
    have h4 : ¬ (UInt8.ofNat a.toNat = UInt8.ofNat b.toNat) := fun h => by have := he.1 h; omega
    simp [h1, h2, h3, h4]
   ·obtain rfl : a = b := by omega
    simp
theorem hash_C {w : World} {g : Nat} {xs : List Int} (hx : xs.length = 32) (h : w.heap[g]? = some (.cells (xs.map (Value.int .u8)).toArray 30 (0, 0))) : ReadsInt w .u8 (some ⟨g, 0, none⟩) 32 xs :=
 ⟨hx, by decide, fun _ => ⟨⟨g, 0, none⟩, rfl, fun j hj => by
  rw [Addr.add_lit, Nat.zero_add, blk_cell h j]
  simp [List.getElem?_map, List.getD_eq_getElem?_getD, List.getElem?_eq_getElem (show j < xs.length by omega)]⟩⟩
set_option maxHeartbeats 4000000 in
set_option maxRecDepth 100000 in
theorem refless_calls (xs ys : List Int) (hx : xs.length = 32) (hy : ys.length = 32) (bx : Byt xs) (by_ : Byt ys) (w : World) : Calls Tryz.prog 93 #[.agg (xs.map (Value.int .u8)).toArray, .agg (ys.map (Value.int .u8)).toArray] w fun e w' => e = .returned (.bool (decide (lcmp xs ys < 0))) ∧ Below w.heap.size w w' := by
 have mixed : Tryz.prog.follows .mixedOrders = true := by kernel_rfl
 have HB := Ak (Below.refl w.heap.size w)
 have SX := Ak (fun (g : Nat) (V : World) (h : V.heap[g]? = some (.cells (xs.map (Value.int .u8)).toArray 30 (0, 0))) => string_of_reads Tryz.underlying145 Tryz.underlying5 Tryz.underlying9 (c := 32) (hash_C hx h))
 have SY := Ak (fun (g : Nat) (V : World) (h : V.heap[g]? = some (.cells (ys.map (Value.int .u8)).toArray 30 (0, 0))) => string_of_reads Tryz.underlying145 Tryz.underlying5 Tryz.underlying9 (c := 32) (hash_C hy h))
 have EQ : Op.bytesLess (strOfNums xs).toList (strOfNums ys).toList = decide (lcmp xs ys < 0) := by
  rw [Lib.strOfNums_toList, Lib.strOfNums_toList]
  exact bl xs ys (hx.trans hy.symm) bx by_
 rw [← EQ]
 clear EQ bx by_ hx hy
 generalize strOfNums xs = sx at SX ⊢
 generalize strOfNums ys = sy at SY ⊢
 generalize (xs.map (Value.int .u8)).toArray = cx at SX ⊢
 generalize (ys.map (Value.int .u8)).toArray = cy at SY ⊢
 have hu := Tryz.underlying30
 go_enter Tryz.func93, Tryz.ntmps93
 go_upto_region 1 with (first | ((with_reducible refine gate_dst (N := 2) rfl ?_); refine box_event ?hg (N := 2) ?hd (cs := cx) (t := 30) ?hr ?_; (case hd => rfl); (case hg => rfl); (case hr => first | (go_simp; done) | (go_simp; rfl)); intro g2 hg w3 hbox hb; replace HB := Ak (below_step HB.1 hb); have BX := Ak hbox; clear hbox hb hg) | ((with_reducible refine gate_dst (N := 3) rfl ?_); refine box_event ?hg (N := 3) ?hd (cs := cy) (t := 30) ?hr ?_; (case hd => rfl); (case hg => rfl); (case hr => first | (go_simp; done) | (go_simp; rfl)); intro g3 hg w4 hbox hb; replace HB := Ak (below_step HB.1 hb); have BY := Ak hbox; replace BX := Ak (blk_below BX.1 hb); clear hbox hb hg))
 have cX := fun dd os => SX.1 g2 (grow (redrawn w4 dd) os) (blk_below BX.1 (below_regrown w4 dd os))
 have cY := fun dd os => SY.1 g3 (grow (redrawn w4 dd) os) (blk_below BY.1 (below_regrown w4 dd os))
 refine wp_region_quiet_below mixed (by kernel_rfl) ?_
 repeat (quiet_step (fail))
 refine wpQuiet_nil ?_
 intro _ hw'
 obtain ⟨⟨nq, osq⟩, hw''⟩ := hw'
 subst hw''
 go_wp2
 go_ret
 exact ⟨rfl, HB.1.trans ((below_regrown w4 nq osq).mono HB.1.size)⟩
theorem pt_take (I : Inp.Spec α) (x : α) : (I.pt x).take 32 = (I.bs x).map (Value.int .u8) := by
 unfold Inp.Spec.pt
 rw [List.take_append_of_le_length (by simp [I.hbs]), List.take_of_length_le (by simp [I.hbs])]
theorem pt_at (I : Inp.Spec α) (x : α) : (I.pt x)[32]? = some (.int .i64 (I.nn x)) := by
 unfold Inp.Spec.pt
 rw [List.getElem?_append_right (by simp [I.hbs])]
 simp [I.hbs]
set_option maxHeartbeats 4000000 in
set_option maxRecDepth 100000 in
theorem refpless_calls (I : Inp.Spec α) (x y : α) (bx : Byt (I.bs x)) (by_ : Byt (I.bs y)) (w : World) : Calls Tryz.prog 80 #[.agg (I.pt x).toArray, .agg (I.pt y).toArray] w fun e w' => e = .returned (.bool (decide (ocmp I.bs I.nn x y < 0))) ∧ Below w.heap.size w w' := by
 have HL := Ak (fun W => refless_calls (I.bs x) (I.bs y) (I.hbs x) (I.hbs y) bx by_ W)
 have hq := fun d W => ArrW.arr_eq (P := Tryz.prog) d 30 5 .u8 .u8 32 W (I.bs x) (I.bs y) (I.hbs x) (I.hbs y) Tryz.underlying30 Tryz.underlying5 Tryz.isAgg5 Tryz.sizeOf5
 have PX := Ak (And.intro (pt_take I x) (And.intro (pt_at I x) (I.hpt x)))
 have PY := Ak (And.intro (pt_take I y) (And.intro (pt_at I y) (I.hpt y)))
 have lx : ((I.bs x).map (Value.int .u8)).length = 32 := by simp [I.hbs]
 have ly : ((I.bs y).map (Value.int .u8)).length = 32 := by simp [I.hbs]
 have EQ : decide (ocmp I.bs I.nn x y < 0) = if (I.bs x == I.bs y) = true then decide (I.nn x < I.nn y) else decide (lcmp (I.bs x) (I.bs y) < 0) := by
  unfold ocmp
  by_cases e : I.bs x = I.bs y
  ·have e1 : lcmp (I.bs x) (I.bs y) = 0 := by rw [e]; exact SortO.lcmp_self _
   rw [if_pos e1, if_pos (beq_iff_eq.2 e), decide_eq_decide]
   exact SortO.cmp3_neg
  ·rw [if_neg (fun h => e (beq_iff_eq.1 h)), if_neg (fun h => e (SortO.lcmp_zero h))]
 rw [EQ]
 clear EQ bx by_
 generalize decide (lcmp (I.bs x) (I.bs y) < 0) = r at HL ⊢
 generalize (I.bs x == I.bs y) = b at hq ⊢
 generalize (I.bs x).map (Value.int .u8) = hx at HL hq PX lx
 generalize (I.bs y).map (Value.int .u8) = hy at HL hq PY ly
 generalize I.nn x = nx at PX ⊢
 generalize I.nn y = ny at PY ⊢
 generalize I.pt x = cx at PX ⊢
 generalize I.pt y = cy at PY ⊢
 have LX := Ak lx
 have LY := Ak ly
 clear lx ly
 have HB := Ak (Below.refl w.heap.size w)
 have hu := Tryz.underlying32
 go_enter Tryz.func80, Tryz.ntmps80
 go_upto_region 1 with (first | ((with_reducible refine gate_dst (N := 2) rfl ?_); refine box_event ?hg (N := 2) ?hd (cs := cx.toArray) (t := 32) ?hr ?_; (case hd => rfl); (case hg => rfl); (case hr => first | (go_simp; done) | (go_simp; rfl)); intro g2 hg w3 hbox hb; replace HB := Ak (below_step HB.1 hb); have BX := Ak hbox; clear hbox hb hg) | ((with_reducible refine gate_dst (N := 3) rfl ?_); refine box_event ?hg (N := 3) ?hd (cs := cy.toArray) (t := 32) ?hr ?_; (case hd => rfl); (case hg => rfl); (case hr => first | (go_simp; done) | (go_simp; rfl)); intro g3 hg w4 hbox hb; replace HB := Ak (below_step HB.1 hb); have BY := Ak hbox; replace BX := Ak (blk_below BX.1 hb); clear hbox hb hg))
 have l1 : Sem.run Tryz.prog (Wide.heavy0 ⟨g2, 0, none⟩ 32) w4 = .ok hx.toArray w4 := row_load BX.1 0 32 _ LX.1 (by rw [List.drop_zero]; exact PX.1.1)
 have l2 : Sem.run Tryz.prog (Wide.heavy0 ⟨g3, 0, none⟩ 32) w4 = .ok hy.toArray w4 := row_load BY.1 0 32 _ LY.1 (by rw [List.drop_zero]; exact PY.1.1)
 have k1 : w4.cell? ⟨g2, 32, none⟩ = some (.int .i64 nx) := (blk_cell BX.1 32).trans (by simpa using PX.1.2.1)
 have k2 : w4.cell? ⟨g3, 32, none⟩ = some (.int .i64 ny) := (blk_cell BY.1 32).trans (by simpa using PY.1.2.1)
 cases b <;> (go_wp2_with (go_at_call 93; (with_reducible refine (HL.1 _).mono ?_); rintro e w5 ⟨rfl, hb⟩; replace HB := Ak (below_step HB.1 hb); clear hb)) <;> (go_ret; exact ⟨rfl, HB.1⟩)
theorem cmpI_neg (a b : Int) : cmpI a b < 0 ↔ a < b := by unfold cmpI; repeat' split <;> omega
theorem cmpI_zero (a b : Int) : cmpI a b = 0 ↔ a = b := by unfold cmpI; repeat' split <;> omega
theorem or3 (a b c : Int) : orV [a, b, c] = if a = 0 then (if b = 0 then c else b) else a := by
 simp only [orV]
 repeat' split
 all_goals simp_all
theorem ahead_eq (I : Inp.Spec α) (rt : α → Int) (x y : α) : decide (cmpR I rt x y < 0) = if rt x ≠ rt y then decide (rt y < rt x) else if I.dl x ≠ I.dl y then decide (I.dl x < I.dl y) else decide (ocmp I.bs I.nn x y < 0) := by
 unfold cmpR
 rw [Bool.eq_iff_iff, decide_eq_true_iff, or3]
 by_cases h1 : rt x = rt y
 ·rw [if_neg (show ¬ (rt x ≠ rt y) from fun h => h h1), if_pos ((cmpI_zero _ _).2 h1.symm)]
  by_cases h2 : I.dl x = I.dl y
  ·rw [if_neg (show ¬ (I.dl x ≠ I.dl y) from fun h => h h2), if_pos ((cmpI_zero _ _).2 h2), decide_eq_true_iff]
   unfold placeI
   by_cases h3 : ocmp I.bs I.nn x y < 0
   ·simp [h3]
   ·by_cases h4 : ocmp I.bs I.nn y x < 0 <;> simp [h3, h4]
  ·rw [if_pos (show I.dl x ≠ I.dl y from h2), if_neg (fun h => h2 ((cmpI_zero _ _).1 h)), decide_eq_true_iff]
   exact cmpI_neg _ _
 ·rw [if_pos (show rt x ≠ rt y from h1), if_neg (fun h => h1 ((cmpI_zero _ _).1 h).symm), decide_eq_true_iff]
  exact cmpI_neg _ _
set_option maxHeartbeats 8000000 in
set_option maxRecDepth 100000 in
theorem refahead_calls (I : Inp.Spec α) (next : Int) (x y : α) (bx : Byt (I.bs x)) (by_ : Byt (I.bs y)) (w : World) : Calls Tryz.prog 50 #[.agg (I.enc x).toArray, .agg (I.enc y).toArray, .int .i64 next] w fun e w' => e = .returned (.bool (decide (cmpR I (rtC I next) x y < 0))) ∧ Below w.heap.size w w' := by
 have mixed : Tryz.prog.follows .mixedOrders = true := by kernel_rfl
 rw [ahead_eq]
 have HL := Ak (fun W => refpless_calls I x y bx by_ W)
 have RX := Ak (fun W => refrate_calls I next x W)
 have RY := Ak (fun W => refrate_calls I next y W)
 have PX := Ak (And.intro (I.take_pt x) (And.intro (I.at_dl x) (And.intro (I.hpt x) (I.hk x))))
 have PY := Ak (And.intro (I.take_pt y) (And.intro (I.at_dl y) (And.intro (I.hpt y) (I.hk y))))
 clear bx by_
 generalize decide (ocmp I.bs I.nn x y < 0) = r at HL ⊢
 generalize rtC I next x = r1 at RX ⊢
 generalize rtC I next y = r2 at RY ⊢
 generalize I.pt x = px at HL PX
 generalize I.pt y = py at HL PY
 generalize I.dl x = d1 at PX ⊢
 generalize I.dl y = d2 at PY ⊢
 generalize I.enc x = cx at RX PX ⊢
 generalize I.enc y = cy at RY PY ⊢
 obtain ⟨v, hv⟩ : ∃ v, (if r1 ≠ r2 then decide (r2 < r1) else if d1 ≠ d2 then decide (d1 < d2) else r) = v := ⟨_, rfl⟩
 rw [hv]
 have HV := Ak hv
 clear hv
 have HB := Ak (Below.refl w.heap.size w)
 have hu := Tryz.underlying42
 go_enter Tryz.func50, Tryz.ntmps50
 go_upto_region 1 with (first | ((with_reducible refine gate_dst (N := 3) rfl ?_); refine box_event ?hg (N := 3) ?hd (cs := cx.toArray) (t := 42) ?hr ?_; (case hd => rfl); (case hg => rfl); (case hr => first | (go_simp; done) | (go_simp; rfl)); intro g2 hg w3 hbox hb; replace HB := Ak (below_step HB.1 hb); have BX := Ak hbox; clear hbox hb hg) | ((with_reducible refine gate_dst (N := 4) rfl ?_); refine box_event ?hg (N := 4) ?hd (cs := cy.toArray) (t := 42) ?hr ?_; (case hd => rfl); (case hg => rfl); (case hr => first | (go_simp; done) | (go_simp; rfl)); intro g3 hg w4 hbox hb; replace HB := Ak (below_step HB.1 hb); have BY := Ak hbox; replace BX := Ak (blk_below BX.1 hb); clear hbox hb hg))
 have h1 : ∀ dd os, Sem.run Tryz.prog (Wide.heavy0 ⟨g2, 0, none⟩ 44) (grow (redrawn w4 dd) os) = .ok cx.toArray (grow (redrawn w4 dd) os) := fun dd os => row_load (blk_below BX.1 (below_regrown w4 dd os)) 0 44 _ PX.1.2.2.2 (by rw [List.drop_zero, List.take_of_length_le (by rw [PX.1.2.2.2]; exact Nat.le_refl _)])
 have h2 : ∀ dd os, Sem.run Tryz.prog (Wide.heavy0 ⟨g3, 0, none⟩ 44) (grow (redrawn w4 dd) os) = .ok cy.toArray (grow (redrawn w4 dd) os) := fun dd os => row_load (blk_below BY.1 (below_regrown w4 dd os)) 0 44 _ PY.1.2.2.2 (by rw [List.drop_zero, List.take_of_length_le (by rw [PY.1.2.2.2]; exact Nat.le_refl _)])
 have en1 := enters_of Tryz.func11 (by kernel_rfl) rfl
 refine wp_region_quiet_below mixed (by kernel_rfl) ?_
 repeat (quiet_step (first | with_reducible exact Calls.regrown_of (RX.1 _) | with_reducible exact Calls.regrown_of (RY.1 _)))
 refine wpQuiet_nil ?_
 intro _ hw'
 obtain ⟨⟨nq, osq⟩, hw''⟩ := hw'
 subst hw''
 replace BX := Ak (blk_below BX.1 (below_regrown w4 nq osq))
 replace BY := Ak (blk_below BY.1 (below_regrown w4 nq osq))
 replace HB := Ak (below_step HB.1 (below_regrown w4 nq osq))
 clear h1 h2 en1
 generalize grow (redrawn w4 nq) osq = wp at BX BY HB ⊢
 have l1 : Sem.run Tryz.prog (Wide.heavy0 ⟨g2, 0, none⟩ 33) wp = .ok px.toArray wp := row_load BX.1 0 33 _ PX.1.2.2.1 (by rw [List.drop_zero]; exact PX.1.1)
 have l2 : Sem.run Tryz.prog (Wide.heavy0 ⟨g3, 0, none⟩ 33) wp = .ok py.toArray wp := row_load BY.1 0 33 _ PY.1.2.2.1 (by rw [List.drop_zero]; exact PY.1.1)
 have k1 : wp.cell? ⟨g2, 42, none⟩ = some (.int .i64 d1) := (blk_cell BX.1 42).trans (by simpa using PX.1.2.1)
 have k2 : wp.cell? ⟨g3, 42, none⟩ = some (.int .i64 d2) := (blk_cell BY.1 42).trans (by simpa using PY.1.2.1)
 by_cases e1 : r1 = r2
 ·have e1' := beq_iff_eq.2 e1
  by_cases e2 : d1 = d2
  ·have e2' := beq_iff_eq.2 e2
   obtain rfl : r = v := by simpa [e1, e2] using HV.1
   go_wp2_with (go_at_call 80; (with_reducible refine (HL.1 _).mono ?_); rintro e w5 ⟨rfl, hb⟩; replace HB := Ak (below_step HB.1 hb); clear hb)
   go_ret
   exact ⟨rfl, HB.1⟩
  ·have e2' : (d1 == d2) = false := by simpa using e2
   obtain rfl : decide (d1 < d2) = v := by simpa [e1, e2] using HV.1
   go_wp2
   go_ret
   exact ⟨rfl, HB.1⟩
 ·have e1' : (r1 == r2) = false := by simpa using e1
  obtain rfl : decide (r2 < r1) = v := by simpa [e1] using HV.1
  go_wp2
  go_ret
  exact ⟨rfl, HB.1⟩
end Go.Proofs.YtiodebjjbgcbhaaGreat.RfB
