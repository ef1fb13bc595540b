/- An input as its cells, and what the program's parts are asked of it; its place, its ripeness. -/
import Derived.Lib.QuietBelow
import Derived.Test.YtiodebjjbgcbhaaOrdO
import Derived.Test.YtiodebjjbgcbhaaStbE
import Derived.Test.YtiodebjjbgcbhaaWMore
import Derived.Test.YtiodebjjbgcbhaaWFour
import Derived.Test.YtiodebjjbgcbhaaWInvWords
import Derived.Test.YtiodebjjbgcbhaaPutW
namespace Go.Proofs.Ytiodebjjbgcbhaa.Inp
open Go.RowKit Go.Sort Go.Lib Go.Shelf Go.Proofs.YtiodebjjbgcbhaaW.PrintWords Go.Proofs.YtiodebjjbgcbhaaW.PrintMore Go.Proofs.Ytiodebjjbgcbhaa.RowK Go.Proofs.Ytiodebjjbgcbhaa.Fill Go.Proofs.Ytiodebjjbgcbhaa.OrdO
attribute [local go_sem ↓ high] Wide.hv44 Wide.hv33
set_option linter.unusedVariables false
set_option linter.unusedSectionVars false
@[simp] theorem bne_nil_ (l : List UInt8) : (l != []) = !l.isEmpty := by cases l <;> rfl
/-- The claim's cells. -/
def claimCells (kind key : Int) (pre : ByteArray) (seq lock wait : Int) : List Value := [.int .i64 kind, .int .i64 key, .string pre, .int .i64 seq, .int .i64 lock, .int .i64 wait]
/-- What an input is, cell by cell, and what Check and Rate answer of it. -/
structure Spec (α : Type) where
 bs : α → List Int
 nn : α → Int
 value : α → Int
 kind : α → Int
 key : α → Int
 pre : α → ByteArray
 seq : α → Int
 lock : α → Int
 wait : α → Int
 conf : α → Int
 since : α → Int
 dl : α → Int
 budget : α → Int
 hbs : ∀ x, (bs x).length = 32
variable {α : Type}
def Spec.pt (I : Spec α) (x : α) : List Value := (I.bs x).map (Value.int .u8) ++ [.int .i64 (I.nn x)]
def Spec.cl (I : Spec α) (x : α) : List Value := claimCells (I.kind x) (I.key x) (I.pre x) (I.seq x) (I.lock x) (I.wait x)
def Spec.enc (I : Spec α) (x : α) : List Value := I.pt x ++ (Value.int .i64 (I.value x) :: (I.cl x ++ [.int .i64 (I.conf x), .int .i64 (I.since x), .int .i64 (I.dl x), .int .i64 (I.budget x)]))
theorem Spec.hpt (I : Spec α) (x : α) : (I.pt x).length = 33 := by simp [Spec.pt, I.hbs]
theorem Spec.hk (I : Spec α) (x : α) : (I.enc x).length = 44 := by simp [Spec.enc, I.hpt, Spec.cl, claimCells]
theorem Spec.h1 (I : Spec α) (x : α) : ∀ v ∈ I.enc x, v.oneCell' = true := by
 intro v hv
 simp only [Spec.enc, Spec.pt, Spec.cl, claimCells, List.mem_append, List.mem_map, List.mem_cons, List.not_mem_nil, or_false] at hv
 rcases hv with (⟨_, _, rfl⟩ | rfl) | rfl | (rfl | rfl | rfl | rfl | rfl | rfl) | rfl | rfl | rfl | rfl <;> rfl
theorem Spec.at_ (I : Spec α) (x : α) (j : Nat) : (I.enc x)[33 + j]? = (Value.int .i64 (I.value x) :: (I.cl x ++ [.int .i64 (I.conf x), .int .i64 (I.since x), .int .i64 (I.dl x), .int .i64 (I.budget x)]))[j]? := by
 unfold Spec.enc
 rw [List.getElem?_append_right (by rw [I.hpt]; omega), I.hpt]
 congr 1
 omega
theorem Spec.at_dl (I : Spec α) (x : α) : (I.enc x)[42]? = some (.int .i64 (I.dl x)) := I.at_ x 9
theorem Spec.at_conf (I : Spec α) (x : α) : (I.enc x)[40]? = some (.int .i64 (I.conf x)) := I.at_ x 7
theorem Spec.at_value (I : Spec α) (x : α) : (I.enc x)[33]? = some (.int .i64 (I.value x)) := I.at_ x 0
theorem Spec.at_budget (I : Spec α) (x : α) : (I.enc x)[43]? = some (.int .i64 (I.budget x)) := I.at_ x 10
theorem Spec.take_pt (I : Spec α) (x : α) : (I.enc x).take 33 = I.pt x := by
 unfold Spec.enc; rw [List.take_left' (I.hpt x)]
/-! ### the ripeness -/
def held (n : Int) : Int := min (max n 0) 1099511627776
def ripens (wait lock conf : Int) : Int := held (max (max (held conf + held wait) (held conf + 1)) (held lock))
theorem held_range (n : Int) : 0 ≤ held n ∧ held n ≤ 1099511627776 := by unfold held; omega
set_option maxHeartbeats 1000000 in
theorem held_calls (n : Int) (w : World) : Calls Try.prog 90 #[.int .i64 n] w fun e w' => e = .returned (.int .i64 (held n)) ∧ Below w.heap.size w w' := by
 have HB := Aside0.mk (Below.refl w.heap.size w)
 unfold held
 go_enter Try.func90, Try.ntmps90
 go_wp2
 go_ret
 exact ⟨rfl, HB.out⟩
set_option maxHeartbeats 4000000 in
set_option maxRecDepth 100000 in
/-- witness.Ripens. -/
theorem ripens_calls (kind key : Int) (pre : ByteArray) (seq lock wait conf : Int) (w : World) : Calls Try.prog 75 #[.agg (claimCells kind key pre seq lock wait).toArray, .int .i64 conf] w fun e w' => e = .returned (.int .i64 (ripens wait lock conf)) ∧ Below w.heap.size w w' := by
 have mixed : Try.prog.follows .mixedOrders = true := by kernel_rfl
 have HB := Aside0.mk (Below.refl w.heap.size w)
 have C1 := held_calls conf
 obtain ⟨c, hc⟩ : ∃ c, held conf = c := ⟨_, rfl⟩
 obtain ⟨a, ha⟩ : ∃ a, held wait = a := ⟨_, rfl⟩
 obtain ⟨l, hl⟩ : ∃ l, held lock = l := ⟨_, rfl⟩
 obtain ⟨m, hm⟩ : ∃ m, max (c + a) (c + 1) = m := ⟨_, rfl⟩
 obtain ⟨m2, hm2⟩ : ∃ m2, max m l = m2 := ⟨_, rfl⟩
 have rc := held_range conf
 have ra := held_range wait
 have rl := held_range lock
 rw [hc] at rc
 rw [ha] at ra
 rw [hl] at rl
 have C2 := held_calls wait
 have C3 := held_calls lock
 have C4 := held_calls m2
 have er : ripens wait lock conf = held m2 := by unfold ripens; rw [hc, ha, hl, hm, hm2]
 rw [er]
 rw [hc] at C1
 rw [ha] at C2
 rw [hl] at C3
 obtain ⟨r, hr⟩ : ∃ r, held m2 = r := ⟨_, rfl⟩
 rw [hr] at C4 ⊢
 have hmax : ∀ W, Sem.run Try.prog (Builtin.max_ #[3, 3, 3] 3 #[Value.int IntKind.i64 (c + a), Value.int IntKind.i64 (c + 1), Value.int IntKind.i64 l]) W = .ok (.int .i64 m2) W := fun W => by
  have e1 : (if c + a < c + 1 then c + 1 else c + a) = m := by rw [← hm]; split <;> omega
  have e2 : (if m < l then l else m) = m2 := by rw [← hm2]; split <;> omega
  rw [max_three, max2_int]
  simp only [pure_bind]
  rw [e1, max2_int, e2]
  rfl
 clear hc ha hl er hr hm hm2
 have A1 := Aside0.mk C1
 have A2 := Aside0.mk C2
 have A3 := Aside0.mk C3
 have A4 := Aside0.mk C4
 clear C1 C2 C3 C4
 have w1 : IntKind.i64.wrap (c + a) = c + a := by rw [IntKind.wrap_i64]; omega
 have w2 : IntKind.i64.wrap (c + 1) = c + 1 := by rw [IntKind.wrap_i64]; omega
 unfold claimCells
 go_enter Try.func75, Try.ntmps75
 go_upto_region 2 with (first | ((with_reducible refine gate_dst (N := 2) rfl ?_); refine box_event ?hg (N := 2) ?hd (cs := #[.int .i64 kind, .int .i64 key, .string pre, .int .i64 seq, .int .i64 lock, .int .i64 wait]) (t := 88) ?hr ?_; (case hd => rfl); (case hg => rfl); (case hr => first | (go_simp; done) | (go_simp; rfl)); intro gb hg w3 hbox hb; have HB3 := Aside0.mk (below_step HB.out hb); have BK := Aside0.mk hbox; clear HB hbox hb hg) | (go_at_call 90; refine (A1.out _).mono ?_; rintro e w4 ⟨rfl, hb4⟩; have HB4 := Aside0.mk (Below.trans HB3.out (hb4.mono HB3.out.size)); have BK4 := Aside0.mk (blk_below BK.out hb4); clear hb4))
 have kw : ∀ dd os, (grow (redrawn w4 dd) os).cell? ⟨gb, 5, none⟩ = some (.int .i64 wait) := fun dd os => cell_regrown ((blk_cell BK4.out 5).trans rfl) dd os
 have kl : ∀ dd os, (grow (redrawn w4 dd) os).cell? ⟨gb, 4, none⟩ = some (.int .i64 lock) := fun dd os => cell_regrown ((blk_cell BK4.out 4).trans rfl) dd os
 have en := enters_of Try.func90 (by kernel_rfl) rfl
 refine wp_region_quiet_below mixed (by kernel_rfl) ?_
 repeat (quiet_step (first | exact Calls.regrown_of (A2.out _) | exact Calls.regrown_of (A3.out _) | exact Calls.regrown_of (A4.out _)))
 refine wpQuiet_nil ?_
 intro _ hw'
 obtain ⟨⟨nq, osq⟩, hw''⟩ := hw'
 subst hw''
 go_wp2
 go_ret
 exact ⟨rfl, HB4.out.trans ((below_regrown w4 nq osq).mono HB4.out.size)⟩
/-- witness.Ripe. -/
def ripe (wait lock conf next : Int) : Bool := decide (ripens wait lock conf ≤ next)
set_option maxHeartbeats 1000000 in
theorem ripe_calls (kind key : Int) (pre : ByteArray) (seq lock wait conf next : Int) (w : World) : Calls Try.prog 54 #[.agg (claimCells kind key pre seq lock wait).toArray, .int .i64 conf, .int .i64 next] w fun e w' => e = .returned (.bool (ripe wait lock conf next)) ∧ Below w.heap.size w w' := by
 have HB := Aside0.mk (Below.refl w.heap.size w)
 have RC := Aside0.mk (ripens_calls kind key pre seq lock wait conf)
 unfold claimCells at RC ⊢
 unfold ripe
 obtain ⟨r, hr⟩ : ∃ r, ripens wait lock conf = r := ⟨_, rfl⟩
 rw [hr] at RC ⊢
 clear hr
 go_enter Try.func54, Try.ntmps54
 go_wp2_with (first | ((with_reducible refine gate_dst (N := 3) rfl ?_); refine box_event ?hg (N := 3) ?hd (cs := #[.int .i64 kind, .int .i64 key, .string pre, .int .i64 seq, .int .i64 lock, .int .i64 wait]) (t := 88) ?hr ?_; (case hd => rfl); (case hg => rfl); (case hr => first | (go_simp; done) | (go_simp; rfl)); intro gb hg w3 hbox hb; have HB3 := Aside0.mk (below_step HB.out hb); have k0 := (blk_cell hbox 0).trans rfl; have k1 := (blk_cell hbox 1).trans rfl; have k2 := (blk_cell hbox 2).trans rfl; have k3 := (blk_cell hbox 3).trans rfl; have k4 := (blk_cell hbox 4).trans rfl; have k5 := (blk_cell hbox 5).trans rfl; clear HB hbox hb hg) | (go_at_call 75; refine (RC.out _).mono ?_; rintro e w4 ⟨rfl, hb4⟩; have HB4 := Aside0.mk (Below.trans HB3.out (hb4.mono HB3.out.size)); clear hb4))
 go_ret
 exact ⟨by first | rfl | simp, HB4.out⟩
/-! ### the order of inputs -/
def cmpI (x y : Int) : Int := if x < y then -1 else if y < x then 1 else 0
set_option maxHeartbeats 1000000 in
theorem isNaN_calls (x : Int) (w : World) : Calls Try.prog 93 #[.int .i64 x] w fun e w' => e = .returned (.bool false) ∧ Below w.heap.size w w' := by
 have HB := Aside0.mk (Below.refl w.heap.size w)
 go_enter Try.func93, Try.ntmps93
 go_wp2
 go_ret
 exact ⟨by simp, HB.out⟩
set_option maxHeartbeats 4000000 in
set_option maxRecDepth 100000 in
/-- cmp.Compare at whole numbers. -/
theorem compare_calls (x y : Int) (w : World) : Calls Try.prog 79 #[.int .i64 x, .int .i64 y] w fun e w' => e = .returned (.int .i64 (cmpI x y)) ∧ Below w.heap.size w w' := by
 have HB := Aside0.mk (Below.refl w.heap.size w)
 have NX := Aside0.mk (isNaN_calls x)
 have NY := Aside0.mk (isNaN_calls y)
 unfold cmpI
 by_cases h1 : x < y
 ·rw [if_pos h1]
  have h1' := eq_true h1
  clear h1
  go_enter Try.func79, Try.ntmps79
  go_wp2_with (first | (go_at_call 93; refine (NX.out _).mono ?_; rintro e w1 ⟨rfl, hb⟩; have HB1 := Aside0.mk (Below.trans HB.out (hb.mono HB.out.size)); clear hb HB; have HB := HB1; clear HB1) | (go_at_call 93; refine (NY.out _).mono ?_; rintro e w1 ⟨rfl, hb⟩; have HB1 := Aside0.mk (Below.trans HB.out (hb.mono HB.out.size)); clear hb HB; have HB := HB1; clear HB1))
  go_ret
  exact ⟨rfl, HB.out⟩
 ·rw [if_neg h1]
  have h1' := eq_false h1
  by_cases h2 : y < x
  ·rw [if_pos h2]
   have h2' := eq_true h2
   clear h1 h2
   go_enter Try.func79, Try.ntmps79
   go_wp2_with (first | (go_at_call 93; refine (NX.out _).mono ?_; rintro e w1 ⟨rfl, hb⟩; have HB1 := Aside0.mk (Below.trans HB.out (hb.mono HB.out.size)); clear hb HB; have HB := HB1; clear HB1) | (go_at_call 93; refine (NY.out _).mono ?_; rintro e w1 ⟨rfl, hb⟩; have HB1 := Aside0.mk (Below.trans HB.out (hb.mono HB.out.size)); clear hb HB; have HB := HB1; clear HB1))
   go_ret
   exact ⟨rfl, HB.out⟩
  ·rw [if_neg h2]
   have h2' := eq_false h2
   clear h1 h2
   go_enter Try.func79, Try.ntmps79
   go_wp2_with (first | (go_at_call 93; refine (NX.out _).mono ?_; rintro e w1 ⟨rfl, hb⟩; have HB1 := Aside0.mk (Below.trans HB.out (hb.mono HB.out.size)); clear hb HB; have HB := HB1; clear HB1) | (go_at_call 93; refine (NY.out _).mono ?_; rintro e w1 ⟨rfl, hb⟩; have HB1 := Aside0.mk (Below.trans HB.out (hb.mono HB.out.size)); clear hb HB; have HB := HB1; clear HB1))
   go_ret
   exact ⟨rfl, HB.out⟩
theorem below_gr (w : World) (q : Nat) (os : Array Obj) : Below w.heap.size w (grow (w.drewN q) os) := ⟨rfl, rfl, rfl, by simp [grow], fun k hk => by simp [grow, Array.getElem?_append, hk]⟩
set_option maxHeartbeats 4000000 in
set_option maxRecDepth 100000 in
/-- point.Less. -/
theorem less_calls (I : Spec α) (x y : α) (w : World) : Calls Try.prog 94 #[.agg (I.pt x).toArray, .agg (I.pt y).toArray] w fun e w' => e = .returned (.bool (decide (ocmp I.bs I.nn x y < 0))) ∧ Below w.heap.size w w' := by
 have HO := Aside0.mk (fun W => order (enc := I.pt) I.bs I.nn (fun _ => rfl) I.hbs x y W)
 have hx := I.hpt x
 have hy := I.hpt y
 obtain ⟨r, hr⟩ : ∃ r, ocmp I.bs I.nn x y = r := ⟨_, rfl⟩
 rw [hr] at HO ⊢
 clear hr
 generalize I.pt x = cx at HO hx ⊢
 generalize I.pt y = cy at HO hy ⊢
 have b2 := blk_new w (.cells cx.toArray 34)
 have hbx : ((w.alloc (.cells cx.toArray 34)).alloc (.cells cy.toArray 34)).heap[w.heap.size]? = some (.cells cx.toArray 34 (0, 0)) := (Below.heap_alloc _ _ _ (by simp)).trans (blk_new w _)
 have hby : ((w.alloc (.cells cx.toArray 34)).alloc (.cells cy.toArray 34)).heap[w.heap.size + 1]? = some (.cells cy.toArray 34 (0, 0)) := by
  have := blk_new (w.alloc (.cells cx.toArray 34)) (.cells cy.toArray 34)
  rwa [World.size_alloc] at this
 have HB : Aside0 (Below w.heap.size w ((w.alloc (.cells cx.toArray 34)).alloc (.cells cy.toArray 34))) := ⟨below_alloc (below_alloc (Below.refl _ _) _) _⟩
 have hl1 : Sem.run Try.prog (Wide.heavy0 ⟨w.heap.size, 0, none⟩ 33) ((w.alloc (.cells cx.toArray 34)).alloc (.cells cy.toArray 34)) = .ok cx.toArray ((w.alloc (.cells cx.toArray 34)).alloc (.cells cy.toArray 34)) := row_load hbx 0 33 _ hx (by rw [List.drop_zero, List.take_of_length_le (by omega)])
 have hl2 : Sem.run Try.prog (Wide.heavy0 ⟨w.heap.size + 1, 0, none⟩ 33) ((w.alloc (.cells cx.toArray 34)).alloc (.cells cy.toArray 34)) = .ok cy.toArray ((w.alloc (.cells cx.toArray 34)).alloc (.cells cy.toArray 34)) := row_load hby 0 33 _ hy (by rw [List.drop_zero, List.take_of_length_le (by omega)])
 clear hbx hby b2
 go_enter Try.func94, Try.ntmps94
 go_wp2_with (first | (go_at_call 67; refine (HO.out _).mono ?_; rintro e w4 ⟨rfl, q, os, rfl⟩))
 go_ret
 exact ⟨by first | rfl | simp, HB.out.trans ((below_gr _ q os).mono HB.out.size)⟩
end Go.Proofs.Ytiodebjjbgcbhaa.Inp
/- Inputs: as a transaction's input, and which comes first. -/
namespace Go.Proofs.Ytiodebjjbgcbhaa.Inp
open Go.RowKit Go.Sort Go.Lib Go.Shelf Go.Proofs.YtiodebjjbgcbhaaW.PrintWords Go.Proofs.YtiodebjjbgcbhaaW.PrintMore Go.Proofs.Ytiodebjjbgcbhaa.RowK Go.Proofs.Ytiodebjjbgcbhaa.Fill Go.Proofs.Ytiodebjjbgcbhaa.OrdO
attribute [local go_sem ↓ high] Wide.hv44 Wide.hv33
set_option linter.unusedVariables false
set_option linter.unusedSectionVars false
variable {α : Type}
/-- place: by their points. -/
def placeI (I : Spec α) (x y : α) : Int := if ocmp I.bs I.nn x y < 0 then -1 else if ocmp I.bs I.nn y x < 0 then 1 else 0
set_option maxHeartbeats 4000000 in
set_option maxRecDepth 100000 in
theorem place_calls (I : Spec α) (x y : α) (w : World) : Calls Try.prog 80 #[.agg (I.enc x).toArray, .agg (I.enc y).toArray] w fun e w' => e = .returned (.int .i64 (placeI I x y)) ∧ Below w.heap.size w w' := by
 have HP := Aside0.mk (fun W => less_calls I x y W)
 have HQ := Aside0.mk (fun W => less_calls I y x W)
 have hx := I.hk x
 have hy := I.hk y
 have tx := I.take_pt x
 have ty := I.take_pt y
 have lx := I.hpt x
 have ly := I.hpt y
 unfold placeI
 obtain ⟨r1, hr1⟩ : ∃ r, decide (ocmp I.bs I.nn x y < 0) = r := ⟨_, rfl⟩
 obtain ⟨r2, hr2⟩ : ∃ r, decide (ocmp I.bs I.nn y x < 0) = r := ⟨_, rfl⟩
 rw [hr1] at HP
 rw [hr2] at HQ
 have e1 : (ocmp I.bs I.nn x y < 0) ↔ r1 = true := by rw [← hr1]; simp
 have e2 : (ocmp I.bs I.nn y x < 0) ↔ r2 = true := by rw [← hr2]; simp
 simp only [e1, e2]
 clear e1 e2 hr1 hr2
 generalize I.pt x = px at HP HQ tx lx ⊢
 generalize I.pt y = py at HP HQ ty ly ⊢
 generalize I.enc x = cx at hx tx ⊢
 generalize I.enc y = cy at hy ty ⊢
 have hbx : ((w.alloc (.cells cx.toArray 90)).alloc (.cells cy.toArray 90)).heap[w.heap.size]? = some (.cells cx.toArray 90 (0, 0)) := (Below.heap_alloc _ _ _ (by simp)).trans (blk_new w _)
 have hby : ((w.alloc (.cells cx.toArray 90)).alloc (.cells cy.toArray 90)).heap[w.heap.size + 1]? = some (.cells cy.toArray 90 (0, 0)) := by
  have := blk_new (w.alloc (.cells cx.toArray 90)) (.cells cy.toArray 90)
  rwa [World.size_alloc] at this
 have HB : Aside0 (Below w.heap.size w ((w.alloc (.cells cx.toArray 90)).alloc (.cells cy.toArray 90))) := ⟨below_alloc (below_alloc (Below.refl _ _) _) _⟩
 have LD : Aside0 (∀ W', Below ((w.alloc (.cells cx.toArray 90)).alloc (.cells cy.toArray 90)).heap.size ((w.alloc (.cells cx.toArray 90)).alloc (.cells cy.toArray 90)) W' →
  Sem.run Try.prog (Wide.heavy0 ⟨w.heap.size, 0, none⟩ 33) W' = .ok px.toArray W' ∧ Sem.run Try.prog (Wide.heavy0 ⟨w.heap.size + 1, 0, none⟩ 33) W' = .ok py.toArray W') :=
  ⟨fun W' hb => ⟨row_load (blk_below hbx hb) 0 33 _ lx (by rw [List.drop_zero]; exact tx), row_load (blk_below hby hb) 0 33 _ ly (by rw [List.drop_zero]; exact ty)⟩⟩
 clear hbx hby
 obtain ⟨hl1, hl2⟩ := LD.out _ (Below.refl _ _)
 have e94 := enters_of Try.func94 (by kernel_rfl) rfl
 cases r1
 ·cases r2
  ·go_enter Try.func80, Try.ntmps80
   go_wp2_with (first | (go_at_call 94; with_reducible refine (HP.out _).mono ?_; rintro e w4 ⟨rfl, hb4⟩; have HB4 := Aside0.mk hb4; obtain ⟨hl3, hl4⟩ := LD.out _ hb4; clear hl1 hl2 hb4) | (go_at_call 94; with_reducible refine (HQ.out _).mono ?_; rintro e w5 ⟨rfl, hb5⟩; have HB5 := Aside0.mk (Below.trans HB4.out (hb5.mono HB4.out.size)); clear hb5))
   go_ret
   exact ⟨rfl, HB.out.trans (HB5.out.mono HB.out.size)⟩
  ·go_enter Try.func80, Try.ntmps80
   go_wp2_with (first | (go_at_call 94; with_reducible refine (HP.out _).mono ?_; rintro e w4 ⟨rfl, hb4⟩; have HB4 := Aside0.mk hb4; obtain ⟨hl3, hl4⟩ := LD.out _ hb4; clear hl1 hl2 hb4) | (go_at_call 94; with_reducible refine (HQ.out _).mono ?_; rintro e w5 ⟨rfl, hb5⟩; have HB5 := Aside0.mk (Below.trans HB4.out (hb5.mono HB4.out.size)); clear hb5))
   go_ret
   exact ⟨rfl, HB.out.trans (HB5.out.mono HB.out.size)⟩
 ·go_enter Try.func80, Try.ntmps80
  go_wp2_with (first | (go_at_call 94; with_reducible refine (HP.out _).mono ?_; rintro e w4 ⟨rfl, hb4⟩; have HB4 := Aside0.mk hb4; obtain ⟨hl3, hl4⟩ := LD.out _ hb4; clear hl1 hl2 hb4))
  go_ret
  exact ⟨rfl, HB.out.trans (HB4.out.mono HB.out.size)⟩
/-- As an input of a transaction. -/
def Spec.inCells (I : Spec α) (x : α) : List Value := I.pt x ++ [.int .i64 (I.seq x), .int .i64 (I.kind x), .int .i64 (I.key x), .string (I.pre x)]
theorem Spec.hin (I : Spec α) (x : α) : (I.inCells x).length = 37 := by simp [Spec.inCells, I.hpt]
end Go.Proofs.Ytiodebjjbgcbhaa.Inp
/- An input of a transaction made of an input. -/
namespace Go.Proofs.Ytiodebjjbgcbhaa.Inp
open Go.RowKit Go.Sort Go.Lib Go.Shelf Go.Proofs.YtiodebjjbgcbhaaW.PrintWords Go.Proofs.YtiodebjjbgcbhaaW.PrintMore Go.Proofs.Ytiodebjjbgcbhaa.RowK Go.Proofs.Ytiodebjjbgcbhaa.Fill Go.Proofs.Ytiodebjjbgcbhaa.OrdO
attribute [local go_sem ↓ high] Wide.hv44 Wide.hv33 Wide.hv37
set_option linter.unusedVariables false
set_option linter.unusedSectionVars false
variable {α : Type}
theorem Spec.at_seq (I : Spec α) (x : α) : (I.enc x)[37]? = some (.int .i64 (I.seq x)) := I.at_ x 4
theorem Spec.at_kind (I : Spec α) (x : α) : (I.enc x)[34]? = some (.int .i64 (I.kind x)) := I.at_ x 1
theorem Spec.at_key (I : Spec α) (x : α) : (I.enc x)[35]? = some (.int .i64 (I.key x)) := I.at_ x 2
theorem Spec.at_pre (I : Spec α) (x : α) : (I.enc x)[36]? = some (.string (I.pre x)) := I.at_ x 3
theorem list33 {l : List Value} (h : l.length = 33) : ∃ u0 u1 u2 u3 u4 u5 u6 u7 u8 u9 u10 u11 u12 u13 u14 u15 u16 u17 u18 u19 u20 u21 u22 u23 u24 u25 u26 u27 u28 u29 u30 u31 u32 : Value, l = [u0, u1, u2, u3, u4, u5, u6, u7, u8, u9, u10, u11, u12, u13, u14, u15, u16, u17, u18, u19, u20, u21, u22, u23, u24, u25, u26, u27, u28, u29, u30, u31, u32] := by
 rcases l with _ | ⟨u0, l⟩
 ·simp at h
 rcases l with _ | ⟨u1, l⟩
 ·simp at h
 rcases l with _ | ⟨u2, l⟩
 ·simp at h
 rcases l with _ | ⟨u3, l⟩
 ·simp at h
 rcases l with _ | ⟨u4, l⟩
 ·simp at h
 rcases l with _ | ⟨u5, l⟩
 ·simp at h
 rcases l with _ | ⟨u6, l⟩
 ·simp at h
 rcases l with _ | ⟨u7, l⟩
 ·simp at h
 rcases l with _ | ⟨u8, l⟩
 ·simp at h
 rcases l with _ | ⟨u9, l⟩
 ·simp at h
 rcases l with _ | ⟨u10, l⟩
 ·simp at h
 rcases l with _ | ⟨u11, l⟩
 ·simp at h
 rcases l with _ | ⟨u12, l⟩
 ·simp at h
 rcases l with _ | ⟨u13, l⟩
 ·simp at h
 rcases l with _ | ⟨u14, l⟩
 ·simp at h
 rcases l with _ | ⟨u15, l⟩
 ·simp at h
 rcases l with _ | ⟨u16, l⟩
 ·simp at h
 rcases l with _ | ⟨u17, l⟩
 ·simp at h
 rcases l with _ | ⟨u18, l⟩
 ·simp at h
 rcases l with _ | ⟨u19, l⟩
 ·simp at h
 rcases l with _ | ⟨u20, l⟩
 ·simp at h
 rcases l with _ | ⟨u21, l⟩
 ·simp at h
 rcases l with _ | ⟨u22, l⟩
 ·simp at h
 rcases l with _ | ⟨u23, l⟩
 ·simp at h
 rcases l with _ | ⟨u24, l⟩
 ·simp at h
 rcases l with _ | ⟨u25, l⟩
 ·simp at h
 rcases l with _ | ⟨u26, l⟩
 ·simp at h
 rcases l with _ | ⟨u27, l⟩
 ·simp at h
 rcases l with _ | ⟨u28, l⟩
 ·simp at h
 rcases l with _ | ⟨u29, l⟩
 ·simp at h
 rcases l with _ | ⟨u30, l⟩
 ·simp at h
 rcases l with _ | ⟨u31, l⟩
 ·simp at h
 rcases l with _ | ⟨u32, l⟩
 ·simp at h
 rcases l with _ | ⟨u, l⟩
 ·exact ⟨u0, u1, u2, u3, u4, u5, u6, u7, u8, u9, u10, u11, u12, u13, u14, u15, u16, u17, u18, u19, u20, u21, u22, u23, u24, u25, u26, u27, u28, u29, u30, u31, u32, rfl⟩
 ·simp at h
set_option maxHeartbeats 4000000 in
set_option maxRecDepth 100000 in
/-- batch.in. -/
theorem in_calls (I : Spec α) (x : α) (w : World) : Calls Try.prog 69 #[.agg (I.enc x).toArray] w fun e w' => e = .returned (.agg (I.inCells x).toArray) ∧ Below w.heap.size w w' := by
 have hx := I.hk x
 have tx := I.take_pt x
 have lx := I.hpt x
 have a1 := I.at_seq x
 have a2 := I.at_kind x
 have a3 := I.at_key x
 have a4 := I.at_pre x
 unfold Spec.inCells
 generalize I.pt x = px at tx lx ⊢
 generalize hcx : I.enc x = cx at hx tx a1 a2 a3 a4 ⊢
 generalize I.seq x = n1 at a1 ⊢
 generalize I.kind x = n2 at a2 ⊢
 generalize I.key x = n3 at a3 ⊢
 generalize I.pre x = n4 at a4 ⊢
 obtain ⟨u0, u1, u2, u3, u4, u5, u6, u7, u8, u9, u10, u11, u12, u13, u14, u15, u16, u17, u18, u19, u20, u21, u22, u23, u24, u25, u26, u27, u28, u29, u30, u31, u32, rfl⟩ := list33 lx
 have hone : ∀ v ∈ ([u0, u1, u2, u3, u4, u5, u6, u7, u8, u9, u10, u11, u12, u13, u14, u15, u16, u17, u18, u19, u20, u21, u22, u23, u24, u25, u26, u27, u28, u29, u30, u31, u32] : List Value), v.oneCell' = true := by
  intro v hv
  have h := I.h1 x v
  rw [hcx] at h
  exact h (List.mem_of_mem_take (by rw [tx]; exact hv))
 have hbx : ((w.alloc (.cells cx.toArray 90)).alloc (.cells #[Value.int IntKind.u8 0, Value.int IntKind.u8 0, Value.int IntKind.u8 0, Value.int IntKind.u8 0, Value.int IntKind.u8 0, Value.int IntKind.u8 0, Value.int IntKind.u8 0, Value.int IntKind.u8 0, Value.int IntKind.u8 0, Value.int IntKind.u8 0, Value.int IntKind.u8 0, Value.int IntKind.u8 0, Value.int IntKind.u8 0, Value.int IntKind.u8 0, Value.int IntKind.u8 0, Value.int IntKind.u8 0, Value.int IntKind.u8 0, Value.int IntKind.u8 0, Value.int IntKind.u8 0, Value.int IntKind.u8 0, Value.int IntKind.u8 0, Value.int IntKind.u8 0, Value.int IntKind.u8 0, Value.int IntKind.u8 0, Value.int IntKind.u8 0, Value.int IntKind.u8 0, Value.int IntKind.u8 0, Value.int IntKind.u8 0, Value.int IntKind.u8 0, Value.int IntKind.u8 0, Value.int IntKind.u8 0, Value.int IntKind.u8 0, Value.int IntKind.i64 0, Value.int IntKind.i64 0, Value.int IntKind.i64 0, Value.int IntKind.i64 0, Value.string { data := #[] }] 38)).heap[w.heap.size]? = some (.cells cx.toArray 90 (0, 0)) := (Below.heap_alloc _ _ _ (by simp)).trans (blk_new w _)
 have hl1 : Sem.run Try.prog (Wide.heavy0 ⟨w.heap.size, 0, none⟩ 33) ((w.alloc (.cells cx.toArray 90)).alloc (.cells #[Value.int IntKind.u8 0, Value.int IntKind.u8 0, Value.int IntKind.u8 0, Value.int IntKind.u8 0, Value.int IntKind.u8 0, Value.int IntKind.u8 0, Value.int IntKind.u8 0, Value.int IntKind.u8 0, Value.int IntKind.u8 0, Value.int IntKind.u8 0, Value.int IntKind.u8 0, Value.int IntKind.u8 0, Value.int IntKind.u8 0, Value.int IntKind.u8 0, Value.int IntKind.u8 0, Value.int IntKind.u8 0, Value.int IntKind.u8 0, Value.int IntKind.u8 0, Value.int IntKind.u8 0, Value.int IntKind.u8 0, Value.int IntKind.u8 0, Value.int IntKind.u8 0, Value.int IntKind.u8 0, Value.int IntKind.u8 0, Value.int IntKind.u8 0, Value.int IntKind.u8 0, Value.int IntKind.u8 0, Value.int IntKind.u8 0, Value.int IntKind.u8 0, Value.int IntKind.u8 0, Value.int IntKind.u8 0, Value.int IntKind.u8 0, Value.int IntKind.i64 0, Value.int IntKind.i64 0, Value.int IntKind.i64 0, Value.int IntKind.i64 0, Value.string { data := #[] }] 38)) = .ok #[u0, u1, u2, u3, u4, u5, u6, u7, u8, u9, u10, u11, u12, u13, u14, u15, u16, u17, u18, u19, u20, u21, u22, u23, u24, u25, u26, u27, u28, u29, u30, u31, u32] _ := row_load hbx 0 33 _ lx (by rw [List.drop_zero]; exact tx)
 have k34 : ((w.alloc (.cells cx.toArray 90)).alloc (.cells #[Value.int IntKind.u8 0, Value.int IntKind.u8 0, Value.int IntKind.u8 0, Value.int IntKind.u8 0, Value.int IntKind.u8 0, Value.int IntKind.u8 0, Value.int IntKind.u8 0, Value.int IntKind.u8 0, Value.int IntKind.u8 0, Value.int IntKind.u8 0, Value.int IntKind.u8 0, Value.int IntKind.u8 0, Value.int IntKind.u8 0, Value.int IntKind.u8 0, Value.int IntKind.u8 0, Value.int IntKind.u8 0, Value.int IntKind.u8 0, Value.int IntKind.u8 0, Value.int IntKind.u8 0, Value.int IntKind.u8 0, Value.int IntKind.u8 0, Value.int IntKind.u8 0, Value.int IntKind.u8 0, Value.int IntKind.u8 0, Value.int IntKind.u8 0, Value.int IntKind.u8 0, Value.int IntKind.u8 0, Value.int IntKind.u8 0, Value.int IntKind.u8 0, Value.int IntKind.u8 0, Value.int IntKind.u8 0, Value.int IntKind.u8 0, Value.int IntKind.i64 0, Value.int IntKind.i64 0, Value.int IntKind.i64 0, Value.int IntKind.i64 0, Value.string { data := #[] }] 38)).cell? ⟨w.heap.size, 34, none⟩ = _ := (blk_cell hbx 34).trans (by simpa using a2)
 have k35 : ((w.alloc (.cells cx.toArray 90)).alloc (.cells #[Value.int IntKind.u8 0, Value.int IntKind.u8 0, Value.int IntKind.u8 0, Value.int IntKind.u8 0, Value.int IntKind.u8 0, Value.int IntKind.u8 0, Value.int IntKind.u8 0, Value.int IntKind.u8 0, Value.int IntKind.u8 0, Value.int IntKind.u8 0, Value.int IntKind.u8 0, Value.int IntKind.u8 0, Value.int IntKind.u8 0, Value.int IntKind.u8 0, Value.int IntKind.u8 0, Value.int IntKind.u8 0, Value.int IntKind.u8 0, Value.int IntKind.u8 0, Value.int IntKind.u8 0, Value.int IntKind.u8 0, Value.int IntKind.u8 0, Value.int IntKind.u8 0, Value.int IntKind.u8 0, Value.int IntKind.u8 0, Value.int IntKind.u8 0, Value.int IntKind.u8 0, Value.int IntKind.u8 0, Value.int IntKind.u8 0, Value.int IntKind.u8 0, Value.int IntKind.u8 0, Value.int IntKind.u8 0, Value.int IntKind.u8 0, Value.int IntKind.i64 0, Value.int IntKind.i64 0, Value.int IntKind.i64 0, Value.int IntKind.i64 0, Value.string { data := #[] }] 38)).cell? ⟨w.heap.size, 35, none⟩ = _ := (blk_cell hbx 35).trans (by simpa using a3)
 have k36 : ((w.alloc (.cells cx.toArray 90)).alloc (.cells #[Value.int IntKind.u8 0, Value.int IntKind.u8 0, Value.int IntKind.u8 0, Value.int IntKind.u8 0, Value.int IntKind.u8 0, Value.int IntKind.u8 0, Value.int IntKind.u8 0, Value.int IntKind.u8 0, Value.int IntKind.u8 0, Value.int IntKind.u8 0, Value.int IntKind.u8 0, Value.int IntKind.u8 0, Value.int IntKind.u8 0, Value.int IntKind.u8 0, Value.int IntKind.u8 0, Value.int IntKind.u8 0, Value.int IntKind.u8 0, Value.int IntKind.u8 0, Value.int IntKind.u8 0, Value.int IntKind.u8 0, Value.int IntKind.u8 0, Value.int IntKind.u8 0, Value.int IntKind.u8 0, Value.int IntKind.u8 0, Value.int IntKind.u8 0, Value.int IntKind.u8 0, Value.int IntKind.u8 0, Value.int IntKind.u8 0, Value.int IntKind.u8 0, Value.int IntKind.u8 0, Value.int IntKind.u8 0, Value.int IntKind.u8 0, Value.int IntKind.i64 0, Value.int IntKind.i64 0, Value.int IntKind.i64 0, Value.int IntKind.i64 0, Value.string { data := #[] }] 38)).cell? ⟨w.heap.size, 36, none⟩ = _ := (blk_cell hbx 36).trans (by simpa using a4)
 have k37 : ((w.alloc (.cells cx.toArray 90)).alloc (.cells #[Value.int IntKind.u8 0, Value.int IntKind.u8 0, Value.int IntKind.u8 0, Value.int IntKind.u8 0, Value.int IntKind.u8 0, Value.int IntKind.u8 0, Value.int IntKind.u8 0, Value.int IntKind.u8 0, Value.int IntKind.u8 0, Value.int IntKind.u8 0, Value.int IntKind.u8 0, Value.int IntKind.u8 0, Value.int IntKind.u8 0, Value.int IntKind.u8 0, Value.int IntKind.u8 0, Value.int IntKind.u8 0, Value.int IntKind.u8 0, Value.int IntKind.u8 0, Value.int IntKind.u8 0, Value.int IntKind.u8 0, Value.int IntKind.u8 0, Value.int IntKind.u8 0, Value.int IntKind.u8 0, Value.int IntKind.u8 0, Value.int IntKind.u8 0, Value.int IntKind.u8 0, Value.int IntKind.u8 0, Value.int IntKind.u8 0, Value.int IntKind.u8 0, Value.int IntKind.u8 0, Value.int IntKind.u8 0, Value.int IntKind.u8 0, Value.int IntKind.i64 0, Value.int IntKind.i64 0, Value.int IntKind.i64 0, Value.int IntKind.i64 0, Value.string { data := #[] }] 38)).cell? ⟨w.heap.size, 37, none⟩ = _ := (blk_cell hbx 37).trans (by simpa using a1)
 have hbz : ((w.alloc (.cells cx.toArray 90)).alloc (.cells #[Value.int IntKind.u8 0, Value.int IntKind.u8 0, Value.int IntKind.u8 0, Value.int IntKind.u8 0, Value.int IntKind.u8 0, Value.int IntKind.u8 0, Value.int IntKind.u8 0, Value.int IntKind.u8 0, Value.int IntKind.u8 0, Value.int IntKind.u8 0, Value.int IntKind.u8 0, Value.int IntKind.u8 0, Value.int IntKind.u8 0, Value.int IntKind.u8 0, Value.int IntKind.u8 0, Value.int IntKind.u8 0, Value.int IntKind.u8 0, Value.int IntKind.u8 0, Value.int IntKind.u8 0, Value.int IntKind.u8 0, Value.int IntKind.u8 0, Value.int IntKind.u8 0, Value.int IntKind.u8 0, Value.int IntKind.u8 0, Value.int IntKind.u8 0, Value.int IntKind.u8 0, Value.int IntKind.u8 0, Value.int IntKind.u8 0, Value.int IntKind.u8 0, Value.int IntKind.u8 0, Value.int IntKind.u8 0, Value.int IntKind.u8 0, Value.int IntKind.i64 0, Value.int IntKind.i64 0, Value.int IntKind.i64 0, Value.int IntKind.i64 0, Value.string { data := #[] }] 38)).heap[w.heap.size + 1]? = some (.cells #[Value.int IntKind.u8 0, Value.int IntKind.u8 0, Value.int IntKind.u8 0, Value.int IntKind.u8 0, Value.int IntKind.u8 0, Value.int IntKind.u8 0, Value.int IntKind.u8 0, Value.int IntKind.u8 0, Value.int IntKind.u8 0, Value.int IntKind.u8 0, Value.int IntKind.u8 0, Value.int IntKind.u8 0, Value.int IntKind.u8 0, Value.int IntKind.u8 0, Value.int IntKind.u8 0, Value.int IntKind.u8 0, Value.int IntKind.u8 0, Value.int IntKind.u8 0, Value.int IntKind.u8 0, Value.int IntKind.u8 0, Value.int IntKind.u8 0, Value.int IntKind.u8 0, Value.int IntKind.u8 0, Value.int IntKind.u8 0, Value.int IntKind.u8 0, Value.int IntKind.u8 0, Value.int IntKind.u8 0, Value.int IntKind.u8 0, Value.int IntKind.u8 0, Value.int IntKind.u8 0, Value.int IntKind.u8 0, Value.int IntKind.u8 0, Value.int IntKind.i64 0, Value.int IntKind.i64 0, Value.int IntKind.i64 0, Value.int IntKind.i64 0, Value.string { data := #[] }] 38 (0, 0)) := by
  have := blk_new (w.alloc (.cells cx.toArray 90)) (.cells #[Value.int IntKind.u8 0, Value.int IntKind.u8 0, Value.int IntKind.u8 0, Value.int IntKind.u8 0, Value.int IntKind.u8 0, Value.int IntKind.u8 0, Value.int IntKind.u8 0, Value.int IntKind.u8 0, Value.int IntKind.u8 0, Value.int IntKind.u8 0, Value.int IntKind.u8 0, Value.int IntKind.u8 0, Value.int IntKind.u8 0, Value.int IntKind.u8 0, Value.int IntKind.u8 0, Value.int IntKind.u8 0, Value.int IntKind.u8 0, Value.int IntKind.u8 0, Value.int IntKind.u8 0, Value.int IntKind.u8 0, Value.int IntKind.u8 0, Value.int IntKind.u8 0, Value.int IntKind.u8 0, Value.int IntKind.u8 0, Value.int IntKind.u8 0, Value.int IntKind.u8 0, Value.int IntKind.u8 0, Value.int IntKind.u8 0, Value.int IntKind.u8 0, Value.int IntKind.u8 0, Value.int IntKind.u8 0, Value.int IntKind.u8 0, Value.int IntKind.i64 0, Value.int IntKind.i64 0, Value.int IntKind.i64 0, Value.int IntKind.i64 0, Value.string { data := #[] }] 38)
  rwa [World.size_alloc] at this
 have h1 : (#[u0, u1, u2, u3, u4, u5, u6, u7, u8, u9, u10, u11, u12, u13, u14, u15, u16, u17, u18, u19, u20, u21, u22, u23, u24, u25, u26, u27, u28, u29, u30, u31, u32, Value.int IntKind.i64 n1, Value.int IntKind.i64 n2, Value.int IntKind.i64 n3, Value.string n4] : Array Value).all (·.oneCell') = true := by
  rw [Array.all_eq_true_iff_forall_mem]
  intro v hv
  have e : [u0, u1, u2, u3, u4, u5, u6, u7, u8, u9, u10, u11, u12, u13, u14, u15, u16, u17, u18, u19, u20, u21, u22, u23, u24, u25, u26, u27, u28, u29, u30, u31, u32, Value.int IntKind.i64 n1, Value.int IntKind.i64 n2, Value.int IntKind.i64 n3, Value.string n4] = [u0, u1, u2, u3, u4, u5, u6, u7, u8, u9, u10, u11, u12, u13, u14, u15, u16, u17, u18, u19, u20, u21, u22, u23, u24, u25, u26, u27, u28, u29, u30, u31, u32] ++ [Value.int IntKind.i64 n1, Value.int IntKind.i64 n2, Value.int IntKind.i64 n3, Value.string n4] := rfl
  rw [List.mem_toArray, e, List.mem_append] at hv
  rcases hv with hv | hv
  ·exact hone v hv
  ·simp only [List.mem_cons, List.not_mem_nil, or_false] at hv
   rcases hv with rfl | rfl | rfl | rfl <;> rfl
 have HB := Aside0.mk (show Below w.heap.size w ((w.alloc (.cells cx.toArray 90)).alloc (.cells #[Value.int IntKind.u8 0, Value.int IntKind.u8 0, Value.int IntKind.u8 0, Value.int IntKind.u8 0, Value.int IntKind.u8 0, Value.int IntKind.u8 0, Value.int IntKind.u8 0, Value.int IntKind.u8 0, Value.int IntKind.u8 0, Value.int IntKind.u8 0, Value.int IntKind.u8 0, Value.int IntKind.u8 0, Value.int IntKind.u8 0, Value.int IntKind.u8 0, Value.int IntKind.u8 0, Value.int IntKind.u8 0, Value.int IntKind.u8 0, Value.int IntKind.u8 0, Value.int IntKind.u8 0, Value.int IntKind.u8 0, Value.int IntKind.u8 0, Value.int IntKind.u8 0, Value.int IntKind.u8 0, Value.int IntKind.u8 0, Value.int IntKind.u8 0, Value.int IntKind.u8 0, Value.int IntKind.u8 0, Value.int IntKind.u8 0, Value.int IntKind.u8 0, Value.int IntKind.u8 0, Value.int IntKind.u8 0, Value.int IntKind.u8 0, Value.int IntKind.i64 0, Value.int IntKind.i64 0, Value.int IntKind.i64 0, Value.int IntKind.i64 0, Value.string { data := #[] }] 38)) from below_alloc (below_alloc (Below.refl _ _) _) _)
 have HX := Aside0.mk (And.intro hbz h1)
 clear hone hbz h1 hbx lx
 go_enter Try.func69, Try.ntmps69
 go_wp2_with (first | ((with_reducible refine gate_store (t := 38) (p := 2) rfl ?_); refine PutW.store_event ?b1 ?b2 38 (.tmp 2) (.tmp 11) ?b3 (g := w.heap.size + 1) (t := 38) (cells := #[u0, u1, u2, u3, u4, u5, u6, u7, u8, u9, u10, u11, u12, u13, u14, u15, u16, u17, u18, u19, u20, u21, u22, u23, u24, u25, u26, u27, u28, u29, u30, u31, u32, Value.int IntKind.i64 n1, Value.int IntKind.i64 n2, Value.int IntKind.i64 n3, Value.string n4]) ?a1 ?a2 HX.out.1 ?a3 ?a4 HX.out.2 ?_; (case b1 => rfl); (case b2 => rfl); (case b3 => rfl); (case a1 => first | rfl | (go_simp; done)); (case a2 => first | rfl | (go_simp; done)); (case a3 => rfl); (case a4 => kernel_rfl); intro w3 hz3 hs3 hg3; have hl3 : Sem.run Try.prog (Wide.heavy0 ⟨w.heap.size + 1, 0, none⟩ 37) w3 = _ := row_load (cur := [u0, u1, u2, u3, u4, u5, u6, u7, u8, u9, u10, u11, u12, u13, u14, u15, u16, u17, u18, u19, u20, u21, u22, u23, u24, u25, u26, u27, u28, u29, u30, u31, u32, Value.int IntKind.i64 n1, Value.int IntKind.i64 n2, Value.int IntKind.i64 n3, Value.string n4]) hz3 0 37 _ rfl rfl; have HB3 := Aside0.mk (pw_below_grown HB.out (some (w.heap.size + 1)) HB.out.size hg3 (fun k e => by cases e; omega)); have BK3 := Aside0.mk hz3; clear hl3 hz3 hs3 hg3 hl1 k34 k35 k36 k37))
 refine bodyPost_ret (results_cell_row rfl _ _ (w.heap.size + 1) 38 #[u0, u1, u2, u3, u4, u5, u6, u7, u8, u9, u10, u11, u12, u13, u14, u15, u16, u17, u18, u19, u20, u21, u22, u23, u24, u25, u26, u27, u28, u29, u30, u31, u32, Value.int IntKind.i64 n1, Value.int IntKind.i64 n2, Value.int IntKind.i64 n3, Value.string n4] (0, 0) _ rfl BK3.out Try.underlying38 rfl (by kernel_rfl)) rfl ?_
 exact ⟨by simp, HB3.out⟩
end Go.Proofs.Ytiodebjjbgcbhaa.Inp
/- The document's Ripens, in letters. -/
namespace Go.Proofs.Ytiodebjjbgcbhaa.Inp
open Go.RowKit Go.Sort Go.Lib Go.Shelf Go.Proofs.YtiodebjjbgcbhaaW.PrintWords Go.Proofs.YtiodebjjbgcbhaaW.PrintMore Go.Proofs.Ytiodebjjbgcbhaa.RowK Go.Proofs.Ytiodebjjbgcbhaa.Fill Go.Proofs.Ytiodebjjbgcbhaa.OrdO
set_option linter.unusedVariables false
set_option linter.unusedSimpArgs false
end Go.Proofs.Ytiodebjjbgcbhaa.Inp
