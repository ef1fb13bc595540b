import Derived.Test.YtiodebjjbgcbhaaGreatOrdO
import Derived.Test.YtiodebjjbgcbhaaGreatStbE
import Derived.Test.YtiodebjjbgcbhaaGreatWMore
import Derived.Test.YtiodebjjbgcbhaaGreatWInvWords
namespace Go.Proofs.YtiodebjjbgcbhaaGreat.Inp
open Go.RowKit Go.Sort Go.Lib Go.Shelf Go.Proofs YtiodebjjbgcbhaaGreatW.PrintWords YtiodebjjbgcbhaaGreatW.PrintMore YtiodebjjbgcbhaaGreat RowK Fill OrdO
attribute [local go_sem ↓ high] Wide.hv44 Wide.hv33
set_option linter.unusedVariables false
set_option linter.unusedSectionVars false
@[simp] theorem bne_nil_ (l : List UInt8) : (l != []) = !l.isEmpty := by cases l <;> rfl
def claimCells (kind key : Int) (pre : ByteArray) (seq lock wait : Int) : List Value := [.int .i64 kind, .int .i64 key, .string pre, .int .i64 seq, .int .i64 lock, .int .i64 wait]
structure Spec (α : Type) where
 bs : α → List Int
 nn : α → Int
 value : α → Int
 kind : α → Int
 key : α → Int
 pre : α → ByteArray
 seq : α → Int
 lock : α → Int
 wait : α → Int
 conf : α → Int
 since : α → Int
 dl : α → Int
 budget : α → Int
 hbs : ∀ x, (bs x).length = 32
variable {α : Type}
def Spec.pt (I : Spec α) (x : α) : List Value := (I.bs x).map (Value.int .u8) ++ [.int .i64 (I.nn x)]
def Spec.cl (I : Spec α) (x : α) : List Value := claimCells (I.kind x) (I.key x) (I.pre x) (I.seq x) (I.lock x) (I.wait x)
def Spec.enc (I : Spec α) (x : α) : List Value := I.pt x ++ (Value.int .i64 (I.value x) :: (I.cl x ++ [.int .i64 (I.conf x), .int .i64 (I.since x), .int .i64 (I.dl x), .int .i64 (I.budget x)]))
theorem Spec.hpt (I : Spec α) (x : α) : (I.pt x).length = 33 := by simp [Spec.pt, I.hbs]
theorem Spec.hk (I : Spec α) (x : α) : (I.enc x).length = 44 := by simp [Spec.enc, I.hpt, Spec.cl, claimCells]
theorem Spec.h1 (I : Spec α) (x : α) : ∀ v ∈ I.enc x, v.oneCell' = true := by
 intro v hv
 simp only [Spec.enc, Spec.pt, Spec.cl, claimCells, List.mem_append, List.mem_map, List.mem_cons, List.not_mem_nil, or_false] at hv
 rcases hv with (⟨_, _, rfl⟩ | rfl) | rfl | (rfl | rfl | rfl | rfl | rfl | rfl) | rfl | rfl | rfl | rfl <;> rfl
theorem Spec.at_ (I : Spec α) (x : α) (j : Nat) : (I.enc x)[33 + j]? = (Value.int .i64 (I.value x) :: (I.cl x ++ [.int .i64 (I.conf x), .int .i64 (I.since x), .int .i64 (I.dl x), .int .i64 (I.budget x)]))[j]? := by
 unfold Spec.enc
 rw [List.getElem?_append_right (by rw [I.hpt]; omega), I.hpt]
 congr 1
 omega
theorem Spec.at_dl (I : Spec α) (x : α) : (I.enc x)[42]? = some (.int .i64 (I.dl x)) := I.at_ x 9
theorem Spec.at_conf (I : Spec α) (x : α) : (I.enc x)[40]? = some (.int .i64 (I.conf x)) := I.at_ x 7
theorem Spec.at_value (I : Spec α) (x : α) : (I.enc x)[33]? = some (.int .i64 (I.value x)) := I.at_ x 0
theorem Spec.at_budget (I : Spec α) (x : α) : (I.enc x)[43]? = some (.int .i64 (I.budget x)) := I.at_ x 10
theorem Spec.take_pt (I : Spec α) (x : α) : (I.enc x).take 33 = I.pt x := by
 unfold Spec.enc; rw [List.take_left' (I.hpt x)]
def held (n : Int) : Int := min (max n 0) 1099511627776
def ripens (wait lock conf : Int) : Int := held (max (max (held conf + held wait) (held conf + 1)) (held lock))
theorem held_range (n : Int) : 0 ≤ held n ∧ held n ≤ 1099511627776 := by unfold held; omega
set_option maxHeartbeats 1000000 in
theorem held_calls (n : Int) (w : World) : Calls Tryz.prog 88 #[.int .i64 n] w fun e w' => e = .returned (.int .i64 (held n)) ∧ Below w.heap.size w w' := by
 have HB := Ak (Below.refl w.heap.size w)
 unfold held
 go_enter Tryz.func88, Tryz.ntmps88
 go_wp2
 go_ret
 exact ⟨rfl, HB.1⟩
set_option maxHeartbeats 4000000 in
set_option maxRecDepth 100000 in
theorem ripens_calls (kind key : Int) (pre : ByteArray) (seq lock wait conf : Int) (w : World) : Calls Tryz.prog 74 #[.agg (claimCells kind key pre seq lock wait).toArray, .int .i64 conf] w fun e w' => e = .returned (.int .i64 (ripens wait lock conf)) ∧ Below w.heap.size w w' := by
 have mixed : Tryz.prog.follows .mixedOrders = true := by kernel_rfl
 have HB := Ak (Below.refl w.heap.size w)
 have C1 := held_calls conf
 obtain ⟨c, hc⟩ : ∃ c, held conf = c := ⟨_, rfl⟩
 obtain ⟨a, ha⟩ : ∃ a, held wait = a := ⟨_, rfl⟩
 obtain ⟨l, hl⟩ : ∃ l, held lock = l := ⟨_, rfl⟩
 obtain ⟨m, hm⟩ : ∃ m, max (c + a) (c + 1) = m := ⟨_, rfl⟩
 obtain ⟨m2, hm2⟩ : ∃ m2, max m l = m2 := ⟨_, rfl⟩
 have rc := held_range conf
 have ra := held_range wait
 have rl := held_range lock
 rw [hc] at rc
 rw [ha] at ra
 rw [hl] at rl
 have C2 := held_calls wait
 have C3 := held_calls lock
 have C4 := held_calls m2
 have er : ripens wait lock conf = held m2 := by unfold ripens; rw [hc, ha, hl, hm, hm2]
 rw [er]
 rw [hc] at C1
 rw [ha] at C2
 rw [hl] at C3
 obtain ⟨r, hr⟩ : ∃ r, held m2 = r := ⟨_, rfl⟩
 rw [hr] at C4 ⊢
 have hmax : ∀ W, Sem.run Tryz.prog (Builtin.max_ #[3, 3, 3] 3 #[.int .i64 (c + a), .int .i64 (c + 1), .int .i64 l]) W = .ok (.int .i64 m2) W := fun W => by
  have e1 : (if c + a < c + 1 then c + 1 else c + a) = m := by rw [← hm]; split <;> omega
  have e2 : (if m < l then l else m) = m2 := by rw [← hm2]; split <;> omega
  rw [max_three, max2_int]
  simp only [pure_bind]
  rw [e1, max2_int, e2]
  rfl
 clear hc ha hl er hr hm hm2
 have A1 := Ak C1
 have A2 := Ak C2
 have A3 := Ak C3
 have A4 := Ak C4
 clear C1 C2 C3 C4
 have w1 : IntKind.i64.wrap (c + a) = c + a := by rw [IntKind.wrap_i64]; omega
 have w2 : IntKind.i64.wrap (c + 1) = c + 1 := by rw [IntKind.wrap_i64]; omega
 unfold claimCells
 go_enter Tryz.func74, Tryz.ntmps74
 go_upto_region 2 with (first | ((with_reducible refine gate_dst (N := 2) rfl ?_); refine box_event ?hg (N := 2) ?hd (cs := #[.int .i64 kind, .int .i64 key, .string pre, .int .i64 seq, .int .i64 lock, .int .i64 wait]) (t := 36) ?hr ?_; (case hd => rfl); (case hg => rfl); (case hr => first | (go_simp; done) | (go_simp; rfl)); intro gb hg w3 hbox hb; have HB3 := Ak (below_step HB.1 hb); have BK := Ak hbox; clear HB hbox hb hg) | (go_at_call 88; refine (A1.1 _).mono ?_; rintro e w4 ⟨rfl, hb4⟩; have HB4 := Ak (Below.trans HB3.1 (hb4.mono HB3.1.size)); have BK4 := Ak (blk_below BK.1 hb4); clear hb4))
 have kw : ∀ dd os, (grow (redrawn w4 dd) os).cell? ⟨gb, 5, none⟩ = some (.int .i64 wait) := fun dd os => cell_regrown ((blk_cell BK4.1 5).trans rfl) dd os
 have kl : ∀ dd os, (grow (redrawn w4 dd) os).cell? ⟨gb, 4, none⟩ = some (.int .i64 lock) := fun dd os => cell_regrown ((blk_cell BK4.1 4).trans rfl) dd os
 have en := enters_of Tryz.func88 (by kernel_rfl) rfl
 refine wp_region_quiet_below mixed (by kernel_rfl) ?_
 repeat (quiet_step (first | exact Calls.regrown_of (A2.1 _) | exact Calls.regrown_of (A3.1 _) | exact Calls.regrown_of (A4.1 _)))
 refine wpQuiet_nil ?_
 intro _ hw'
 obtain ⟨⟨nq, osq⟩, hw''⟩ := hw'
 subst hw''
 go_wp2
 go_ret
 exact ⟨rfl, HB4.1.trans ((below_regrown w4 nq osq).mono HB4.1.size)⟩
def ripe (wait lock conf next : Int) : Bool := decide (ripens wait lock conf ≤ next)
set_option maxHeartbeats 1000000 in
theorem ripe_calls (kind key : Int) (pre : ByteArray) (seq lock wait conf next : Int) (w : World) : Calls Tryz.prog 46 #[.agg (claimCells kind key pre seq lock wait).toArray, .int .i64 conf, .int .i64 next] w fun e w' => e = .returned (.bool (ripe wait lock conf next)) ∧ Below w.heap.size w w' := by
 have HB := Ak (Below.refl w.heap.size w)
 have RC := Ak (ripens_calls kind key pre seq lock wait conf)
 unfold claimCells at RC ⊢
 unfold ripe
 obtain ⟨r, hr⟩ : ∃ r, ripens wait lock conf = r := ⟨_, rfl⟩
 rw [hr] at RC ⊢
 clear hr
 go_enter Tryz.func46, Tryz.ntmps46
 go_wp2_with (first | ((with_reducible refine gate_dst (N := 3) rfl ?_); refine box_event ?hg (N := 3) ?hd (cs := #[.int .i64 kind, .int .i64 key, .string pre, .int .i64 seq, .int .i64 lock, .int .i64 wait]) (t := 36) ?hr ?_; (case hd => rfl); (case hg => rfl); (case hr => first | (go_simp; done) | (go_simp; rfl)); intro gb hg w3 hbox hb; have HB3 := Ak (below_step HB.1 hb); have k0 := (blk_cell hbox 0).trans rfl; have k1 := (blk_cell hbox 1).trans rfl; have k2 := (blk_cell hbox 2).trans rfl; have k3 := (blk_cell hbox 3).trans rfl; have k4 := (blk_cell hbox 4).trans rfl; have k5 := (blk_cell hbox 5).trans rfl; clear HB hbox hb hg) | (go_at_call 74; refine (RC.1 _).mono ?_; rintro e w4 ⟨rfl, hb4⟩; have HB4 := Ak (Below.trans HB3.1 (hb4.mono HB3.1.size)); clear hb4))
 go_ret
 exact ⟨by first | rfl | simp, HB4.1⟩
def cmpI (x y : Int) : Int := if x < y then -1 else if y < x then 1 else 0
set_option maxHeartbeats 1000000 in
theorem isNaN_calls (x : Int) (w : World) : Calls Tryz.prog 91 #[.int .i64 x] w fun e w' => e = .returned (.bool false) ∧ Below w.heap.size w w' := by
 have HB := Ak (Below.refl w.heap.size w)
 go_enter Tryz.func91, Tryz.ntmps91
 go_wp2
 go_ret
 exact ⟨by simp, HB.1⟩
set_option maxHeartbeats 4000000 in
set_option maxRecDepth 100000 in
theorem compare_calls (x y : Int) (w : World) : Calls Tryz.prog 78 #[.int .i64 x, .int .i64 y] w fun e w' => e = .returned (.int .i64 (cmpI x y)) ∧ Below w.heap.size w w' := by
 have HB := Ak (Below.refl w.heap.size w)
 have NX := Ak (isNaN_calls x)
 have NY := Ak (isNaN_calls y)
 unfold cmpI
 by_cases h1 : x < y
 ·rw [if_pos h1]
  have h1' := eq_true h1
  clear h1
  go_enter Tryz.func78, Tryz.ntmps78
  go_wp2_with (first | (go_at_call 91; refine (NX.1 _).mono ?_; rintro e w1 ⟨rfl, hb⟩; have HB1 := Ak (Below.trans HB.1 (hb.mono HB.1.size)); clear hb HB; have HB := HB1; clear HB1) | (go_at_call 91; refine (NY.1 _).mono ?_; rintro e w1 ⟨rfl, hb⟩; have HB1 := Ak (Below.trans HB.1 (hb.mono HB.1.size)); clear hb HB; have HB := HB1; clear HB1))
  go_ret
  exact ⟨rfl, HB.1⟩
 ·rw [if_neg h1]
  have h1' := eq_false h1
  by_cases h2 : y < x
  ·rw [if_pos h2]
   have h2' := eq_true h2
   clear h1 h2
   go_enter Tryz.func78, Tryz.ntmps78
   go_wp2_with (first | (go_at_call 91; refine (NX.1 _).mono ?_; rintro e w1 ⟨rfl, hb⟩; have HB1 := Ak (Below.trans HB.1 (hb.mono HB.1.size)); clear hb HB; have HB := HB1; clear HB1) | (go_at_call 91; refine (NY.1 _).mono ?_; rintro e w1 ⟨rfl, hb⟩; have HB1 := Ak (Below.trans HB.1 (hb.mono HB.1.size)); clear hb HB; have HB := HB1; clear HB1))
   go_ret
   exact ⟨rfl, HB.1⟩
  ·rw [if_neg h2]
   have h2' := eq_false h2
   clear h1 h2
   go_enter Tryz.func78, Tryz.ntmps78
   go_wp2_with (first | (go_at_call 91; refine (NX.1 _).mono ?_; rintro e w1 ⟨rfl, hb⟩; have HB1 := Ak (Below.trans HB.1 (hb.mono HB.1.size)); clear hb HB; have HB := HB1; clear HB1) | (go_at_call 91; refine (NY.1 _).mono ?_; rintro e w1 ⟨rfl, hb⟩; have HB1 := Ak (Below.trans HB.1 (hb.mono HB.1.size)); clear hb HB; have HB := HB1; clear HB1))
   go_ret
   exact ⟨rfl, HB.1⟩
theorem below_gr (w : World) (q : Nat) (os : Array Obj) : Below w.heap.size w (grow (w.drewN q) os) := ⟨rfl, rfl, rfl, by simp [grow], fun k hk => by simp [grow, Array.getElem?_append, hk]⟩
set_option maxHeartbeats 4000000 in
set_option maxRecDepth 100000 in
theorem less_calls (I : Spec α) (x y : α) (w : World) : Calls Tryz.prog 92 #[.agg (I.pt x).toArray, .agg (I.pt y).toArray] w fun e w' => e = .returned (.bool (decide (ocmp I.bs I.nn x y < 0))) ∧ Below w.heap.size w w' := by
 have HO := Ak (fun W => order (enc := I.pt) I.bs I.nn (fun _ => rfl) I.hbs x y W)
 have hx := I.hpt x
 have hy := I.hpt y
 obtain ⟨r, hr⟩ : ∃ r, ocmp I.bs I.nn x y = r := ⟨_, rfl⟩
 rw [hr] at HO ⊢
 clear hr
 generalize I.pt x = cx at HO hx ⊢
 generalize I.pt y = cy at HO hy ⊢
 have b2 := blk_new w (.cells cx.toArray 32)
 have hbx : ((w.alloc (.cells cx.toArray 32)).alloc (.cells cy.toArray 32)).heap[w.heap.size]? = some (.cells cx.toArray 32 (0, 0)) := (Below.heap_alloc _ _ _ (by simp)).trans (blk_new w _)
 have hby : ((w.alloc (.cells cx.toArray 32)).alloc (.cells cy.toArray 32)).heap[w.heap.size + 1]? = some (.cells cy.toArray 32 (0, 0)) := by
  have := blk_new (w.alloc (.cells cx.toArray 32)) (.cells cy.toArray 32)
  rwa [World.size_alloc] at this
 have HB : Aside0 (Below w.heap.size w ((w.alloc (.cells cx.toArray 32)).alloc (.cells cy.toArray 32))) := ⟨below_alloc (below_alloc (Below.refl _ _) _) _⟩
 have hl1 : Sem.run Tryz.prog (Wide.heavy0 ⟨w.heap.size, 0, none⟩ 33) ((w.alloc (.cells cx.toArray 32)).alloc (.cells cy.toArray 32)) = .ok cx.toArray ((w.alloc (.cells cx.toArray 32)).alloc (.cells cy.toArray 32)) := row_load hbx 0 33 _ hx (by rw [List.drop_zero, List.take_of_length_le (by omega)])
 have hl2 : Sem.run Tryz.prog (Wide.heavy0 ⟨w.heap.size + 1, 0, none⟩ 33) ((w.alloc (.cells cx.toArray 32)).alloc (.cells cy.toArray 32)) = .ok cy.toArray ((w.alloc (.cells cx.toArray 32)).alloc (.cells cy.toArray 32)) := row_load hby 0 33 _ hy (by rw [List.drop_zero, List.take_of_length_le (by omega)])
 clear hbx hby b2
 go_enter Tryz.func92, Tryz.ntmps92
 go_wp2_with (first | (go_at_call 97; refine (HO.1 _).mono ?_; rintro e w4 ⟨rfl, q, os, rfl⟩))
 go_ret
 exact ⟨by first | rfl | simp, HB.1.trans ((below_gr _ q os).mono HB.1.size)⟩
variable {α : Type}
def placeI (I : Spec α) (x y : α) : Int := if ocmp I.bs I.nn x y < 0 then -1 else if ocmp I.bs I.nn y x < 0 then 1 else 0
set_option maxHeartbeats 4000000 in
set_option maxRecDepth 100000 in
theorem place_calls (I : Spec α) (x y : α) (w : World) : Calls Tryz.prog 79 #[.agg (I.enc x).toArray, .agg (I.enc y).toArray] w fun e w' => e = .returned (.int .i64 (placeI I x y)) ∧ Below w.heap.size w w' := by
 have HP := Ak (fun W => less_calls I x y W)
 have HQ := Ak (fun W => less_calls I y x W)
 have hx := I.hk x
 have hy := I.hk y
 have tx := I.take_pt x
 have ty := I.take_pt y
 have lx := I.hpt x
 have ly := I.hpt y
 unfold placeI
 obtain ⟨r1, hr1⟩ : ∃ r, decide (ocmp I.bs I.nn x y < 0) = r := ⟨_, rfl⟩
 obtain ⟨r2, hr2⟩ : ∃ r, decide (ocmp I.bs I.nn y x < 0) = r := ⟨_, rfl⟩
 rw [hr1] at HP
 rw [hr2] at HQ
 have e1 : (ocmp I.bs I.nn x y < 0) ↔ r1 = true := by rw [← hr1]; simp
 have e2 : (ocmp I.bs I.nn y x < 0) ↔ r2 = true := by rw [← hr2]; simp
 simp only [e1, e2]
 clear e1 e2 hr1 hr2
 generalize I.pt x = px at HP HQ tx lx ⊢
 generalize I.pt y = py at HP HQ ty ly ⊢
 generalize I.enc x = cx at hx tx ⊢
 generalize I.enc y = cy at hy ty ⊢
 have hbx : ((w.alloc (.cells cx.toArray 38)).alloc (.cells cy.toArray 38)).heap[w.heap.size]? = some (.cells cx.toArray 38 (0, 0)) := (Below.heap_alloc _ _ _ (by simp)).trans (blk_new w _)
 have hby : ((w.alloc (.cells cx.toArray 38)).alloc (.cells cy.toArray 38)).heap[w.heap.size + 1]? = some (.cells cy.toArray 38 (0, 0)) := by
  have := blk_new (w.alloc (.cells cx.toArray 38)) (.cells cy.toArray 38)
  rwa [World.size_alloc] at this
 have HB : Aside0 (Below w.heap.size w ((w.alloc (.cells cx.toArray 38)).alloc (.cells cy.toArray 38))) := ⟨below_alloc (below_alloc (Below.refl _ _) _) _⟩
 have LD : Aside0 (∀ W', Below ((w.alloc (.cells cx.toArray 38)).alloc (.cells cy.toArray 38)).heap.size ((w.alloc (.cells cx.toArray 38)).alloc (.cells cy.toArray 38)) W' →
  Sem.run Tryz.prog (Wide.heavy0 ⟨w.heap.size, 0, none⟩ 33) W' = .ok px.toArray W' ∧ Sem.run Tryz.prog (Wide.heavy0 ⟨w.heap.size + 1, 0, none⟩ 33) W' = .ok py.toArray W') :=
  ⟨fun W' hb => ⟨row_load (blk_below hbx hb) 0 33 _ lx (by rw [List.drop_zero]; exact tx), row_load (blk_below hby hb) 0 33 _ ly (by rw [List.drop_zero]; exact ty)⟩⟩
 clear hbx hby
 obtain ⟨hl1, hl2⟩ := LD.1 _ (Below.refl _ _)
 have e94 := enters_of Tryz.func92 (by kernel_rfl) rfl
 cases r1
 ·cases r2
  ·go_enter Tryz.func79, Tryz.ntmps79
   go_wp2_with (first | (go_at_call 92; with_reducible refine (HP.1 _).mono ?_; rintro e w4 ⟨rfl, hb4⟩; have HB4 := Ak hb4; obtain ⟨hl3, hl4⟩ := LD.1 _ hb4; clear hl1 hl2 hb4) | (go_at_call 92; with_reducible refine (HQ.1 _).mono ?_; rintro e w5 ⟨rfl, hb5⟩; have HB5 := Ak (Below.trans HB4.1 (hb5.mono HB4.1.size)); clear hb5))
   go_ret
   exact ⟨rfl, HB.1.trans (HB5.1.mono HB.1.size)⟩
  ·go_enter Tryz.func79, Tryz.ntmps79
   go_wp2_with (first | (go_at_call 92; with_reducible refine (HP.1 _).mono ?_; rintro e w4 ⟨rfl, hb4⟩; have HB4 := Ak hb4; obtain ⟨hl3, hl4⟩ := LD.1 _ hb4; clear hl1 hl2 hb4) | (go_at_call 92; with_reducible refine (HQ.1 _).mono ?_; rintro e w5 ⟨rfl, hb5⟩; have HB5 := Ak (Below.trans HB4.1 (hb5.mono HB4.1.size)); clear hb5))
   go_ret
   exact ⟨rfl, HB.1.trans (HB5.1.mono HB.1.size)⟩
 ·go_enter Tryz.func79, Tryz.ntmps79
  go_wp2_with (first | (go_at_call 92; with_reducible refine (HP.1 _).mono ?_; rintro e w4 ⟨rfl, hb4⟩; have HB4 := Ak hb4; obtain ⟨hl3, hl4⟩ := LD.1 _ hb4; clear hl1 hl2 hb4))
  go_ret
  exact ⟨rfl, HB.1.trans (HB4.1.mono HB.1.size)⟩
def Spec.inCells (I : Spec α) (x : α) : List Value := I.pt x ++ [.int .i64 (I.seq x), .int .i64 (I.kind x), .int .i64 (I.key x), .string (I.pre x)]
theorem Spec.hin (I : Spec α) (x : α) : (I.inCells x).length = 37 := by simp [Spec.inCells, I.hpt]
end Go.Proofs.YtiodebjjbgcbhaaGreat.Inp
namespace Go.Proofs.YtiodebjjbgcbhaaGreat.Inp
open Go.RowKit Go.Sort Go.Lib Go.Shelf Go.Proofs YtiodebjjbgcbhaaGreatW.PrintWords YtiodebjjbgcbhaaGreatW.PrintMore YtiodebjjbgcbhaaGreat RowK Fill OrdO
attribute [local go_sem ↓ high] Wide.hv44 Wide.hv33 Wide.hv37
set_option linter.unusedVariables false
set_option linter.unusedSectionVars false
variable {α : Type}
theorem Spec.at_seq (I : Spec α) (x : α) : (I.enc x)[37]? = some (.int .i64 (I.seq x)) := I.at_ x 4
theorem Spec.at_kind (I : Spec α) (x : α) : (I.enc x)[34]? = some (.int .i64 (I.kind x)) := I.at_ x 1
theorem Spec.at_key (I : Spec α) (x : α) : (I.enc x)[35]? = some (.int .i64 (I.key x)) := I.at_ x 2
theorem Spec.at_pre (I : Spec α) (x : α) : (I.enc x)[36]? = some (.string (I.pre x)) := I.at_ x 3
theorem list33 {l : List Value} (h : l.length = 33) : ∃ u0 u1 u2 u3 u4 u5 u6 u7 u8 u9 u10 u11 u12 u13 u14 u15 u16 u17 u18 u19 u20 u21 u22 u23 u24 u25 u26 u27 u28 u29 u30 u31 u32 : Value, l = [u0, u1, u2, u3, u4, u5, u6, u7, u8, u9, u10, u11, u12, u13, u14, u15, u16, u17, u18, u19, u20, u21, u22, u23, u24, u25, u26, u27, u28, u29, u30, u31, u32] := by
 rcases l with _ | ⟨u0, l⟩
 ·simp at h
 rcases l with _ | ⟨u1, l⟩
 ·simp at h
 rcases l with _ | ⟨u2, l⟩
 ·simp at h
 rcases l with _ | ⟨u3, l⟩
 ·simp at h
 rcases l with _ | ⟨u4, l⟩
 ·simp at h
 rcases l with _ | ⟨u5, l⟩
 ·simp at h
 rcases l with _ | ⟨u6, l⟩
 ·simp at h
 rcases l with _ | ⟨u7, l⟩
 ·simp at h
 rcases l with _ | ⟨u8, l⟩
 ·simp at h
 rcases l with _ | ⟨u9, l⟩
 ·simp at h
 rcases l with _ | ⟨u10, l⟩
 ·simp at h
 rcases l with _ | ⟨u11, l⟩
 ·simp at h
 rcases l with _ | ⟨u12, l⟩
 ·simp at h
 rcases l with _ | ⟨u13, l⟩
 ·simp at h
 rcases l with _ | ⟨u14, l⟩
 ·simp at h
 rcases l with _ | ⟨u15, l⟩
 ·simp at h
 rcases l with _ | ⟨u16, l⟩
 ·simp at h
 rcases l with _ | ⟨u17, l⟩
 ·simp at h
 rcases l with _ | ⟨u18, l⟩
 ·simp at h
 rcases l with _ | ⟨u19, l⟩
 ·simp at h
 rcases l with _ | ⟨u20, l⟩
 ·simp at h
 rcases l with _ | ⟨u21, l⟩
 ·simp at h
 rcases l with _ | ⟨u22, l⟩
 ·simp at h
 rcases l with _ | ⟨u23, l⟩
 ·simp at h
 rcases l with _ | ⟨u24, l⟩
 ·simp at h
 rcases l with _ | ⟨u25, l⟩
 ·simp at h
 rcases l with _ | ⟨u26, l⟩
 ·simp at h
 rcases l with _ | ⟨u27, l⟩
 ·simp at h
 rcases l with _ | ⟨u28, l⟩
 ·simp at h
 rcases l with _ | ⟨u29, l⟩
 ·simp at h
 rcases l with _ | ⟨u30, l⟩
 ·simp at h
 rcases l with _ | ⟨u31, l⟩
 ·simp at h
 rcases l with _ | ⟨u32, l⟩
 ·simp at h
 rcases l with _ | ⟨u, l⟩
 ·exact ⟨u0, u1, u2, u3, u4, u5, u6, u7, u8, u9, u10, u11, u12, u13, u14, u15, u16, u17, u18, u19, u20, u21, u22, u23, u24, u25, u26, u27, u28, u29, u30, u31, u32, rfl⟩
 ·simp at h
set_option maxHeartbeats 4000000 in
set_option maxRecDepth 100000 in
theorem in_calls (I : Spec α) (x : α) (w : World) : Calls Tryz.prog 33 #[.agg (I.enc x).toArray] w fun e w' => e = .returned (.agg (I.inCells x).toArray) ∧ Below w.heap.size w w' := by
 have hx := I.hk x
 have tx := I.take_pt x
 have lx := I.hpt x
 have a1 := I.at_seq x
 have a2 := I.at_kind x
 have a3 := I.at_key x
 have a4 := I.at_pre x
 unfold Spec.inCells
 generalize I.pt x = px at tx lx ⊢
 generalize hcx : I.enc x = cx at hx tx a1 a2 a3 a4 ⊢
 generalize I.seq x = n1 at a1 ⊢
 generalize I.kind x = n2 at a2 ⊢
 generalize I.key x = n3 at a3 ⊢
 generalize I.pre x = n4 at a4 ⊢
 obtain ⟨u0, u1, u2, u3, u4, u5, u6, u7, u8, u9, u10, u11, u12, u13, u14, u15, u16, u17, u18, u19, u20, u21, u22, u23, u24, u25, u26, u27, u28, u29, u30, u31, u32, rfl⟩ := list33 lx
 have hone : ∀ v ∈ ([u0, u1, u2, u3, u4, u5, u6, u7, u8, u9, u10, u11, u12, u13, u14, u15, u16, u17, u18, u19, u20, u21, u22, u23, u24, u25, u26, u27, u28, u29, u30, u31, u32] : List Value), v.oneCell' = true := by
  intro v hv
  have h := I.h1 x v
  rw [hcx] at h
  exact h (List.mem_of_mem_take (by rw [tx]; exact hv))
 have hbx : ((w.alloc (.cells cx.toArray 38)).alloc (.cells #[Value.int .u8 0, Value.int .u8 0, Value.int .u8 0, Value.int .u8 0, Value.int .u8 0, Value.int .u8 0, Value.int .u8 0, Value.int .u8 0, Value.int .u8 0, Value.int .u8 0, Value.int .u8 0, Value.int .u8 0, Value.int .u8 0, Value.int .u8 0, Value.int .u8 0, Value.int .u8 0, Value.int .u8 0, Value.int .u8 0, Value.int .u8 0, Value.int .u8 0, Value.int .u8 0, Value.int .u8 0, Value.int .u8 0, Value.int .u8 0, Value.int .u8 0, Value.int .u8 0, Value.int .u8 0, Value.int .u8 0, Value.int .u8 0, Value.int .u8 0, Value.int .u8 0, Value.int .u8 0, Value.int .i64 0, Value.int .i64 0, Value.int .i64 0, Value.int .i64 0, Value.string { data := #[] }] 79)).heap[w.heap.size]? = some (.cells cx.toArray 38 (0, 0)) := (Below.heap_alloc _ _ _ (by simp)).trans (blk_new w _)
 have hl1 : Sem.run Tryz.prog (Wide.heavy0 ⟨w.heap.size, 0, none⟩ 33) ((w.alloc (.cells cx.toArray 38)).alloc (.cells #[Value.int .u8 0, Value.int .u8 0, Value.int .u8 0, Value.int .u8 0, Value.int .u8 0, Value.int .u8 0, Value.int .u8 0, Value.int .u8 0, Value.int .u8 0, Value.int .u8 0, Value.int .u8 0, Value.int .u8 0, Value.int .u8 0, Value.int .u8 0, Value.int .u8 0, Value.int .u8 0, Value.int .u8 0, Value.int .u8 0, Value.int .u8 0, Value.int .u8 0, Value.int .u8 0, Value.int .u8 0, Value.int .u8 0, Value.int .u8 0, Value.int .u8 0, Value.int .u8 0, Value.int .u8 0, Value.int .u8 0, Value.int .u8 0, Value.int .u8 0, Value.int .u8 0, Value.int .u8 0, Value.int .i64 0, Value.int .i64 0, Value.int .i64 0, Value.int .i64 0, Value.string { data := #[] }] 79)) = .ok #[u0, u1, u2, u3, u4, u5, u6, u7, u8, u9, u10, u11, u12, u13, u14, u15, u16, u17, u18, u19, u20, u21, u22, u23, u24, u25, u26, u27, u28, u29, u30, u31, u32] _ := row_load hbx 0 33 _ lx (by rw [List.drop_zero]; exact tx)
 have k34 : ((w.alloc (.cells cx.toArray 38)).alloc (.cells #[Value.int .u8 0, Value.int .u8 0, Value.int .u8 0, Value.int .u8 0, Value.int .u8 0, Value.int .u8 0, Value.int .u8 0, Value.int .u8 0, Value.int .u8 0, Value.int .u8 0, Value.int .u8 0, Value.int .u8 0, Value.int .u8 0, Value.int .u8 0, Value.int .u8 0, Value.int .u8 0, Value.int .u8 0, Value.int .u8 0, Value.int .u8 0, Value.int .u8 0, Value.int .u8 0, Value.int .u8 0, Value.int .u8 0, Value.int .u8 0, Value.int .u8 0, Value.int .u8 0, Value.int .u8 0, Value.int .u8 0, Value.int .u8 0, Value.int .u8 0, Value.int .u8 0, Value.int .u8 0, Value.int .i64 0, Value.int .i64 0, Value.int .i64 0, Value.int .i64 0, Value.string { data := #[] }] 79)).cell? ⟨w.heap.size, 34, none⟩ = _ := (blk_cell hbx 34).trans (by simpa using a2)
 have k35 : ((w.alloc (.cells cx.toArray 38)).alloc (.cells #[Value.int .u8 0, Value.int .u8 0, Value.int .u8 0, Value.int .u8 0, Value.int .u8 0, Value.int .u8 0, Value.int .u8 0, Value.int .u8 0, Value.int .u8 0, Value.int .u8 0, Value.int .u8 0, Value.int .u8 0, Value.int .u8 0, Value.int .u8 0, Value.int .u8 0, Value.int .u8 0, Value.int .u8 0, Value.int .u8 0, Value.int .u8 0, Value.int .u8 0, Value.int .u8 0, Value.int .u8 0, Value.int .u8 0, Value.int .u8 0, Value.int .u8 0, Value.int .u8 0, Value.int .u8 0, Value.int .u8 0, Value.int .u8 0, Value.int .u8 0, Value.int .u8 0, Value.int .u8 0, Value.int .i64 0, Value.int .i64 0, Value.int .i64 0, Value.int .i64 0, Value.string { data := #[] }] 79)).cell? ⟨w.heap.size, 35, none⟩ = _ := (blk_cell hbx 35).trans (by simpa using a3)
 have k36 : ((w.alloc (.cells cx.toArray 38)).alloc (.cells #[Value.int .u8 0, Value.int .u8 0, Value.int .u8 0, Value.int .u8 0, Value.int .u8 0, Value.int .u8 0, Value.int .u8 0, Value.int .u8 0, Value.int .u8 0, Value.int .u8 0, Value.int .u8 0, Value.int .u8 0, Value.int .u8 0, Value.int .u8 0, Value.int .u8 0, Value.int .u8 0, Value.int .u8 0, Value.int .u8 0, Value.int .u8 0, Value.int .u8 0, Value.int .u8 0, Value.int .u8 0, Value.int .u8 0, Value.int .u8 0, Value.int .u8 0, Value.int .u8 0, Value.int .u8 0, Value.int .u8 0, Value.int .u8 0, Value.int .u8 0, Value.int .u8 0, Value.int .u8 0, Value.int .i64 0, Value.int .i64 0, Value.int .i64 0, Value.int .i64 0, Value.string { data := #[] }] 79)).cell? ⟨w.heap.size, 36, none⟩ = _ := (blk_cell hbx 36).trans (by simpa using a4)
 have k37 : ((w.alloc (.cells cx.toArray 38)).alloc (.cells #[Value.int .u8 0, Value.int .u8 0, Value.int .u8 0, Value.int .u8 0, Value.int .u8 0, Value.int .u8 0, Value.int .u8 0, Value.int .u8 0, Value.int .u8 0, Value.int .u8 0, Value.int .u8 0, Value.int .u8 0, Value.int .u8 0, Value.int .u8 0, Value.int .u8 0, Value.int .u8 0, Value.int .u8 0, Value.int .u8 0, Value.int .u8 0, Value.int .u8 0, Value.int .u8 0, Value.int .u8 0, Value.int .u8 0, Value.int .u8 0, Value.int .u8 0, Value.int .u8 0, Value.int .u8 0, Value.int .u8 0, Value.int .u8 0, Value.int .u8 0, Value.int .u8 0, Value.int .u8 0, Value.int .i64 0, Value.int .i64 0, Value.int .i64 0, Value.int .i64 0, Value.string { data := #[] }] 79)).cell? ⟨w.heap.size, 37, none⟩ = _ := (blk_cell hbx 37).trans (by simpa using a1)
 have hbz : ((w.alloc (.cells cx.toArray 38)).alloc (.cells #[Value.int .u8 0, Value.int .u8 0, Value.int .u8 0, Value.int .u8 0, Value.int .u8 0, Value.int .u8 0, Value.int .u8 0, Value.int .u8 0, Value.int .u8 0, Value.int .u8 0, Value.int .u8 0, Value.int .u8 0, Value.int .u8 0, Value.int .u8 0, Value.int .u8 0, Value.int .u8 0, Value.int .u8 0, Value.int .u8 0, Value.int .u8 0, Value.int .u8 0, Value.int .u8 0, Value.int .u8 0, Value.int .u8 0, Value.int .u8 0, Value.int .u8 0, Value.int .u8 0, Value.int .u8 0, Value.int .u8 0, Value.int .u8 0, Value.int .u8 0, Value.int .u8 0, Value.int .u8 0, Value.int .i64 0, Value.int .i64 0, Value.int .i64 0, Value.int .i64 0, Value.string { data := #[] }] 79)).heap[w.heap.size + 1]? = some (.cells #[Value.int .u8 0, Value.int .u8 0, Value.int .u8 0, Value.int .u8 0, Value.int .u8 0, Value.int .u8 0, Value.int .u8 0, Value.int .u8 0, Value.int .u8 0, Value.int .u8 0, Value.int .u8 0, Value.int .u8 0, Value.int .u8 0, Value.int .u8 0, Value.int .u8 0, Value.int .u8 0, Value.int .u8 0, Value.int .u8 0, Value.int .u8 0, Value.int .u8 0, Value.int .u8 0, Value.int .u8 0, Value.int .u8 0, Value.int .u8 0, Value.int .u8 0, Value.int .u8 0, Value.int .u8 0, Value.int .u8 0, Value.int .u8 0, Value.int .u8 0, Value.int .u8 0, Value.int .u8 0, Value.int .i64 0, Value.int .i64 0, Value.int .i64 0, Value.int .i64 0, Value.string { data := #[] }] 79 (0, 0)) := by
  have := blk_new (w.alloc (.cells cx.toArray 38)) (.cells #[Value.int .u8 0, Value.int .u8 0, Value.int .u8 0, Value.int .u8 0, Value.int .u8 0, Value.int .u8 0, Value.int .u8 0, Value.int .u8 0, Value.int .u8 0, Value.int .u8 0, Value.int .u8 0, Value.int .u8 0, Value.int .u8 0, Value.int .u8 0, Value.int .u8 0, Value.int .u8 0, Value.int .u8 0, Value.int .u8 0, Value.int .u8 0, Value.int .u8 0, Value.int .u8 0, Value.int .u8 0, Value.int .u8 0, Value.int .u8 0, Value.int .u8 0, Value.int .u8 0, Value.int .u8 0, Value.int .u8 0, Value.int .u8 0, Value.int .u8 0, Value.int .u8 0, Value.int .u8 0, Value.int .i64 0, Value.int .i64 0, Value.int .i64 0, Value.int .i64 0, Value.string { data := #[] }] 79)
  rwa [World.size_alloc] at this
 have h1 : (#[u0, u1, u2, u3, u4, u5, u6, u7, u8, u9, u10, u11, u12, u13, u14, u15, u16, u17, u18, u19, u20, u21, u22, u23, u24, u25, u26, u27, u28, u29, u30, u31, u32, .int .i64 n1, .int .i64 n2, .int .i64 n3, Value.string n4] : Array Value).all (·.oneCell') = true := by
  rw [Array.all_eq_true_iff_forall_mem]
  intro v hv
  have e : [u0, u1, u2, u3, u4, u5, u6, u7, u8, u9, u10, u11, u12, u13, u14, u15, u16, u17, u18, u19, u20, u21, u22, u23, u24, u25, u26, u27, u28, u29, u30, u31, u32, Value.int .i64 n1, Value.int .i64 n2, Value.int .i64 n3, Value.string n4] = [u0, u1, u2, u3, u4, u5, u6, u7, u8, u9, u10, u11, u12, u13, u14, u15, u16, u17, u18, u19, u20, u21, u22, u23, u24, u25, u26, u27, u28, u29, u30, u31, u32] ++ [Value.int .i64 n1, Value.int .i64 n2, Value.int .i64 n3, Value.string n4] := rfl
  rw [List.mem_toArray, e, List.mem_append] at hv
  rcases hv with hv | hv
  ·exact hone v hv
  ·simp only [List.mem_cons, List.not_mem_nil, or_false] at hv
   rcases hv with rfl | rfl | rfl | rfl <;> rfl
 have HB := Ak (show Below w.heap.size w ((w.alloc (.cells cx.toArray 38)).alloc (.cells #[Value.int .u8 0, Value.int .u8 0, Value.int .u8 0, Value.int .u8 0, Value.int .u8 0, Value.int .u8 0, Value.int .u8 0, Value.int .u8 0, Value.int .u8 0, Value.int .u8 0, Value.int .u8 0, Value.int .u8 0, Value.int .u8 0, Value.int .u8 0, Value.int .u8 0, Value.int .u8 0, Value.int .u8 0, Value.int .u8 0, Value.int .u8 0, Value.int .u8 0, Value.int .u8 0, Value.int .u8 0, Value.int .u8 0, Value.int .u8 0, Value.int .u8 0, Value.int .u8 0, Value.int .u8 0, Value.int .u8 0, Value.int .u8 0, Value.int .u8 0, Value.int .u8 0, Value.int .u8 0, Value.int .i64 0, Value.int .i64 0, Value.int .i64 0, Value.int .i64 0, Value.string { data := #[] }] 79)) from below_alloc (below_alloc (Below.refl _ _) _) _)
 have HX := Ak (And.intro hbz h1)
 clear hone hbz h1 hbx lx
 go_enter Tryz.func33, Tryz.ntmps33
 go_wp2_with (first | ((with_reducible refine gate_store (t := 79) (p := 2) rfl ?_); refine PutW.store_event ?b1 ?b2 79 (.tmp 2) (.tmp 11) ?b3 (g := w.heap.size + 1) (t := 79) (cells := #[u0, u1, u2, u3, u4, u5, u6, u7, u8, u9, u10, u11, u12, u13, u14, u15, u16, u17, u18, u19, u20, u21, u22, u23, u24, u25, u26, u27, u28, u29, u30, u31, u32, .int .i64 n1, .int .i64 n2, .int .i64 n3, Value.string n4]) ?a1 ?a2 HX.1.1 ?a3 ?a4 HX.1.2 ?_; (case b1 => rfl); (case b2 => rfl); (case b3 => rfl); (case a1 => first | rfl | (go_simp; done)); (case a2 => first | rfl | (go_simp; done)); (case a3 => rfl); (case a4 => kernel_rfl); intro w3 hz3 hs3 hg3; have hl3 : Sem.run Tryz.prog (Wide.heavy0 ⟨w.heap.size + 1, 0, none⟩ 37) w3 = _ := row_load (cur := [u0, u1, u2, u3, u4, u5, u6, u7, u8, u9, u10, u11, u12, u13, u14, u15, u16, u17, u18, u19, u20, u21, u22, u23, u24, u25, u26, u27, u28, u29, u30, u31, u32, Value.int .i64 n1, Value.int .i64 n2, Value.int .i64 n3, Value.string n4]) hz3 0 37 _ rfl rfl; have HB3 := Ak (pw_below_grown HB.1 (some (w.heap.size + 1)) HB.1.size hg3 (fun k e => by cases e; omega)); have BK3 := Ak hz3; clear hl3 hz3 hs3 hg3 hl1 k34 k35 k36 k37))
 refine bodyPost_ret (results_cell_row rfl _ _ (w.heap.size + 1) 79 #[u0, u1, u2, u3, u4, u5, u6, u7, u8, u9, u10, u11, u12, u13, u14, u15, u16, u17, u18, u19, u20, u21, u22, u23, u24, u25, u26, u27, u28, u29, u30, u31, u32, .int .i64 n1, .int .i64 n2, .int .i64 n3, Value.string n4] (0, 0) _ rfl BK3.1 Tryz.underlying79 rfl (by kernel_rfl)) rfl ?_
 exact ⟨by simp, HB3.1⟩
end Go.Proofs.YtiodebjjbgcbhaaGreat.Inp
namespace Go.Proofs.YtiodebjjbgcbhaaGreat.Inp
open Go.RowKit Go.Sort Go.Lib Go.Shelf Go.Proofs YtiodebjjbgcbhaaGreatW.PrintWords YtiodebjjbgcbhaaGreatW.PrintMore YtiodebjjbgcbhaaGreat RowK Fill OrdO
set_option linter.unusedVariables false
set_option linter.unusedSimpArgs false
set_option maxHeartbeats 4000000 in
set_option maxRecDepth 100000 in
theorem refripens_calls (kind key : Int) (pre : ByteArray) (seq lock wait conf : Int) (w : World) : Calls Tryz.prog 49 #[.agg (claimCells kind key pre seq lock wait).toArray, .int .i64 conf] w fun e w' => e = .returned (.int .i64 (ripens wait lock conf)) ∧ Below w.heap.size w w' := by
 have mixed : Tryz.prog.follows .mixedOrders = true := by kernel_rfl
 have HB := Ak (Below.refl w.heap.size w)
 have rc := held_range conf
 have ra := held_range wait
 have rl := held_range lock
 obtain ⟨m2, hm2⟩ : ∃ m2, max (max (held conf + held wait) (held conf + 1)) (held lock) = m2 := ⟨_, rfl⟩
 have er : ripens wait lock conf = min m2 1099511627776 := by
  unfold ripens
  rw [hm2]
  unfold held at hm2 ⊢
  omega
 rw [er]
 have hmax : ∀ W, Sem.run Tryz.prog (Builtin.max_ #[3, 3, 3] 3 #[.int .i64 (held conf + held wait), .int .i64 (held conf + 1), .int .i64 (held lock)]) W = .ok (.int .i64 m2) W := fun W => by
  have e1 : (if held conf + held wait < held conf + 1 then held conf + 1 else held conf + held wait) = max (held conf + held wait) (held conf + 1) := by split <;> omega
  have e2 : (if max (held conf + held wait) (held conf + 1) < held lock then held lock else max (held conf + held wait) (held conf + 1)) = m2 := by rw [← hm2]; split <;> omega
  rw [max_three, max2_int]
  simp only [pure_bind]
  rw [e1, max2_int, e2]
  rfl
 have w1 : IntKind.i64.wrap (held conf + held wait) = held conf + held wait := by rw [IntKind.wrap_i64]; omega
 have w2 : IntKind.i64.wrap (held conf + 1) = held conf + 1 := by rw [IntKind.wrap_i64]; omega
 have R := Ak (And.intro rc (And.intro ra (And.intro rl hm2)))
 clear rc ra rl er hm2
 unfold claimCells
 go_enter Tryz.func49, Tryz.ntmps49
 go_upto_region 1 with (first | ((with_reducible refine gate_dst (N := 2) rfl ?_); refine box_event ?hg (N := 2) ?hd (cs := #[.int .i64 kind, .int .i64 key, .string pre, .int .i64 seq, .int .i64 lock, .int .i64 wait]) (t := 40) ?hr ?_; (case hd => rfl); (case hg => rfl); (case hr => first | (go_simp; done) | (go_simp; rfl)); intro gb hg w3 hbox hb; replace HB := Ak (below_step HB.1 hb); have BK := Ak hbox; clear hbox hb hg))
 have kw : ∀ dd os, (grow (redrawn w3 dd) os).cell? ⟨gb, 5, none⟩ = some (.int .i64 wait) := fun dd os => cell_regrown ((blk_cell BK.1 5).trans rfl) dd os
 have kl : ∀ dd os, (grow (redrawn w3 dd) os).cell? ⟨gb, 4, none⟩ = some (.int .i64 lock) := fun dd os => cell_regrown ((blk_cell BK.1 4).trans rfl) dd os
 refine wp_region_quiet_below mixed (by kernel_rfl) ?_
 repeat (quiet_step (fail))
 refine wpQuiet_nil ?_
 intro _ hw'
 obtain ⟨⟨nq, osq⟩, hw''⟩ := hw'
 subst hw''
 simp only [show ∀ n : Int, min (max n 0) 1099511627776 = held n from fun _ => rfl]
 generalize held conf = hc at w1 w2 hmax R ⊢
 generalize held wait = hw at w1 w2 hmax R ⊢
 generalize held lock = hl at w1 w2 hmax R ⊢
 go_wp2
 go_ret
 exact ⟨rfl, HB.1.trans ((below_regrown w3 nq osq).mono HB.1.size)⟩
end Go.Proofs.YtiodebjjbgcbhaaGreat.Inp
