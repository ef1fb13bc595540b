import Derived.Lib.QuietBelow
import Derived.Test.YtiodebjjbgcbhaaGreatWLast
import Derived.Test.YtiodebjjbgcbhaaGreatWWords
namespace Go.Proofs.YtiodebjjbgcbhaaGreat.Mix
open Go Go.Proofs YtiodebjjbgcbhaaGreatW.PrintLast YtiodebjjbgcbhaaGreatW.PrintWords
variable {P : Program} {ops : Array Oper} {Q : Exit → Act → World → Prop} {md : Region.Mode} {S : World → Prop} {ds : List Nat}
inductive Plan
 | done
 | p (i : Nat) (r : Plan)
 | t (i : Nat) (r : Plan)
 | e (i : Nat) (r : Plan)
 | l (i : Nat) (r : Plan)
 | w (i j : Nat) (r s : Plan)
def ok (md : Region.Mode) (ops : Array Oper) (ds : List Nat) : Nat → Plan → Array Bool → Bool
 | _, .done, l => Region.ready md ops l == []
 | 0, _, _ => false
 | n + 1, .p i r, l => Region.noSelect ops && Region.free md ops l i && (Region.ready md ops l).contains i && ok md ops ds n r (l.setIfInBounds i true)
 | n + 1, .t i r, l => Region.noSelect ops && Region.free md ops l i && (Region.ready md ops l).contains i && Region.closedB md ops l && Region.lastB md ops l ds i && ok md ops ds n r (l.setIfInBounds i true)
 | n + 1, .e i r, l => (Region.ready md ops l == [i]) && !ds.contains i && ok md ops ds n r (l.setIfInBounds i true)
 | n + 1, .l i r, l => (Region.ready md ops l == [i]) && ds.contains i && ok md ops ds n r (l.setIfInBounds i true)
 | n + 1, .w i j r s, l => (Region.ready md ops l == [i, j]) && !ds.contains i && !ds.contains j && ok md ops ds n r (l.setIfInBounds i true) && ok md ops ds n s (l.setIfInBounds j true)
inductive PlanO
 | done
 | p (o : Oper) (r : PlanO)
 | t (o : Oper) (r : PlanO)
 | e (o : Oper) (r : PlanO)
 | l (o : Oper) (r : PlanO)
 | w (o o' : Oper) (r s : PlanO)
def no : Oper := ⟨none, .move (.const undef), 0, "", #[], none⟩
def get : List Oper → Nat → Oper
 | [], _ => no
 | o :: _, 0 => o
 | _ :: l, n + 1 => get l n
def Plan.of (L : List Oper) : Plan → PlanO
 | .done => .done
 | .p i r => .p (get L i) (r.of L)
 | .t i r => .t (get L i) (r.of L)
 | .e i r => .e (get L i) (r.of L)
 | .l i r => .l (get L i) (r.of L)
 | .w i j r s => .w (get L i) (get L j) (r.of L) (s.of L)
theorem get_some : ∀ (L : List Oper) (i : Nat), i < L.length → L[i]? = some (get L i)
 | [], _, h => by simp at h
 | _ :: _, 0, _ => rfl
 | _ :: l, n + 1, h => by simpa [get] using get_some l n (by simpa using h)
theorem ready_get {L : List Oper} {l : Array Bool} {i : Nat} (h : i ∈ Region.ready md L.toArray l) : L.toArray[i]? = some (get L i) := by
 obtain ⟨_, o, ho, _⟩ := mem_ready.1 h
 have hi : i < L.length := by simpa using (Array.getElem?_eq_some_iff.1 ho).1
 rw [List.getElem?_toArray]
 exact get_some L i hi
def Ev (P : Program) (ops : Array Oper) (Q : Exit → Act → World → Prop) (o : Oper) (C : Act → World → Prop) (a : Act) (w : World) : Prop :=
 ∀ K : Act → World → Prop, Shut (∀ a' w', C a' w' → K a' w') → if Region.wanted o (yielded ops a.tmps) = true then Oper.wp P o a w K Q else K (a.put o.dst undef) w
def At (P : Program) (ops : Array Oper) (Q : Exit → Act → World → Prop) (S : World → Prop) : PlanO → Act → World → Prop
 | .done, a, w => Q .normal a w
 | .p o r, a, w => ∃ v, Yields P ops o v a ∧ At P ops Q S r (a.put o.dst v) w
 | .t o r, a, w => ∃ v, YieldsIf P ops S o v a ∧ S w ∧ At P ops Q S r (a.put o.dst v) w
 | .e o r, a, w => Ev P ops Q o (fun a' w' => S w' ∧ At P ops Q S r a' w') a w
 | .l o r, a, w => Ev P ops Q o (fun a' w' => At P ops Q S r a' w') a w
 | .w o o' r s, a, w => Ev P ops Q o (fun a' w' => S w' ∧ At P ops Q S r a' w') a w ∧ Ev P ops Q o' (fun a' w' => S w' ∧ At P ops Q S s a' w') a w
theorem at_last {L : List Oper} (hQ : ∀ c a N v w, Q (.panic c) (a.put N v) w → Q (.panic c) a w) : ∀ (n : Nat) (p : Plan) (l : Array Bool) (a : Act) (w : World), ok md L.toArray ds n p l = true → At P L.toArray Q S (p.of L) a w → wpAnyLast P md L.toArray Q S ds n l a w := by
 intro n
 induction n with
 | zero =>
  intro p l a w hB h
  cases p with
  | done => simp only [ok] at hB; exact done_ hB h
  | _ => simp [ok] at hB
 | succ n ih =>
  intro p l a w hB h
  cases p with
  | done => simp only [ok] at hB; exact done_ hB h
  | p i r =>
   simp only [ok, Bool.and_eq_true] at hB
   obtain ⟨⟨⟨h1, h2⟩, h3⟩, h4⟩ := hB
   obtain ⟨v, hy, hr⟩ := h
   have h3' : i ∈ Region.ready md L.toArray l := by simpa using h3
   have hi := ready_get h3'
   exact wpAnyLast_any hi (Region.noSelect_spec h1) (fun c a w => hQ c a _ _ w) n l a w (Region.free_spec hi h2) h3' hy (ih r _ _ _ h4 hr)
  | t i r =>
   simp only [ok, Bool.and_eq_true] at hB
   obtain ⟨⟨⟨⟨⟨h1, h2⟩, h3⟩, h4⟩, h5⟩, h6⟩ := hB
   obtain ⟨v, hy, hS, hr⟩ := h
   exact wpAnyLast_take (ready_get (by simpa using h3)) h1 h2 h3 h4 h5 (fun c a w => hQ c a _ _ w) hy hS (ih r _ _ _ h6 hr)
  | e i r =>
   simp only [ok, Bool.and_eq_true, beq_iff_eq, Bool.not_eq_true'] at hB
   obtain ⟨⟨h1, h2⟩, h3⟩ := hB
   exact wpAnyLast_ready h1 (by simp) (AllReadyL.cons (ready_get (by rw [h1]; simp)) (by simpa using h2) (fun K hK => h K (fun a' w' ⟨hS, hA⟩ => hK.out a' w' hS (fun _ => ih r _ _ _ h3 hA))) AllReadyL.nil)
  | l i r =>
   simp only [ok, Bool.and_eq_true, beq_iff_eq] at hB
   obtain ⟨⟨h1, h2⟩, h3⟩ := hB
   exact wpAnyLast_ready h1 (by simp) (AllReadyL.cons_last (ready_get (by rw [h1]; simp)) (by simpa using h2) (fun K hK => h K (fun a' w' hA => hK.out a' w' (ih r _ _ _ h3 hA))) AllReadyL.nil)
  | w i j r s =>
   simp only [ok, Bool.and_eq_true, beq_iff_eq, Bool.not_eq_true'] at hB
   obtain ⟨⟨⟨⟨h1, h2⟩, h3⟩, h4⟩, h5⟩ := hB
   exact wpAnyLast_ready h1 (by simp) (AllReadyL.cons (ready_get (by rw [h1]; simp)) (by simpa using h2) (fun K hK => h.1 K (fun a' w' ⟨hS, hA⟩ => hK.out a' w' hS (fun _ => ih r _ _ _ h4 hA)))
    (AllReadyL.cons (ready_get (by rw [h1]; simp)) (by simpa using h3) (fun K hK => h.2 K (fun a' w' ⟨hS, hA⟩ => hK.out a' w' hS (fun _ => ih s _ _ _ h5 hA))) AllReadyL.nil))
theorem region (S : World → Prop) (ds : List Nat) (p : Plan) {L : List Oper} {id : Nat} {a : Act} {w : World} (hm : P.follows .mixedOrders = true) (hB : ok .any L.toArray ds L.length p (Array.replicate L.length false) = true)
 (hQ : ∀ c a N v w, Q (.panic c) (a.put N v) w → Q (.panic c) a w) (h : At P L.toArray Q S (p.of L) a w.drew) : (Code.region id L.toArray true).wp P Q a w :=
 wp_region_last hm (by rw [List.size_toArray]; exact at_last hQ _ p _ a _ hB h)
theorem sp {r : PlanO} {o : Oper} {N : Option Tmp} {v : Value} {a a' : Act} {w : World} (hN : o.dst = N) (hy : Yields P ops o v a) (ha : a.put N v = a') (h : At P ops Q S r a' w) : At P ops Q S (.p o r) a w := by
 subst hN; subst ha; exact ⟨v, hy, h⟩
theorem st {r : PlanO} {o : Oper} {N : Option Tmp} {v : Value} {a a' : Act} {w : World} (hS : S w) (hN : o.dst = N) (hy : YieldsIf P ops S o v a) (ha : a.put N v = a') (h : At P ops Q S r a' w) : At P ops Q S (.t o r) a w := by
 subst hN; subst ha; exact ⟨v, hy, hS, h⟩
theorem ev {C : Act → World → Prop} {o : Oper} {N : Option Tmp} {a : Act} {w : World} (hN : o.dst = N) (h : ∀ K : Act → World → Prop, Shut (∀ a' w', C a' w' → K a' w') → if Region.wanted o (yielded ops a.tmps) = true then Oper.wp P o a w K Q else K (a.put N undef) w) : Ev P ops Q o C a w := by
 subst hN; exact h
theorem dn {a : Act} {w : World} (h : Q .normal a w) : At P ops Q S .done a w := h
theorem qr {id : Nat} {a : Act} {w : World} {l : List Oper} (hm : P.follows .mixedOrders = true) (hB : Region.lexB .any l.toArray = true)
 (h : Aside0 (wpQuiet P l.toArray (fun w' => ∃ p : Regrown, w' = Sort.grow (redrawn w p.d) p.os) (fun a' => ∀ w', (∃ p : Regrown, w' = Sort.grow (redrawn w p.d) p.os) → Q .normal a' w') l a)) : (Code.region id l.toArray true).wp P Q a w :=
 wp_region_quiet_below hm hB h.out
theorem qs {C : World → Prop} {R : Act → Prop} {a : Act} {o : Oper} {rest : List Oper}
 (h : ∀ K : Act → Prop, (∀ a, Aside0 (wpQuiet P ops C R rest a) → K a) → if Region.wanted o (yielded ops a.tmps) then o.quiet P a C K else K (a.put o.dst undef)) : Aside0 (wpQuiet P ops C R (o :: rest) a) :=
 ⟨wpQuiet_step fun K hK => h K fun a ha => hK a ha.out⟩
theorem qn {C : World → Prop} {R : Act → Prop} {a : Act} (h : R a) : Aside0 (wpQuiet P ops C R [] a) := ⟨wpQuiet_nil h⟩
end Go.Proofs.YtiodebjjbgcbhaaGreat.Mix
