import Derived.Test.YtiodebjjbgcbhaaGreatStbG
import Derived.Test.YtiodebjjbgcbhaaGreatSortP
import Derived.Test.YtiodebjjbgcbhaaGreatRefR
namespace Go.Proofs.YtiodebjjbgcbhaaGreat.OrdQ
open Go Go.Sort Go.Proofs YtiodebjjbgcbhaaGreat Stb OrdO SortO Inp
variable {α : Type}
structure Law (c : α → α → Int) : Prop where
 flip : ∀ x y, c y x = - c x y
 trans : ∀ x y z, c x y < 0 → c y z < 0 → c x z < 0
 same : ∀ x y, c x y = 0 → ∀ z, c x z = c y z
theorem Law.of_key (f : α → Int) : Law fun x y => cmp3 (f x) (f y) where
 flip := fun x y => cmp3_flip _ _
 trans := fun x y z h1 h2 => by rw [cmp3_neg] at h1 h2 ⊢; omega
 same := fun x y h z => by rw [cmp3_zero h]
theorem Law.of_flip {c : α → α → Int} (h : Law c) : Law fun x y => c y x where
 flip := fun x y => h.flip _ _
 trans := fun x y z h1 h2 => h.trans z y x h2 h1
 same := fun x y e z => by
  have e2 : c x y = 0 := by rw [h.flip, e]; rfl
  rw [h.flip x z, h.flip y z, h.same x y e2]
def lex (c d : α → α → Int) (x y : α) : Int := if c x y = 0 then d x y else c x y
theorem Law.lex {c d : α → α → Int} (hc : Law c) (hd : Law d) : Law (lex c d) where
 flip := fun x y => by
  unfold OrdQ.lex
  have := hc.flip x y
  by_cases h : c x y = 0
  ·rw [if_pos h, if_pos (by omega)]; exact hd.flip x y
  ·rw [if_neg h, if_neg (by omega)]; exact this
 trans := fun x y z => by
  unfold OrdQ.lex
  intro h1 h2
  by_cases e1 : c x y = 0
  ·rw [if_pos e1] at h1
   rw [hc.same x y e1 z]
   by_cases e2 : c y z = 0
   ·rw [if_pos e2] at h2 ⊢
    exact hd.trans x y z h1 h2
   ·rw [if_neg e2] at h2 ⊢
    exact h2
  ·rw [if_neg e1] at h1
   by_cases e2 : c y z = 0
   ·have e3 : c x z = c x y := by
     have h3 := hc.flip z x
     have h4 := hc.flip y x
     have h5 := hc.same y z e2 x
     omega
    rw [e3, if_neg e1]; exact h1
   ·rw [if_neg e2] at h2
    have := hc.trans x y z h1 h2
    rw [if_neg (by omega)]; exact this
 same := fun x y h z => by
  unfold OrdQ.lex at h ⊢
  by_cases e : c x y = 0
  ·rw [if_pos e] at h
   rw [hc.same x y e z, hd.same x y h z]
  ·rw [if_neg e] at h; exact absurd h e
theorem Law.sgn {c : α → α → Int} (h : Law c) : Law fun x y => if c x y < 0 then -1 else if c y x < 0 then 1 else 0 where
 flip := fun x y => by
  have := h.flip x y
  (repeat' split) <;> omega
 trans := fun x y z h1 h2 => by
  have e1 : c x y < 0 := by revert h1; (repeat' split) <;> omega
  have e2 : c y z < 0 := by revert h2; (repeat' split) <;> omega
  have := h.trans x y z e1 e2
  rw [if_pos this]; omega
 same := fun x y e z => by
  have f := h.flip x y
  have e1 : c x y = 0 := by revert e; (repeat' split) <;> omega
  rw [h.same x y e1 z, h.flip x z, h.flip y z, h.same x y e1 z]
section
variable (c : α → α → Int)
def insV (x : α) : List α → List α
 | [] => [x]
 | y :: ys => if c x y < 0 then x :: y :: ys else y :: insV x ys
def sortV (l : List α) : List α := l.foldl (fun out x => insV c x out) []
theorem insV_perm (x : α) : ∀ l, (insV c x l).Perm (x :: l)
 | [] => List.Perm.refl _
 | y :: ys => by
  unfold insV
  split
  ·exact List.Perm.refl _
  ·exact ((insV_perm x ys).cons y).trans (List.Perm.swap x y ys)
theorem insV_map {β : Type} (f : β → α) (x : β) : ∀ l, (insV (fun u v => c (f u) (f v)) x l).map f = insV c (f x) (l.map f)
 | [] => rfl
 | y :: ys => by
  have ih := insV_map f x ys
  simp only [insV, List.map_cons]
  by_cases h : c (f x) (f y) < 0
  ·rw [if_pos h, if_pos h]; rfl
  ·rw [if_neg h, if_neg h, List.map_cons, ih]
theorem foldl_map {β : Type} (f : β → α) : ∀ (l acc : List β), (l.foldl (fun out x => insV (fun u v => c (f u) (f v)) x out) acc).map f = (l.map f).foldl (fun out x => insV c x out) (acc.map f)
 | [], _ => rfl
 | x :: l, acc => by rw [List.foldl_cons, List.map_cons, List.foldl_cons, foldl_map f l, insV_map]
theorem foldl_perm : ∀ (l acc : List α), (l.foldl (fun out x => insV c x out) acc).Perm (acc ++ l)
 | [], acc => by rw [List.append_nil]; exact List.Perm.refl _
 | x :: l, acc => by
  rw [List.foldl_cons]
  refine (foldl_perm l _).trans ?_
  exact ((insV_perm c x acc).append_right l).trans (by simpa using List.perm_middle.symm)
theorem sortV_perm (l : List α) : (sortV c l).Perm l := foldl_perm c l []
end
def lt2 (c : α → α → Int) (u v : α × Nat) : Prop := c u.1 v.1 < 0 ∨ (c u.1 v.1 = 0 ∧ u.2 < v.2)
theorem lt2_trans {c : α → α → Int} (h : Law c) : ∀ u v w, lt2 c u v → lt2 c v w → lt2 c u w := by
 rintro u v w (h1 | ⟨h1, t1⟩) (h2 | ⟨h2, t2⟩)
 ·exact .inl (h.trans _ _ _ h1 h2)
 ·refine .inl ?_
  have h3 := h.same _ _ h2 u.1
  have h4 := h.flip u.1 w.1
  have h5 := h.flip u.1 v.1
  omega
 ·exact .inl (by rw [h.same _ _ h1]; exact h2)
 ·exact .inr ⟨by rw [h.same _ _ h1]; exact h2, by omega⟩
theorem lt2_asymm {c : α → α → Int} (h : Law c) {u v : α × Nat} (h1 : lt2 c u v) : ¬ lt2 c v u := by
 have := h.flip u.1 v.1
 rintro (h2 | ⟨h2, t2⟩) <;> rcases h1 with h1 | ⟨h1, t1⟩ <;> omega
theorem insV_sorted {c : α → α → Int} (h : Law c) (x : α × Nat) : ∀ (l : List (α × Nat)), l.Pairwise (lt2 c) → (∀ y ∈ l, y.2 < x.2) → (insV (fun u v : α × Nat => c u.1 v.1) x l).Pairwise (lt2 c)
 | [], _, _ => by unfold insV; simp
 | y :: ys, hp, ht => by
  unfold insV
  rw [List.pairwise_cons] at hp
  by_cases hx : c x.1 y.1 < 0
  ·rw [if_pos hx, List.pairwise_cons, List.pairwise_cons]
   refine ⟨fun z hz => ?_, hp⟩
   rcases List.mem_cons.1 hz with rfl | hz
   ·exact .inl hx
   ·exact lt2_trans h x y z (.inl hx) (hp.1 z hz)
  ·rw [if_neg hx, List.pairwise_cons]
   refine ⟨fun z hz => ?_, insV_sorted h x ys hp.2 (fun z hz => ht z (List.mem_cons_of_mem _ hz))⟩
   rcases List.mem_cons.1 ((insV_perm _ x ys).mem_iff.1 hz) with rfl | hz
   ·have h1 := h.flip y.1 z.1
    have h2 := ht y (List.mem_cons_self)
    by_cases e : c y.1 z.1 = 0
    ·exact .inr ⟨e, h2⟩
    ·exact .inl (by omega)
   ·exact hp.1 z hz
theorem foldl_sorted {c : α → α → Int} (h : Law c) : ∀ (l acc : List (α × Nat)), acc.Pairwise (lt2 c) → l.Pairwise (fun u v => u.2 < v.2) → (∀ y ∈ acc, ∀ x ∈ l, y.2 < x.2) → (l.foldl (fun out x => insV (fun u v : α × Nat => c u.1 v.1) x out) acc).Pairwise (lt2 c)
 | [], _, ha, _, _ => ha
 | x :: l, acc, ha, hl, hal => by
  rw [List.pairwise_cons] at hl
  rw [List.foldl_cons]
  refine foldl_sorted h l _ (insV_sorted h x acc ha (fun y hy => hal y hy x List.mem_cons_self)) hl.2 (fun y hy z hz => ?_)
  rcases List.mem_cons.1 ((insV_perm _ x acc).mem_iff.1 hy) with rfl | hy
  ·exact hl.1 z hz
  ·exact hal y hy z (List.mem_cons_of_mem _ hz)
theorem zip_tags (l : List α) : l.zipIdx.Pairwise (fun u v => u.2 < v.2) := by
 rw [List.pairwise_iff_getElem]
 intro i j hi hj hij
 simpa using hij
theorem sort_eq [Inhabited α] {c : α → α → Int} (h : Law c) (l : List α) (d' : Array (α × Nat)) (hs : d'.size = l.length) (ha : Asc (lt2 c) 0 l.length d') (hp : PermIn 0 l.length l.zipIdx.toArray d') : d'.toList.map Prod.fst = sortV c l := by
 have hl : l.zipIdx.toArray.size = l.length := by simp
 have hp' : d'.toList.Perm l.zipIdx := by
  have := hp.2.2
  rw [Array.extract_eq_self_of_le (by omega), Array.extract_eq_self_of_le (by omega)] at this
  simpa using this
 have h1 : d'.toList.Pairwise (lt2 c) := by
  rw [List.pairwise_iff_getElem]
  intro i j hi hj hij
  have hi' : i < d'.size := by simpa using hi
  have hj' : j < d'.size := by simpa using hj
  have := ha i j (by omega) hij (by omega)
  unfold D at this
  rw [getElem!_pos d' i hi', getElem!_pos d' j hj'] at this
  simpa using this
 have h2 := foldl_sorted h l.zipIdx [] (by simp) (zip_tags l) (by simp)
 have h3 : d'.toList = l.zipIdx.foldl (fun out x => insV (fun u v : α × Nat => c u.1 v.1) x out) [] :=
  List.Perm.eq_of_pairwise (le := lt2 c) (fun a b _ _ g1 g2 => absurd g2 (lt2_asymm h g1)) h1 h2 (hp'.trans (foldl_perm _ l.zipIdx []).symm)
 rw [h3, foldl_map c Prod.fst]
 unfold sortV
 congr 1
 simp
theorem placeI_law (I : Inp.Spec α) : Law (placeI I) := by
 have ho : Law (ocmp I.bs I.nn) := ⟨fun x y => ocmp_flip I.bs I.nn x y, fun x y z h1 h2 => ocmp_trans I.bs I.nn h1 h2, fun x y h z => by
  have := ocmp_zero I.bs I.nn h
  unfold ocmp
  rw [this.1, this.2]⟩
 exact ho.sgn
end Go.Proofs.YtiodebjjbgcbhaaGreat.OrdQ
