/- What point's functions answer: plain Lean, no program in sight. -/
import Derived.Test.YtmoecidfmgeafaaDoorQPntx7
import Derived.Test.YtmoecidfmgeafaaDoorQPntx3
import Derived.Test.YtmoecidfmgeafaaDoorQPntx3
import Derived.Test.YtmoecidfmgeafaaDoorQPntx3
import Derived.Test.YtmoecidfmgeafaaDoorQPntx7
import Derived.Test.YtmoecidfmgeafaaDoorQPntx7
import Derived.Test.YtmoecidfmgeafaaDoorQPntx5
import Derived.Test.YtmoecidfmgeafaaDoorQPntx7
import Derived.Test.YtmoecidfmgeafaaDoorQPntx10
namespace Go.Proofs.YtmoecidfmgeafaaDoor.PntL
open Go.RowKit Go.Sort Go.Proofs.YtmoecidfmgeafaaDoor.QPnt Go.Proofs.YtmoecidfmgeafaaDoorW.PrintWords Go.Proofs.YtmoecidfmgeafaaDoorW.PrintLast Go.Proofs.YtmoecidfmgeafaaDoorW.PrintMore
theorem w64 {n : Int} (h0 : -9223372036854775808 ≤ n) (h1 : n ≤ 9223372036854775807) : wrap64 n = n := by unfold wrap64; omega
theorem up {α : Type} {f : Nat → Option α} (hm : ∀ k, LeO (f k) (f (k + 1))) {k0 : Nat} {r : α} (h : f k0 = some r) : ∀ k, k0 ≤ k → f k = some r := by
  intro k hk
  induction hk with
  | refl => exact h
  | step _ ih => exact hm _ _ ih
/-! ### Outpoints, equal or not -/
theorem eq_s (x y : S25) : x = y ↔ oeq x y = true := by
  constructor
  · rintro rfl; simp [oeq]
  · intro h
    cases x with | mk a b => cases y with | mk c d => cases a with | mk a0 a1 a2 a3 a4 a5 a6 a7 a8 a9 a10 a11 a12 a13 a14 a15 a16 a17 a18 a19 a20 a21 a22 a23 a24 a25 a26 a27 a28 a29 a30 a31 => cases c with | mk c0 c1 c2 c3 c4 c5 c6 c7 c8 c9 c10 c11 c12 c13 c14 c15 c16 c17 c18 c19 c20 c21 c22 c23 c24 c25 c26 c27 c28 c29 c30 c31 =>
      simp only [oeq, Bool.and_eq_true, beq_iff_eq] at h
      obtain ⟨⟨e0, e1, e2, e3, e4, e5, e6, e7, e8, e9, e10, e11, e12, e13, e14, e15, e16, e17, e18, e19, e20, e21, e22, e23, e24, e25, e26, e27, e28, e29, e30, e31⟩, e⟩ := h
      subst e0 e1 e2 e3 e4 e5 e6 e7 e8 e9 e10 e11 e12 e13 e14 e15 e16 e17 e18 e19 e20 e21 e22 e23 e24 e25 e26 e27 e28 e29 e30 e31 e
      rfl
instance : DecidableEq S25 := fun x y => decidable_of_iff (oeq x y = true) (eq_s x y).symm
theorem oeq_dec (x y : S25) : oeq x y = decide (x = y) := by
  by_cases e : x = y
  · rw [decide_eq_true e, (eq_s x y).1 e]
  · rw [decide_eq_false e]
    cases h : oeq x y
    · rfl
    · exact absurd ((eq_s x y).2 h) e
theorem rd25 (x : List S25) (i : Nat) (h : i < x.length) : rd_T25 x i = x[i] := by simp [rd_T25, List.getElem?_eq_getElem h]
/-- '==' of two outpoints, as it is printed. -/
theorem eqx (x y : S25) : ((x.f0.f0 == y.f0.f0 && (x.f0.f1 == y.f0.f1 && (x.f0.f2 == y.f0.f2 && (x.f0.f3 == y.f0.f3 && (x.f0.f4 == y.f0.f4 && (x.f0.f5 == y.f0.f5 && (x.f0.f6 == y.f0.f6 && (x.f0.f7 == y.f0.f7 && (x.f0.f8 == y.f0.f8 && (x.f0.f9 == y.f0.f9 && (x.f0.f10 == y.f0.f10 && (x.f0.f11 == y.f0.f11 && (x.f0.f12 == y.f0.f12 && (x.f0.f13 == y.f0.f13 && (x.f0.f14 == y.f0.f14 && (x.f0.f15 == y.f0.f15 && (x.f0.f16 == y.f0.f16 && (x.f0.f17 == y.f0.f17 && (x.f0.f18 == y.f0.f18 && (x.f0.f19 == y.f0.f19 && (x.f0.f20 == y.f0.f20 && (x.f0.f21 == y.f0.f21 && (x.f0.f22 == y.f0.f22 && (x.f0.f23 == y.f0.f23 && (x.f0.f24 == y.f0.f24 && (x.f0.f25 == y.f0.f25 && (x.f0.f26 == y.f0.f26 && (x.f0.f27 == y.f0.f27 && (x.f0.f28 == y.f0.f28 && (x.f0.f29 == y.f0.f29 && (x.f0.f30 == y.f0.f30 && (x.f0.f31 == y.f0.f31)))))))))))))))))))))))))))))))) && (x.f1 == y.f1)) = decide (x = y) := by
  rw [← oeq_dec, oeq]
/-- '!=' of two outpoints, as it is printed. -/
theorem neqx (x y : S25) : ((!(x.f0.f0 == y.f0.f0) || (!(x.f0.f1 == y.f0.f1) || (!(x.f0.f2 == y.f0.f2) || (!(x.f0.f3 == y.f0.f3) || (!(x.f0.f4 == y.f0.f4) || (!(x.f0.f5 == y.f0.f5) || (!(x.f0.f6 == y.f0.f6) || (!(x.f0.f7 == y.f0.f7) || (!(x.f0.f8 == y.f0.f8) || (!(x.f0.f9 == y.f0.f9) || (!(x.f0.f10 == y.f0.f10) || (!(x.f0.f11 == y.f0.f11) || (!(x.f0.f12 == y.f0.f12) || (!(x.f0.f13 == y.f0.f13) || (!(x.f0.f14 == y.f0.f14) || (!(x.f0.f15 == y.f0.f15) || (!(x.f0.f16 == y.f0.f16) || (!(x.f0.f17 == y.f0.f17) || (!(x.f0.f18 == y.f0.f18) || (!(x.f0.f19 == y.f0.f19) || (!(x.f0.f20 == y.f0.f20) || (!(x.f0.f21 == y.f0.f21) || (!(x.f0.f22 == y.f0.f22) || (!(x.f0.f23 == y.f0.f23) || (!(x.f0.f24 == y.f0.f24) || (!(x.f0.f25 == y.f0.f25) || (!(x.f0.f26 == y.f0.f26) || (!(x.f0.f27 == y.f0.f27) || (!(x.f0.f28 == y.f0.f28) || (!(x.f0.f29 == y.f0.f29) || (!(x.f0.f30 == y.f0.f30) || (!(x.f0.f31 == y.f0.f31))))))))))))))))))))))))))))))))) || (!(x.f1 == y.f1))) = !decide (x = y) := by
  rw [← oeq_dec, oeq]
  simp only [Bool.not_and]
theorem eta (x : S25) : (⟨(⟨x.f0.f0, x.f0.f1, x.f0.f2, x.f0.f3, x.f0.f4, x.f0.f5, x.f0.f6, x.f0.f7, x.f0.f8, x.f0.f9, x.f0.f10, x.f0.f11, x.f0.f12, x.f0.f13, x.f0.f14, x.f0.f15, x.f0.f16, x.f0.f17, x.f0.f18, x.f0.f19, x.f0.f20, x.f0.f21, x.f0.f22, x.f0.f23, x.f0.f24, x.f0.f25, x.f0.f26, x.f0.f27, x.f0.f28, x.f0.f29, x.f0.f30, x.f0.f31⟩ : S23), x.f1⟩ : S25) = x := rfl
/-! ### Has -/
def hasF (k : Nat) (l : List S25) (x : S25) : Option Bool := point_Has.f k l x.f0.f0 x.f0.f1 x.f0.f2 x.f0.f3 x.f0.f4 x.f0.f5 x.f0.f6 x.f0.f7 x.f0.f8 x.f0.f9 x.f0.f10 x.f0.f11 x.f0.f12 x.f0.f13 x.f0.f14 x.f0.f15 x.f0.f16 x.f0.f17 x.f0.f18 x.f0.f19 x.f0.f20 x.f0.f21 x.f0.f22 x.f0.f23 x.f0.f24 x.f0.f25 x.f0.f26 x.f0.f27 x.f0.f28 x.f0.f29 x.f0.f30 x.f0.f31 x.f1
theorem has_l (l : List S25) (x : S25) (hl : l.length ≤ 1000) : ∀ m i k, i + m = l.length → (∀ j (h : j < l.length), j < i → l[j] ≠ x) → m < k → point_Has.l0 k false l l.length i x.f0.f0 x.f0.f1 x.f0.f2 x.f0.f3 x.f0.f4 x.f0.f5 x.f0.f6 x.f0.f7 x.f0.f8 x.f0.f9 x.f0.f10 x.f0.f11 x.f0.f12 x.f0.f13 x.f0.f14 x.f0.f15 x.f0.f16 x.f0.f17 x.f0.f18 x.f0.f19 x.f0.f20 x.f0.f21 x.f0.f22 x.f0.f23 x.f0.f24 x.f0.f25 x.f0.f26 x.f0.f27 x.f0.f28 x.f0.f29 x.f0.f30 x.f0.f31 x.f1 = some (decide (x ∈ l)) := by
  intro m
  induction m with
  | zero =>
    intro i k hi hb hk
    obtain ⟨k, rfl⟩ : ∃ j, k = j + 1 := ⟨k - 1, by omega⟩
    rw [point_Has.l0, if_neg (by omega), decide_eq_false]
    intro hx
    obtain ⟨j, hj, e⟩ := List.getElem_of_mem hx
    exact hb j hj (by omega) e
  | succ m ih =>
    intro i k hi hb hk
    obtain ⟨k, rfl⟩ : ∃ j, k = j + 1 := ⟨k - 1, by omega⟩
    rw [point_Has.l0, if_pos (by omega), if_pos (by omega), if_pos (by omega), rd25 l i (by omega), eqx l[i] x]
    by_cases e : l[i] = x
    · rw [decide_eq_true e, if_pos rfl, decide_eq_true (e ▸ List.getElem_mem (by omega))]
    · rw [decide_eq_false e, if_neg (by decide), w64 (n := (i : Int) + 1) (by omega) (by omega)]
      refine ih (i + 1) k (by omega) (fun j h1 hj => ?_) (by omega)
      by_cases hji : j = i
      · subst hji; exact e
      · exact hb j h1 (by omega)
theorem has_f (k : Nat) (l : List S25) (x : S25) (hl : l.length ≤ 1000) (hk : l.length < k) : hasF k l x = some (decide (x ∈ l)) :=
  has_l l x hl l.length 0 k (by omega) (fun j _ hj => by omega) hk
/-! ### Both, Minus -/
theorem those_l (l b : List S25) (f : Bool) (hl : l.length ≤ 1000) (hb : b.length ≤ 1000) : ∀ m i k acc, i + m = l.length → acc.length ≤ i → m + b.length + 1 < k → point_those.l0 k b f acc l l.length i = some (acc ++ (l.drop i).filter fun x => decide (x ∈ b) == f) := by
  intro m
  induction m with
  | zero =>
    intro i k acc hi ha hk
    obtain ⟨k, rfl⟩ : ∃ j, k = j + 1 := ⟨k - 1, by omega⟩
    rw [point_those.l0, if_neg (by omega), List.drop_of_length_le (by omega)]
    simp
  | succ m ih =>
    intro i k acc hi ha hk
    obtain ⟨k, rfl⟩ : ∃ j, k = j + 1 := ⟨k - 1, by omega⟩
    have hd : l.drop i = l[i] :: l.drop (i + 1) := (List.drop_eq_getElem_cons (by omega))
    rw [point_those.l0, if_pos (by omega), if_pos (by omega), if_pos (by omega), rd25 l i (by omega)]
    have hh := has_f k b l[i] hb (by omega)
    rw [hasF] at hh
    rw [hh, Option.bind_some, eta, hd, List.filter_cons]
    have w := w64 (n := (i : Int) + 1) (by omega) (by omega)
    have i1 := ih (i + 1) k (acc ++ [l[i]]) (by omega) (by simp; omega) (by omega)
    have i2 := ih (i + 1) k acc (by omega) (by omega) (by omega)
    simp only [Int.natCast_add, Int.cast_ofNat_Int] at i1 i2
    by_cases c : l[i] ∈ b <;> cases f <;> simp [c, w, i1, i2, show acc.length < 3518437208883 by omega]
theorem both_f (k : Nat) (l b : List S25) (hl : l.length ≤ 1000) (hb : b.length ≤ 1000) (hk : l.length + b.length + 1 < k) : point_Both.f k l b = some (l.filter fun x => decide (x ∈ b)) := by
  unfold point_Both.f point_those.f
  have h : point_those.l0 k b true [] l (l.length : Int) 0 = _ := those_l l b true hl hb l.length 0 k [] (by omega) (by simp) hk
  rw [h]
  simp
theorem minus_f (k : Nat) (l b : List S25) (hl : l.length ≤ 1000) (hb : b.length ≤ 1000) (hk : l.length + b.length + 1 < k) : point_Minus.f k l b = some (l.filter fun x => !decide (x ∈ b)) := by
  unfold point_Minus.f point_those.f
  have h : point_those.l0 k b false [] l (l.length : Int) 0 = _ := those_l l b false hl hb l.length 0 k [] (by omega) (by simp) hk
  rw [h]
  simp
/-! ### Points, Equal, Alike -/
theorem points_l (x y : List S25) (h : x.length = y.length) (hx : x.length ≤ 1000) : ∀ m i k, i + m = x.length → (∀ j (h1 : j < x.length) (h2 : j < y.length), j < i → x[j] = y[j]) → m < k → coraclealike_Points.l0 k x y i = some (decide (x = y)) := by
  intro m
  induction m with
  | zero =>
    intro i k hi hb hk
    obtain ⟨k, rfl⟩ : ∃ j, k = j + 1 := ⟨k - 1, by omega⟩
    rw [coraclealike_Points.l0, if_neg (by omega), decide_eq_true (List.ext_getElem h (fun j h1 h2 => hb j h1 h2 (by omega)))]
  | succ m ih =>
    intro i k hi hb hk
    obtain ⟨k, rfl⟩ : ∃ j, k = j + 1 := ⟨k - 1, by omega⟩
    rw [coraclealike_Points.l0, if_pos (by omega), if_pos (by omega), if_pos (by omega), rd25 x i (by omega), rd25 y i (by omega)]
    rw [neqx x[i] y[i]]
    by_cases e : x[i] = y[i]
    · rw [decide_eq_true e, if_neg (by decide), w64 (n := (i : Int) + 1) (by omega) (by omega)]
      refine ih (i + 1) k (by omega) (fun j h1 h2 hj => ?_) (by omega)
      by_cases hji : j = i
      · subst hji; exact e
      · exact hb j h1 h2 (by omega)
    · rw [decide_eq_false e, if_pos (by decide), decide_eq_false (fun hxy => e (by subst hxy; rfl))]
theorem points_f (k : Nat) (x y : List S25) (hx : x.length ≤ 1000) (hk : x.length < k) : coraclealike_Points.f k x y = some (decide (x = y)) := by
  unfold coraclealike_Points.f
  by_cases h : x.length = y.length
  · rw [if_pos (by omega)]
    exact points_l x y h hx x.length 0 k (by omega) (fun j _ _ hj => by omega) hk
  · rw [if_neg (by omega), decide_eq_false (fun e => h (by rw [e]))]
theorem equal_l (x y : List S25) (h : x.length = y.length) (hx : x.length ≤ 1000) : ∀ m i k, i + m = x.length → (∀ j (h1 : j < x.length) (h2 : j < y.length), j < i → x[j] = y[j]) → m < k → api_Outpoint.l0 k x y x.length i = some (decide (x = y)) := by
  intro m
  induction m with
  | zero =>
    intro i k hi hb hk
    obtain ⟨k, rfl⟩ : ∃ j, k = j + 1 := ⟨k - 1, by omega⟩
    rw [api_Outpoint.l0, if_neg (by omega), decide_eq_true (List.ext_getElem h (fun j h1 h2 => hb j h1 h2 (by omega)))]
  | succ m ih =>
    intro i k hi hb hk
    obtain ⟨k, rfl⟩ : ∃ j, k = j + 1 := ⟨k - 1, by omega⟩
    rw [api_Outpoint.l0, if_pos (by omega), if_pos (by omega), if_pos (by omega), if_pos (by omega), rd25 x i (by omega), rd25 y i (by omega)]
    rw [neqx x[i] y[i]]
    by_cases e : x[i] = y[i]
    · rw [decide_eq_true e, if_neg (by decide), w64 (n := (i : Int) + 1) (by omega) (by omega)]
      refine ih (i + 1) k (by omega) (fun j h1 h2 hj => ?_) (by omega)
      by_cases hji : j = i
      · subst hji; exact e
      · exact hb j h1 h2 (by omega)
    · rw [decide_eq_false e, if_pos (by decide), decide_eq_false (fun hxy => e (by subst hxy; rfl))]
theorem equal_f (k : Nat) (x y : List S25) (hx : x.length ≤ 1000) (hk : x.length < k) : api_Outpoint.f k x y = some (decide (x = y)) := by
  unfold api_Outpoint.f
  by_cases h : x.length = y.length
  · rw [if_pos (by omega)]
    exact equal_l x y h hx x.length 0 k (by omega) (fun j _ _ hj => by omega) hk
  · rw [if_neg (by omega), decide_eq_false (fun e => h (by rw [e]))]
/-! ### The order, the sorted row, the set -/
/-- The order of outpoints, below. -/
def lt (x y : S25) : Prop := Go.Proofs.YtmoecidfmgeafaaDoor.OrdO.ocmp bsO (fun x : S25 => x.f1) x y < 0
theorem lt_trans {x y z : S25} (h1 : lt x y) (h2 : lt y z) : lt x z := Go.Proofs.YtmoecidfmgeafaaDoor.SortO.ocmp_trans bsO _ h1 h2
theorem lt_irrefl (x : S25) : ¬ lt x x := by
  unfold lt
  rw [Go.Proofs.YtmoecidfmgeafaaDoor.SortO.ocmp_self]
  decide
theorem lt_asymm {x y : S25} (h : lt x y) : ¬ lt y x := fun h2 => lt_irrefl x (lt_trans h h2)
theorem lt_tri (x y : S25) : lt x y ∨ x = y ∨ lt y x := by
  have e := Go.Proofs.YtmoecidfmgeafaaDoor.SortO.ocmp_flip bsO (fun x : S25 => x.f1) x y
  unfold lt
  by_cases h1 : Go.Proofs.YtmoecidfmgeafaaDoor.OrdO.ocmp bsO (fun x : S25 => x.f1) x y < 0
  · exact .inl h1
  · by_cases h2 : Go.Proofs.YtmoecidfmgeafaaDoor.OrdO.ocmp bsO (fun x : S25 => x.f1) y x < 0
    · exact .inr (.inr h2)
    · have z := Go.Proofs.YtmoecidfmgeafaaDoor.SortO.ocmp_zero bsO (fun x : S25 => x.f1) (x := x) (y := y) (by omega)
      exact .inr (.inl (bsO_inj x y z.1 z.2))
theorem sortO_mem (l : List S25) (x : S25) : x ∈ sortO l ↔ x ∈ l := (List.mergeSort_perm _ _).mem_iff
theorem sortO_sorted (l : List S25) : (sortO l).Pairwise fun a b => ¬ lt b a := by
  have hw := Go.Proofs.YtmoecidfmgeafaaDoor.SortO.ocmp_swo bsO (fun x : S25 => x.f1)
  have h : (sortO l).Pairwise fun a b => (!(ltOf (Go.Proofs.YtmoecidfmgeafaaDoor.OrdO.ocmp bsO (fun x : S25 => x.f1))) b a) = true := by
    refine List.pairwise_mergeSort (fun a b c h1 h2 => ?_) (fun a b => ?_) _
    · simp only [Bool.not_eq_true'] at *
      exact hw.ntrans c b a h2 h1
    · simp only [Bool.or_eq_true, Bool.not_eq_true']
      cases h1 : ltOf (Go.Proofs.YtmoecidfmgeafaaDoor.OrdO.ocmp bsO (fun x : S25 => x.f1)) b a
      · exact .inl rfl
      · right
        cases h2 : ltOf (Go.Proofs.YtmoecidfmgeafaaDoor.OrdO.ocmp bsO (fun x : S25 => x.f1)) a b
        · rfl
        · have := hw.trans a b a h2 h1
          rw [hw.irrefl] at this
          cases this
  exact h.imp fun hh => by simpa [ltOf, lt] using hh
theorem sortO_perm (x y : List S25) : sortO x = sortO y ↔ x.Perm y := by
  have hs : ∀ l, (sortO l).Perm l := fun l => List.mergeSort_perm _ _
  constructor
  · intro h
    exact (hs x).symm.trans (h ▸ hs y)
  · intro h
    refine List.Perm.eq_of_pairwise (le := fun a b => ¬ lt b a) (fun a b _ _ h1 h2 => ?_) (sortO_sorted x) (sortO_sorted y) ((hs x).trans (h.trans (hs y).symm))
    rcases lt_tri a b with h3 | h3 | h3
    · exact absurd h3 h2
    · exact h3
    · exact absurd h3 h1
theorem alike_f (k : Nat) (a b : List S25) (ha : a.length ≤ 1000) (hb : b.length ≤ 1000) (hk : a.length < k) : ∃ r : Bool, point_Alike.f k a b = some r ∧ (r = true ↔ a.Perm b) := by
  unfold point_Alike.f
  rw [if_pos (by omega), if_pos (by omega), equal_f k _ _ (by rw [sortO_len]; exact ha) (by rw [sortO_len]; exact hk)]
  exact ⟨_, rfl, by rw [decide_eq_true_iff, sortO_perm]⟩
open Go.Proofs.YtmoecidfmgeafaaDoor.CompO in
theorem compGo_sorted : ∀ (l : List S25) (p : S25), (p :: l).Pairwise (fun a b => ¬ lt b a) → (compGo oeq p l).Pairwise lt ∧ (∀ y ∈ compGo oeq p l, lt p y) ∧ ∀ y, y ∈ l → y = p ∨ y ∈ compGo oeq p l
  | [], _, _ => ⟨.nil, by simp [compGo], by simp⟩
  | q :: l, p, h => by
    obtain ⟨hp, hq⟩ := List.pairwise_cons.1 h
    obtain ⟨i1, i2, i3⟩ := compGo_sorted l q hq
    by_cases e : q = p
    · have ec : compGo oeq p (q :: l) = compGo oeq q l := by rw [compGo, if_pos ((eq_s q p).1 e)]
      rw [ec]
      refine ⟨i1, fun y hy => e ▸ i2 y hy, fun y hy => ?_⟩
      rcases List.mem_cons.1 hy with h1 | h1
      · exact .inl (h1.trans e)
      · rcases i3 y h1 with h2 | h2
        · exact .inl (h2.trans e)
        · exact .inr h2
    · have ec : compGo oeq p (q :: l) = q :: compGo oeq q l := by rw [compGo, if_neg (fun h2 => e ((eq_s q p).2 h2))]
      have hl : lt p q := by
        rcases lt_tri p q with h1 | h1 | h1
        · exact h1
        · exact absurd h1.symm e
        · exact absurd h1 (hp q (List.mem_cons_self ..))
      rw [ec]
      refine ⟨List.pairwise_cons.2 ⟨i2, i1⟩, fun y hy => ?_, fun y hy => .inr ?_⟩
      · rcases List.mem_cons.1 hy with h1 | h1
        · exact h1 ▸ hl
        · exact lt_trans hl (i2 y h1)
      · rcases List.mem_cons.1 hy with h1 | h1
        · exact List.mem_cons.2 (.inl h1)
        · exact List.mem_cons.2 (i3 y h1)
open Go.Proofs.YtmoecidfmgeafaaDoor.CompO in
theorem setO_sorted (l : List S25) : (setO l).Pairwise lt := by
  unfold setO
  have h := sortO_sorted l
  cases e : sortO l with
  | nil => exact .nil
  | cons x xs =>
    rw [e] at h
    obtain ⟨h1, h2, _⟩ := compGo_sorted xs x h
    exact List.pairwise_cons.2 ⟨h2, h1⟩
open Go.Proofs.YtmoecidfmgeafaaDoor.CompO in
theorem setO_mem (l : List S25) (x : S25) : x ∈ setO l ↔ x ∈ l := by
  rw [← sortO_mem l x]
  unfold setO
  have h := sortO_sorted l
  cases e : sortO l with
  | nil => exact Iff.rfl
  | cons p xs =>
    rw [e] at h
    obtain ⟨_, _, h3⟩ := compGo_sorted xs p h
    rw [comp, List.mem_cons, List.mem_cons]
    exact ⟨fun hh => hh.imp_right (comp_mem _ _ _ _), fun hh => hh.elim .inl (h3 x)⟩
theorem pairwise_ext {x y : List S25} (hx : x.Pairwise lt) (hy : y.Pairwise lt) (h : ∀ z, z ∈ x ↔ z ∈ y) : x = y := by
  have nd : ∀ {l : List S25}, l.Pairwise lt → l.Nodup := fun hl => List.Pairwise.imp (S := fun a b => a ≠ b) (fun {a b} (hab : lt a b) (e : a = b) => lt_irrefl b (by subst e; exact hab)) hl
  exact List.Perm.eq_of_pairwise (le := lt) (fun a b _ _ h1 h2 => absurd h2 (lt_asymm h1)) hx hy ((List.perm_ext_iff_of_nodup (nd hx) (nd hy)).2 h)
theorem setO_len (l : List S25) : (setO l).length ≤ l.length := by
  unfold setO
  exact Nat.le_trans (Go.Proofs.YtmoecidfmgeafaaDoor.CompO.comp_le _ _) (Nat.le_of_eq (sortO_len l))
theorem sort_f (l : List S25) (hl : l.length ≤ 1000) : point_Sort.f l = some (setO l) := by
  unfold point_Sort.f
  rw [if_pos (by omega)]
end Go.Proofs.YtmoecidfmgeafaaDoor.PntL
