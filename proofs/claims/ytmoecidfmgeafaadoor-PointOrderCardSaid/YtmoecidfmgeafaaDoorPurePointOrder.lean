/- PointOrder answers true: plain Lean over the printed definitions. -/
import Derived.Test.YtmoecidfmgeafaaDoorQPntx8
import Derived.Test.YtmoecidfmgeafaaDoorPntL
namespace Go.Proofs.YtmoecidfmgeafaaDoor.PurePointOrder
open Go.RowKit Go.Sort Go.Proofs.YtmoecidfmgeafaaDoor.QPnt Go.Proofs.YtmoecidfmgeafaaDoor.PntL Go.Proofs.YtmoecidfmgeafaaDoorW.PrintWords Go.Proofs.YtmoecidfmgeafaaDoorW.PrintLast Go.Proofs.YtmoecidfmgeafaaDoorW.PrintMore
theorem less_f (x y : S25) : point_Less.f x.f0.f0 x.f0.f1 x.f0.f2 x.f0.f3 x.f0.f4 x.f0.f5 x.f0.f6 x.f0.f7 x.f0.f8 x.f0.f9 x.f0.f10 x.f0.f11 x.f0.f12 x.f0.f13 x.f0.f14 x.f0.f15 x.f0.f16 x.f0.f17 x.f0.f18 x.f0.f19 x.f0.f20 x.f0.f21 x.f0.f22 x.f0.f23 x.f0.f24 x.f0.f25 x.f0.f26 x.f0.f27 x.f0.f28 x.f0.f29 x.f0.f30 x.f0.f31 x.f1 y.f0.f0 y.f0.f1 y.f0.f2 y.f0.f3 y.f0.f4 y.f0.f5 y.f0.f6 y.f0.f7 y.f0.f8 y.f0.f9 y.f0.f10 y.f0.f11 y.f0.f12 y.f0.f13 y.f0.f14 y.f0.f15 y.f0.f16 y.f0.f17 y.f0.f18 y.f0.f19 y.f0.f20 y.f0.f21 y.f0.f22 y.f0.f23 y.f0.f24 y.f0.f25 y.f0.f26 y.f0.f27 y.f0.f28 y.f0.f29 y.f0.f30 y.f0.f31 y.f1 = some (decide (Go.Proofs.YtmoecidfmgeafaaDoor.OrdO.ocmp bsO (fun x : S25 => x.f1) x y < 0)) := rfl
theorem tail (a : List S25) (t : Int) (ha : 0 < a.length) (hl : a.length ≤ 60) (h0 : 0 ≤ t) (h1 : t ≤ a.length) : ∀ m i k, i + m = a.length → m + 200 < k → coraclelaw3_PointOrder.l1 k a (setO a) t (setO a) i = some true := by
  have hs := setO_len a
  intro m
  induction m with
  | zero =>
    intro i k hi hk
    obtain ⟨k, rfl⟩ : ∃ j, k = j + 1 := ⟨k - 1, by omega⟩
    have e1 : a.filter (fun x => !decide (x ∈ setO a)) = [] := by
      rw [List.filter_eq_nil_iff]
      intro x hx
      rw [decide_eq_true ((setO_mem a x).2 hx)]
      decide
    have e2 : a.filter (fun x => decide (x ∈ setO a)) = a := by
      rw [List.filter_eq_self]
      intro x hx
      exact decide_eq_true ((setO_mem a x).2 hx)
    have hp : a.Perm (a.drop t.toNat ++ a.take t.toNat) := by
      have := List.perm_append_comm (l₁ := a.take t.toNat) (l₂ := a.drop t.toNat)
      rwa [List.take_append_drop] at this
    obtain ⟨r1, f1, g1⟩ := alike_f k a (a.drop t.toNat ++ a.take t.toNat) (by omega) (by rw [← hp.length_eq]; omega) (by omega)
    obtain ⟨r2, f2, g2⟩ := alike_f k a (a.drop 1) (by omega) (by simp; omega) (by omega)
    have b1 : r1 = true := g1.2 hp
    have b2 : r2 = false := by
      cases r2
      · rfl
      · have := (g2.1 rfl).length_eq
        rw [List.length_drop] at this
        omega
    subst b1 b2
    have l1 : (a.drop t.toNat).length ≤ 60 := by rw [List.length_drop]; omega
    have l2 : (a.take t.toNat).length ≤ 60 := by rw [List.length_take]; omega
    rw [coraclelaw3_PointOrder.l1, if_neg (by omega), points_f k (setO a) (setO a) (by omega) (by omega), Option.bind_some, decide_eq_true rfl, if_pos rfl, minus_f k a (setO a) (by omega) (by omega) (by omega), Option.bind_some, e1, if_pos (by simp), both_f k a (setO a) (by omega) (by omega) (by omega), Option.bind_some, e2, points_f k a a (by omega) (by omega), Option.bind_some, decide_eq_true rfl, if_pos rfl, Option.bind_some, if_pos h0, if_pos h1, Option.bind_some, if_pos (by simp only [List.length_nil]; omega), Option.bind_some, Option.bind_some, List.nil_append, if_pos (by omega), f1, Option.bind_some, if_pos rfl, if_pos (by omega), f2, Option.bind_some, if_neg (by decide)]
    rfl
  | succ m ih =>
    intro i k hi hk
    obtain ⟨k, rfl⟩ : ∃ j, k = j + 1 := ⟨k - 1, by omega⟩
    have hh := has_f k (setO a) a[i] (by omega) (by omega)
    rw [hasF] at hh
    rw [coraclelaw3_PointOrder.l1, if_pos (by omega), if_pos (by omega), rd25 a i (by omega), hh, Option.bind_some, decide_eq_true ((setO_mem a _).2 (List.getElem_mem (by omega))), if_pos rfl, w64 (n := (i : Int) + 1) (by omega) (by omega)]
    exact ih (i + 1) k (by omega) (by omega)
theorem body (a : List S25) (t : Int) (ha : 0 < a.length) (hl : a.length ≤ 60) (h0 : 0 ≤ t) (h1 : t ≤ a.length) : ∀ m i k, i + m = (setO a).length → m + 300 < k → coraclelaw3_PointOrder.l0 k a (setO a) t (setO a) i = some true := by
  have hs := setO_len a
  have hso := setO_sorted a
  intro m
  induction m with
  | zero =>
    intro i k hi hk
    obtain ⟨k, rfl⟩ : ∃ j, k = j + 1 := ⟨k - 1, by omega⟩
    rw [coraclelaw3_PointOrder.l0, if_neg (by omega)]
    exact tail a t ha hl h0 h1 a.length 0 k (by omega) (by omega)
  | succ m ih =>
    intro i k hi hk
    obtain ⟨k, rfl⟩ : ∃ j, k = j + 1 := ⟨k - 1, by omega⟩
    have hh := has_f k a (setO a)[i] (by omega) (by omega)
    rw [hasF] at hh
    have hm : (setO a)[i] ∈ a := (setO_mem a _).1 (List.getElem_mem (by omega))
    have nx := ih (i + 1) k (by omega) (by omega)
    have w := w64 (n := (i : Int) + 1) (by omega) (by omega)
    cases i with
    | zero =>
      rw [coraclelaw3_PointOrder.l0, if_pos (by omega), if_neg (by omega), if_pos (by omega), rd25 (setO a) 0 (by omega), hh, Option.bind_some, decide_eq_true hm, if_pos rfl, w]
      exact nx
    | succ j =>
      have ls : lt (setO a)[j] (setO a)[j + 1] := (List.pairwise_iff_getElem.1 hso) j (j + 1) (by omega) (by omega) (by omega)
      have ls1 : Go.Proofs.YtmoecidfmgeafaaDoor.OrdO.ocmp bsO (fun x : S25 => x.f1) (setO a)[j] (setO a)[j + 1] < 0 := ls
      have ls2 : ¬ Go.Proofs.YtmoecidfmgeafaaDoor.OrdO.ocmp bsO (fun x : S25 => x.f1) (setO a)[j + 1] (setO a)[j] < 0 := lt_asymm ls
      have wj : wrap64 (((j + 1 : Nat) : Int) - 1) = (j : Int) := by rw [w64 (by omega) (by omega)]; omega
      rw [coraclelaw3_PointOrder.l0, if_pos (by omega), if_pos (by omega), wj, if_pos (by omega), if_pos (by omega), if_pos (by omega), rd25 (setO a) j (by omega), rd25 (setO a) (j + 1) (by omega), less_f, Option.bind_some, decide_eq_true ls1, if_pos rfl, less_f, Option.bind_some, decide_eq_false ls2, if_neg (by decide), hh, Option.bind_some, decide_eq_true hm, if_pos rfl, w]
      exact nx
theorem law (a : List S25) (t : Int) : coraclelaw3_PointOrder.f 400 a t = some true := by
  unfold coraclelaw3_PointOrder.f
  by_cases h : (a.length : Int) = 0
  · rw [if_pos h, coraclelaw3_PointOrder.j0, if_pos rfl]
    rfl
  rw [if_neg h]
  by_cases h2 : (a.length : Int) > 60
  · rw [decide_eq_true h2, coraclelaw3_PointOrder.j0, if_pos rfl]
    rfl
  rw [decide_eq_false h2, coraclelaw3_PointOrder.j0, if_neg (by decide)]
  obtain ⟨r, hr, r0, r1⟩ := round_f t a.length (by omega) (by omega)
  have hp : (a.drop r.toNat ++ a.take r.toNat).Perm a := by
    have := List.perm_append_comm (l₁ := a.take r.toNat) (l₂ := a.drop r.toNat)
    rw [List.take_append_drop] at this
    exact this.symm
  have hse : setO (a.drop r.toNat ++ a.take r.toNat) = setO a := pairwise_ext (setO_sorted _) (setO_sorted _) (fun z => by rw [setO_mem, setO_mem]; exact hp.mem_iff)
  have l1 : (a.drop r.toNat).length ≤ 60 := by rw [List.length_drop]; omega
  have l2 : (a.take r.toNat).length ≤ 60 := by rw [List.length_take]; omega
  rw [sort_f a (by omega), Option.bind_some, hr, Option.bind_some, Option.bind_some, if_pos r0, if_pos (by omega), Option.bind_some, if_pos (by simp only [List.length_nil]; omega), Option.bind_some, Option.bind_some, List.nil_append, if_pos (by omega), sort_f _ (by rw [hp.length_eq]; omega), Option.bind_some, hse]
  exact body a r (by omega) (by omega) r0 (by omega) (setO a).length 0 399 (by omega) (by have := setO_len a; omega)
theorem told {k : Nat} {a : List S25} {t : Int} {r : Bool} (h : coraclelaw3_PointOrder.f k a t = some r) : r = true := by
  have hu : ∀ {k0 : Nat} {r : Bool}, coraclelaw3_PointOrder.f k0 a t = some r → ∀ k, k0 ≤ k → coraclelaw3_PointOrder.f k a t = some r := fun h => up (f := fun k => coraclelaw3_PointOrder.f k a t) (fun k => coraclelaw3_PointOrder.mono a t k) h
  have h1 := hu h (k + 400) (by omega)
  have h2 := hu (law a t) (k + 400) (by omega)
  rw [h1] at h2
  exact Option.some.inj h2
end Go.Proofs.YtmoecidfmgeafaaDoor.PurePointOrder
