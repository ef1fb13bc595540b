/- PointParts answers true: plain Lean over the printed definitions. -/
import Derived.Test.YtmoecidfmgeafaaDoorQPntx12
import Derived.Test.YtmoecidfmgeafaaDoorPntL
namespace Go.Proofs.YtmoecidfmgeafaaDoor.PurePointParts
open Go.RowKit Go.Sort Go.Proofs.YtmoecidfmgeafaaDoor.QPnt Go.Proofs.YtmoecidfmgeafaaDoor.PntL Go.Proofs.YtmoecidfmgeafaaDoorW.PrintWords Go.Proofs.YtmoecidfmgeafaaDoorW.PrintLast Go.Proofs.YtmoecidfmgeafaaDoorW.PrintMore
def cnt (p : S25 → Bool) (a : List S25) (k : Nat) : Nat := ((a.take k).filter p).length
theorem cnt_all (p : S25 → Bool) (a : List S25) : cnt p a a.length = (a.filter p).length := by unfold cnt; rw [List.take_length]
theorem cnt_le (p : S25 → Bool) (a : List S25) (k : Nat) : cnt p a k ≤ a.length := by
  unfold cnt
  refine Nat.le_trans (List.length_filter_le _ _) ?_
  rw [List.length_take]
  omega
theorem cnt_yes {p : S25 → Bool} {a : List S25} {k : Nat} (h : k < a.length) (hp : p a[k] = true) : cnt p a (k + 1) = cnt p a k + 1 := by
  unfold cnt
  rw [List.take_succ_eq_append_getElem h, List.filter_append, List.filter_cons, if_pos hp]
  simp
theorem cnt_no {p : S25 → Bool} {a : List S25} {k : Nat} (h : k < a.length) (hp : p a[k] = false) : cnt p a (k + 1) = cnt p a k := by
  unfold cnt
  rw [List.take_succ_eq_append_getElem h, List.filter_append, List.filter_cons, hp]
  simp
theorem at_cnt {p : S25 → Bool} {a : List S25} {k : Nat} (h : k < a.length) (hp : p a[k] = true) : ∃ hl : cnt p a k < (a.filter p).length, (a.filter p)[cnt p a k] = a[k] := by
  have e : a.filter p = (a.take k).filter p ++ a[k] :: (a.drop (k + 1)).filter p := by
    conv => lhs; rw [← List.take_append_drop k a]
    rw [List.filter_append, List.drop_eq_getElem_cons h, List.filter_cons, if_pos hp]
  have hl : cnt p a k < (a.filter p).length := by
    rw [e]
    unfold cnt
    simp
  refine ⟨hl, ?_⟩
  have h2 : (a.filter p)[cnt p a k]? = some a[k] := by
    rw [e]
    unfold cnt
    rw [List.getElem?_append_right (Nat.le_refl _), Nat.sub_self]
    rfl
  rw [List.getElem?_eq_getElem hl] at h2
  exact Option.some.inj h2
theorem stepA (k : Nat) (a b x y : List S25) (ci cj i : Nat) (hl : a.length ≤ 40) (hb : b.length ≤ 40) (hk : b.length < k) (hi : i < a.length) (hc : ci ≤ 40) (hm : a[i] ∈ b) (q1 : ci < x.length) (q2 : x[ci] = a[i]) :
    coraclelaw3_PointParts.l0 (k + 2) a b x y ci cj i = coraclelaw3_PointParts.l0 k a b x y ((ci + 1 : Nat) : Int) cj ((i + 1 : Nat) : Int) := by
  have hh := has_f (k + 1) b a[i] (by omega) (by omega)
  rw [hasF] at hh
  rw [coraclelaw3_PointParts.l0, if_pos (by omega), if_pos (by omega), if_pos (by omega), if_pos (by omega), rd25 x ci q1, rd25 a i hi, q2, eqx a[i] a[i], decide_eq_true rfl, if_pos rfl, hh, Option.bind_some, decide_eq_true hm, coraclelaw3_PointParts.j2, if_pos rfl, w64 (n := (i : Int) + 1) (by omega) (by omega), w64 (n := (ci : Int) + 1) (by omega) (by omega)]
  rfl
theorem stepJ (k : Nat) (a b x y : List S25) (ci cj i : Nat) (hl : a.length ≤ 40) (hb : b.length ≤ 40) (hk : b.length < k) (hi : i < a.length) (hc : cj ≤ 40) (hm : ¬ a[i] ∈ b) (q1 : cj < y.length) (q2 : y[cj] = a[i]) :
    coraclelaw3_PointParts.j2 (k + 1) a b x y ci cj i false = coraclelaw3_PointParts.l0 k a b x y ci ((cj + 1 : Nat) : Int) ((i + 1 : Nat) : Int) := by
  have hh := has_f k b a[i] (by omega) (by omega)
  rw [hasF] at hh
  rw [coraclelaw3_PointParts.j2, if_neg (by decide), if_pos (by omega), if_pos (by omega), if_pos (by omega), if_pos (by omega), rd25 y cj q1, rd25 a i hi, q2, eqx a[i] a[i], decide_eq_true rfl, if_pos rfl, hh, Option.bind_some, decide_eq_false hm, if_neg (by decide), w64 (n := (i : Int) + 1) (by omega) (by omega), w64 (n := (cj : Int) + 1) (by omega) (by omega)]
  rfl
theorem stepB (k : Nat) (a b x y : List S25) (ci cj i : Nat) (hl : a.length ≤ 40) (hb : b.length ≤ 40) (hk : b.length < k) (hi : i < a.length) (hc : cj ≤ 40) (hm : ¬ a[i] ∈ b) (hx : ∀ v ∈ x, v ∈ b) (q1 : cj < y.length) (q2 : y[cj] = a[i]) :
    coraclelaw3_PointParts.l0 (k + 2) a b x y ci cj i = coraclelaw3_PointParts.l0 k a b x y ci ((cj + 1 : Nat) : Int) ((i + 1 : Nat) : Int) := by
  have J := stepJ k a b x y ci cj i hl hb hk hi hc hm q1 q2
  rw [coraclelaw3_PointParts.l0, if_pos (by omega)]
  by_cases hcc : (ci : Int) < (x.length : Int)
  · have hc2 : ci < x.length := by omega
    have ne : x[ci] ≠ a[i] := fun e => hm (e ▸ hx _ (List.getElem_mem hc2))
    rw [if_pos hcc, if_pos (by omega), if_pos (by omega), rd25 x ci hc2, rd25 a i hi, eqx x[ci] a[i], decide_eq_false ne, if_neg (by decide)]
    exact J
  · rw [if_neg hcc]
    exact J
set_option maxHeartbeats 4000000 in
theorem body (a b : List S25) (hl : a.length ≤ 40) (hb : b.length ≤ 40) : ∀ m i k, i + m = a.length → 2 * m + 300 < k →
    coraclelaw3_PointParts.l0 k a b (a.filter fun v => decide (v ∈ b)) (a.filter fun v => !decide (v ∈ b)) (cnt (fun v => decide (v ∈ b)) a i) (cnt (fun v => !decide (v ∈ b)) a i) i = some true := by
  have hx : (a.filter fun v => decide (v ∈ b)).length ≤ a.length := List.length_filter_le _ _
  have hy : (a.filter fun v => !decide (v ∈ b)).length ≤ a.length := List.length_filter_le _ _
  intro m
  induction m with
  | zero =>
    intro i k hi hk
    obtain ⟨k, rfl⟩ : ∃ j, k = j + 1 := ⟨k - 1, by omega⟩
    obtain rfl : i = a.length := by omega
    have hp : ((a.filter fun v => decide (v ∈ b)) ++ a.filter fun v => !decide (v ∈ b)).Perm a := List.filter_append_perm (fun v => decide (v ∈ b)) a
    obtain ⟨r, f1, g1⟩ := alike_f k ((a.filter fun v => decide (v ∈ b)) ++ a.filter fun v => !decide (v ∈ b)) a (by rw [hp.length_eq]; omega) (by omega) (by rw [hp.length_eq]; omega)
    obtain rfl : r = true := g1.2 hp
    have e1 : (a.filter fun v => !decide (v ∈ b)).filter (fun v => decide (v ∈ b)) = [] := by
      rw [List.filter_eq_nil_iff]
      intro x hx
      have := (List.mem_filter.1 hx).2
      simpa using this
    rw [coraclelaw3_PointParts.l0, if_neg (by omega), cnt_all, cnt_all, if_pos rfl, if_pos rfl, Option.bind_some, if_pos (by simp only [List.length_nil]; omega), Option.bind_some, List.nil_append, if_pos (by omega), f1, Option.bind_some, if_pos rfl, both_f k _ b (by omega) (by omega) (by omega), Option.bind_some, e1, if_pos (by simp)]
    rfl
  | succ m ih =>
    intro i k hi hk
    obtain ⟨k, rfl⟩ : ∃ j, k = j + 1 := ⟨k - 1, by omega⟩
    obtain ⟨k2, rfl⟩ : ∃ j, k = j + 1 := ⟨k - 1, by omega⟩
    have hia : i < a.length := by omega
    have c1 := cnt_le (fun v => decide (v ∈ b)) a i
    have c2 := cnt_le (fun v => !decide (v ∈ b)) a i
    have nx := ih (i + 1) k2 (by omega) (by omega)
    by_cases hm : a[i] ∈ b
    · obtain ⟨q1, q2⟩ := at_cnt (p := fun v => decide (v ∈ b)) hia (decide_eq_true hm)
      rw [cnt_yes (p := fun v => decide (v ∈ b)) hia (decide_eq_true hm), cnt_no (p := fun v => !decide (v ∈ b)) hia (by simp [hm])] at nx
      rw [stepA k2 a b _ _ _ _ i hl hb (by omega) hia (by omega) hm q1 q2]
      exact nx
    · obtain ⟨q1, q2⟩ := at_cnt (p := fun v => !decide (v ∈ b)) hia (by simp [hm])
      rw [cnt_no (p := fun v => decide (v ∈ b)) hia (decide_eq_false hm), cnt_yes (p := fun v => !decide (v ∈ b)) hia (by simp [hm])] at nx
      rw [stepB k2 a b _ _ _ _ i hl hb (by omega) hia (by omega) hm (fun v hv => of_decide_eq_true (List.mem_filter.1 hv).2) q1 q2]
      exact nx
theorem law (a b : List S25) : coraclelaw3_PointParts.f 500 a b = some true := by
  unfold coraclelaw3_PointParts.f
  by_cases h : (a.length : Int) > 40
  · rw [if_pos h, coraclelaw3_PointParts.j0, if_pos rfl]
    rfl
  rw [if_neg h]
  by_cases h2 : (b.length : Int) > 40
  · rw [decide_eq_true h2, coraclelaw3_PointParts.j0, if_pos rfl]
    rfl
  rw [decide_eq_false h2, coraclelaw3_PointParts.j0, if_neg (by decide), both_f 499 a b (by omega) (by omega) (by omega), Option.bind_some, minus_f 499 a b (by omega) (by omega) (by omega), Option.bind_some]
  exact body a b (by omega) (by omega) a.length 0 499 (by omega) (by omega)
theorem told {k : Nat} {a b : List S25} {r : Bool} (h : coraclelaw3_PointParts.f k a b = some r) : r = true := by
  have hu : ∀ {k0 : Nat} {r : Bool}, coraclelaw3_PointParts.f k0 a b = some r → ∀ k, k0 ≤ k → coraclelaw3_PointParts.f k a b = some r := fun h => up (f := fun k => coraclelaw3_PointParts.f k a b) (fun k => coraclelaw3_PointParts.mono a b k) h
  have h1 := hu h (k + 500) (by omega)
  have h2 := hu (law a b) (k + 500) (by omega)
  rw [h1] at h2
  exact Option.some.inj h2
end Go.Proofs.YtmoecidfmgeafaaDoor.PurePointParts
