/- The model's '==' of two arrays of whole numbers is the lists' own '=='. -/
import Derived.Test.YtmoecidfmgeafaaDoorWEqStruct
import Derived.RowKit
namespace Go.Proofs.YtmoecidfmgeafaaDoor.ArrW
open Go.RowKit
variable {P : Program}
theorem arr_eqD (D : Nat) (t el : TypeId) (k : IntKind) (n : Nat) (w : World) (l m : List Int) (hl : l.length = n) (hm : m.length = n)
    (ht : P.underlying t = some (.array n el)) (hD : ∀ a b, (Op.equalIn D el (.int k a) (.int k b)).run P w = .ok (a == b) w)
    (ha : (isAgg el).run P w = .ok false w) (hz : (Go.sizeOf el).run P w = .ok 1 w) :
    (Op.equalIn (D + 1) t (.agg (l.map (Value.int k)).toArray) (.agg (m.map (Value.int k)).toArray)).run P w = .ok (l == m) w := by
  simp only [Op.equalIn, Sem.run_bind, run_underlying ht, Result.andThen_ok, hz, Nat.mul_one]
  rw [Std.Legacy.Range.forIn_eq_forIn_range']
  have hpart : ∀ (z : List Int) (i : Nat) (h : i < z.length), (part el (z.map (Value.int k)).toArray i).run P w = .ok (.int k z[i]) w := by
    intro z i h
    simp only [part, Sem.run_bind, ha, Result.andThen_ok, Bool.false_eq_true, if_false]
    simp [h]
  have key : ∀ (j s : Nat), s + j = n → (forIn (List.range' s j 1) ((none, ()) : Option Bool × Unit) fun i _ => do
            let a ← part el (l.map (Value.int k)).toArray i
            let b ← part el (m.map (Value.int k)).toArray i
            let r ← Op.equalIn D el a b
            if (!r) = true then pure (ForInStep.done (some false, ())) else pure (ForInStep.yield (none, ())) : Sem (Option Bool × Unit)).run P w
        = .ok (if l.drop s == m.drop s then (none, ()) else (some false, ())) w := by
    intro j
    induction j with
    | zero =>
      intro s hs
      simp [List.drop_eq_nil_of_le (show l.length ≤ s by omega), List.drop_eq_nil_of_le (show m.length ≤ s by omega)]
    | succ j ih =>
      intro s hs
      have h1 : s < l.length := by omega
      have h2 : s < m.length := by omega
      simp only [List.range'_succ, List.forIn_cons, Sem.run_bind, hpart l s h1, hpart m s h2, Result.andThen_ok, hD]
      rw [List.drop_eq_getElem_cons h1, List.drop_eq_getElem_cons h2]
      by_cases e : l[s] = m[s]
      · have e' : (l[s] == m[s]) = true := by simpa using e
        simp only [e', Bool.not_true, Bool.false_eq_true, if_false, Sem.run_pure, Result.andThen_ok]
        rw [ih (s + 1) (by omega)]
        rw [List.cons_beq_cons, e', Bool.true_and]
      · have e' : (l[s] == m[s]) = false := by simpa using e
        simp only [e', Bool.not_false, if_true, Sem.run_pure, Result.andThen_ok]
        rw [List.cons_beq_cons, e', Bool.false_and]
        rfl
  have h := key n 0 (by omega)
  simp only [Std.Legacy.Range.size, Nat.sub_zero, Nat.add_sub_cancel, Nat.div_one] at *
  rw [h]
  simp only [List.drop_zero, Result.andThen_ok]
  cases hq : (l == m)
  · simp
  · simp
/-- At an array whose elements are whole numbers. -/
theorem arr_eq (d : Nat) (t el : TypeId) (k k' : IntKind) (n : Nat) (w : World) (l m : List Int) (hl : l.length = n) (hm : m.length = n)
    (ht : P.underlying t = some (.array n el)) (he : P.underlying el = some (.int k'))
    (ha : ∀ w, (isAgg el).run P w = .ok false w) (hz : ∀ w, (Go.sizeOf el).run P w = .ok 1 w) :
    (Op.equalIn (d + 2) t (.agg (l.map (Value.int k)).toArray) (.agg (m.map (Value.int k)).toArray)).run P w = .ok (l == m) w :=
  arr_eqD (d + 1) t el k n w l m hl hm ht (fun a b => run_equalIn_int w d el k k' a b he) (ha w) (hz w)
end Go.Proofs.YtmoecidfmgeafaaDoor.ArrW
