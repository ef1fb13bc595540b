/- PointSets answers true: plain Lean, no program in sight. The bytes of the first list are bytes. -/
import Derived.Lib.Bytes
import Derived.Test.YtmoecidfmgeafaaDoorQPntx5
import Derived.Test.YtmoecidfmgeafaaDoorQPntx6
import Derived.Test.YtmoecidfmgeafaaDoorQPntx8
import Derived.Test.YtmoecidfmgeafaaDoorQPntx4
import Derived.Test.YtmoecidfmgeafaaDoorQPntx9
import Derived.Test.YtmoecidfmgeafaaDoorPntL
namespace Go.Proofs.YtmoecidfmgeafaaDoor.PurePointSets
open Go.RowKit Go.Sort Go.Proofs.YtmoecidfmgeafaaDoor.QPnt Go.Proofs.YtmoecidfmgeafaaDoor.PntL Go.Proofs.YtmoecidfmgeafaaDoorW.PrintWords Go.Proofs.YtmoecidfmgeafaaDoorW.PrintLast Go.Proofs.YtmoecidfmgeafaaDoorW.PrintMore
/-! ### From some fuel on -/
def Big {α : Type} (F : Nat → Option α) (r : α) : Prop := ∃ k0, ∀ k, k0 ≤ k → F k = some r
theorem Big.of {α : Type} {F : Nat → Option α} {r : α} (k0 : Nat) (h : ∀ k, k0 ≤ k → F k = some r) : Big F r := ⟨k0, h⟩
theorem Big.step {α : Type} {F G : Nat → Option α} {r : α} (h : Big G r) (e : ∀ k, F (k + 1) = G k) : Big F r := by
  obtain ⟨k0, h⟩ := h
  refine ⟨k0 + 1, fun k hk => ?_⟩
  obtain ⟨j, rfl⟩ : ∃ j, k = j + 1 := ⟨k - 1, by omega⟩
  rw [e]
  exact h j (by omega)
theorem Big.bind {α β : Type} {F : Nat → Option β} {G : Nat → β → Option α} {y : β} {r : α} (h : Big F y) (h2 : Big (fun k => G k y) r) : Big (fun k => (F k).bind (G k)) r := by
  obtain ⟨k0, h⟩ := h
  obtain ⟨k1, h2⟩ := h2
  refine ⟨k0 + k1, fun k hk => ?_⟩
  show (F k).bind (G k) = some r
  rw [h k (by omega), Option.bind_some]
  exact h2 k (by omega)
theorem Big.pure {α : Type} (r : α) : Big (fun _ => some r) r := ⟨0, fun _ _ => rfl⟩
/-! ### Bytes -/
instance (x y : S25) : Decidable (lt x y) := by unfold lt; infer_instance
def wfB (x : S25) : Prop := ∀ v ∈ bsO x, 0 ≤ v ∧ v < 256
theorem u8_lt {a b : Int} (ha : 0 ≤ a ∧ a < 256) (hb : 0 ≤ b ∧ b < 256) : (UInt8.ofNat a.toNat < UInt8.ofNat b.toNat) ↔ a < b := by
  rw [UInt8.lt_iff_toNat_lt, UInt8.toNat_ofNat', UInt8.toNat_ofNat', Nat.mod_eq_of_lt (by omega), Nat.mod_eq_of_lt (by omega)]
  omega
theorem u8_eq {a b : Int} (ha : 0 ≤ a ∧ a < 256) (hb : 0 ≤ b ∧ b < 256) : (UInt8.ofNat a.toNat = UInt8.ofNat b.toNat) ↔ a = b := by
  rw [← UInt8.toNat_inj, UInt8.toNat_ofNat', UInt8.toNat_ofNat', Nat.mod_eq_of_lt (by omega), Nat.mod_eq_of_lt (by omega)]
  omega
theorem bl : ∀ (xs ys : List Int), xs.length = ys.length → (∀ v ∈ xs, 0 ≤ v ∧ v < 256) → (∀ v ∈ ys, 0 ≤ v ∧ v < 256) →
    Op.bytesLess (xs.map fun n => UInt8.ofNat n.toNat) (ys.map fun n => UInt8.ofNat n.toNat) = decide (Go.Proofs.YtmoecidfmgeafaaDoor.OrdO.lcmp xs ys < 0)
  | [], [], _, _, _ => rfl
  | [], _ :: _, h, _, _ => by simp at h
  | _ :: _, [], h, _, _ => by simp at h
  | a :: xs, b :: ys, h, hx, hy => by
    have ih := bl xs ys (by simpa using h) (fun v hv => hx v (List.mem_cons_of_mem _ hv)) (fun v hv => hy v (List.mem_cons_of_mem _ hv))
    have ha := hx a List.mem_cons_self
    have hb := hy b List.mem_cons_self
    rw [List.map_cons, List.map_cons, Op.bytesLess, ih, Go.Proofs.YtmoecidfmgeafaaDoor.OrdO.lcmp]
    unfold Go.Proofs.YtmoecidfmgeafaaDoor.OrdO.cmp3
    by_cases h1 : a < b
    · simp [(u8_lt ha hb).2 h1, h1]
    · by_cases h2 : b < a
      · have h3 : ¬ (UInt8.ofNat a.toNat < UInt8.ofNat b.toNat) := fun h => h1 ((u8_lt ha hb).1 h)
        have h4 : ¬ (UInt8.ofNat a.toNat = UInt8.ofNat b.toNat) := fun h => by have := (u8_eq ha hb).1 h; omega
        simp [h1, h2, h3, h4]
      · obtain rfl : a = b := by omega
        simp
theorem neq32 (x y : S25) : (!(x.f0.f0 == y.f0.f0) || (!(x.f0.f1 == y.f0.f1) || (!(x.f0.f2 == y.f0.f2) || (!(x.f0.f3 == y.f0.f3) || (!(x.f0.f4 == y.f0.f4) || (!(x.f0.f5 == y.f0.f5) || (!(x.f0.f6 == y.f0.f6) || (!(x.f0.f7 == y.f0.f7) || (!(x.f0.f8 == y.f0.f8) || (!(x.f0.f9 == y.f0.f9) || (!(x.f0.f10 == y.f0.f10) || (!(x.f0.f11 == y.f0.f11) || (!(x.f0.f12 == y.f0.f12) || (!(x.f0.f13 == y.f0.f13) || (!(x.f0.f14 == y.f0.f14) || (!(x.f0.f15 == y.f0.f15) || (!(x.f0.f16 == y.f0.f16) || (!(x.f0.f17 == y.f0.f17) || (!(x.f0.f18 == y.f0.f18) || (!(x.f0.f19 == y.f0.f19) || (!(x.f0.f20 == y.f0.f20) || (!(x.f0.f21 == y.f0.f21) || (!(x.f0.f22 == y.f0.f22) || (!(x.f0.f23 == y.f0.f23) || (!(x.f0.f24 == y.f0.f24) || (!(x.f0.f25 == y.f0.f25) || (!(x.f0.f26 == y.f0.f26) || (!(x.f0.f27 == y.f0.f27) || (!(x.f0.f28 == y.f0.f28) || (!(x.f0.f29 == y.f0.f29) || (!(x.f0.f30 == y.f0.f30) || (!(x.f0.f31 == y.f0.f31))))))))))))))))))))))))))))))))) = !decide (bsO x = bsO y) := by
  have : decide (bsO x = bsO y) = (x.f0.f0 == y.f0.f0 && (x.f0.f1 == y.f0.f1 && (x.f0.f2 == y.f0.f2 && (x.f0.f3 == y.f0.f3 && (x.f0.f4 == y.f0.f4 && (x.f0.f5 == y.f0.f5 && (x.f0.f6 == y.f0.f6 && (x.f0.f7 == y.f0.f7 && (x.f0.f8 == y.f0.f8 && (x.f0.f9 == y.f0.f9 && (x.f0.f10 == y.f0.f10 && (x.f0.f11 == y.f0.f11 && (x.f0.f12 == y.f0.f12 && (x.f0.f13 == y.f0.f13 && (x.f0.f14 == y.f0.f14 && (x.f0.f15 == y.f0.f15 && (x.f0.f16 == y.f0.f16 && (x.f0.f17 == y.f0.f17 && (x.f0.f18 == y.f0.f18 && (x.f0.f19 == y.f0.f19 && (x.f0.f20 == y.f0.f20 && (x.f0.f21 == y.f0.f21 && (x.f0.f22 == y.f0.f22 && (x.f0.f23 == y.f0.f23 && (x.f0.f24 == y.f0.f24 && (x.f0.f25 == y.f0.f25 && (x.f0.f26 == y.f0.f26 && (x.f0.f27 == y.f0.f27 && (x.f0.f28 == y.f0.f28 && (x.f0.f29 == y.f0.f29 && (x.f0.f30 == y.f0.f30 && (x.f0.f31 == y.f0.f31)))))))))))))))))))))))))))))))) := by
    rw [Bool.eq_iff_iff, decide_eq_true_iff]
    simp only [bsO, List.cons.injEq, and_true, Bool.and_eq_true, beq_iff_eq]
  rw [this]
  simp only [Bool.not_and]
def plessF (x y : S25) : Option Bool := coracleref1_PointLess.f x.f0.f0 x.f0.f1 x.f0.f2 x.f0.f3 x.f0.f4 x.f0.f5 x.f0.f6 x.f0.f7 x.f0.f8 x.f0.f9 x.f0.f10 x.f0.f11 x.f0.f12 x.f0.f13 x.f0.f14 x.f0.f15 x.f0.f16 x.f0.f17 x.f0.f18 x.f0.f19 x.f0.f20 x.f0.f21 x.f0.f22 x.f0.f23 x.f0.f24 x.f0.f25 x.f0.f26 x.f0.f27 x.f0.f28 x.f0.f29 x.f0.f30 x.f0.f31 x.f1 y.f0.f0 y.f0.f1 y.f0.f2 y.f0.f3 y.f0.f4 y.f0.f5 y.f0.f6 y.f0.f7 y.f0.f8 y.f0.f9 y.f0.f10 y.f0.f11 y.f0.f12 y.f0.f13 y.f0.f14 y.f0.f15 y.f0.f16 y.f0.f17 y.f0.f18 y.f0.f19 y.f0.f20 y.f0.f21 y.f0.f22 y.f0.f23 y.f0.f24 y.f0.f25 y.f0.f26 y.f0.f27 y.f0.f28 y.f0.f29 y.f0.f30 y.f0.f31 y.f1
theorem pless (x y : S25) (hx : wfB x) (hy : wfB y) : plessF x y = some (decide (lt x y)) := by
  unfold plessF coracleref1_PointLess.f
  rw [neq32 x y]
  by_cases e : bsO x = bsO y
  · rw [decide_eq_true e, if_neg (by decide)]
    congr 1
    rw [Bool.eq_iff_iff, decide_eq_true_iff, decide_eq_true_iff]
    unfold lt Go.Proofs.YtmoecidfmgeafaaDoor.OrdO.ocmp
    rw [e, if_pos (Go.Proofs.YtmoecidfmgeafaaDoor.SortO.lcmp_self _)]
    exact Go.Proofs.YtmoecidfmgeafaaDoor.SortO.cmp3_neg.symm
  · rw [decide_eq_false e, if_pos (by decide)]
    have hl : coracleref1_Less.f x.f0.f0 x.f0.f1 x.f0.f2 x.f0.f3 x.f0.f4 x.f0.f5 x.f0.f6 x.f0.f7 x.f0.f8 x.f0.f9 x.f0.f10 x.f0.f11 x.f0.f12 x.f0.f13 x.f0.f14 x.f0.f15 x.f0.f16 x.f0.f17 x.f0.f18 x.f0.f19 x.f0.f20 x.f0.f21 x.f0.f22 x.f0.f23 x.f0.f24 x.f0.f25 x.f0.f26 x.f0.f27 x.f0.f28 x.f0.f29 x.f0.f30 x.f0.f31 y.f0.f0 y.f0.f1 y.f0.f2 y.f0.f3 y.f0.f4 y.f0.f5 y.f0.f6 y.f0.f7 y.f0.f8 y.f0.f9 y.f0.f10 y.f0.f11 y.f0.f12 y.f0.f13 y.f0.f14 y.f0.f15 y.f0.f16 y.f0.f17 y.f0.f18 y.f0.f19 y.f0.f20 y.f0.f21 y.f0.f22 y.f0.f23 y.f0.f24 y.f0.f25 y.f0.f26 y.f0.f27 y.f0.f28 y.f0.f29 y.f0.f30 y.f0.f31 = some (Op.bytesLess (strOfNums (bsO x)).toList (strOfNums (bsO y)).toList) := rfl
    rw [hl, Option.bind_some, Lib.strOfNums_toList, Lib.strOfNums_toList]
    have hb := bl (bsO x) (bsO y) rfl hx hy
    congr 1
    refine hb.trans ?_
    rw [Bool.eq_iff_iff, decide_eq_true_iff, decide_eq_true_iff]
    unfold lt Go.Proofs.YtmoecidfmgeafaaDoor.OrdO.ocmp
    rw [if_neg (fun h => e (Go.Proofs.YtmoecidfmgeafaaDoor.SortO.lcmp_zero h))]
/-! ### Sorted -/
theorem ins_ok {out : List S25} {y : S25} {n : Nat} (hn : n ≤ out.length) (hs : out.Pairwise lt) (h1 : ∀ j (h : j < out.length), j < n → lt out[j] y) (h2 : ∀ j (h : j < out.length), n ≤ j → lt y out[j]) :
    (out.take n ++ [y] ++ out.drop n).Pairwise lt ∧ (∀ z, z ∈ out.take n ++ [y] ++ out.drop n ↔ z ∈ out ∨ z = y) := by
  have ht : ∀ z ∈ out.take n, lt z y := fun z hz => by
    obtain ⟨j, hj, e⟩ := List.getElem_of_mem hz
    rw [List.length_take] at hj
    rw [List.getElem_take] at e
    rw [← e]
    exact h1 j (by omega) (by omega)
  have hd : ∀ z ∈ out.drop n, lt y z := fun z hz => by
    obtain ⟨j, hj, e⟩ := List.getElem_of_mem hz
    rw [List.length_drop] at hj
    rw [List.getElem_drop] at e
    rw [← e]
    exact h2 (n + j) (by omega) (by omega)
  have hp := hs
  rw [← List.take_append_drop n out, List.pairwise_append] at hp
  constructor
  · rw [List.append_assoc, List.pairwise_append]
    refine ⟨hp.1, ?_, ?_⟩
    · rw [List.singleton_append, List.pairwise_cons]
      exact ⟨hd, hp.2.1⟩
    · intro a ha b hb
      rw [List.singleton_append, List.mem_cons] at hb
      rcases hb with rfl | hb
      · exact ht a ha
      · exact hp.2.2 a ha b hb
  · intro z
    have hm : z ∈ out ↔ z ∈ out.take n ∨ z ∈ out.drop n := by
      conv => lhs; rw [← List.take_append_drop n out]
      exact List.mem_append
    rw [hm]
    simp only [List.mem_append, List.mem_singleton]
    constructor
    · rintro ((h | h) | h)
      · exact .inl (.inl h)
      · exact .inr h
      · exact .inl (.inr h)
    · rintro ((h | h) | h)
      · exact .inl (.inl h)
      · exact .inr h
      · exact .inl (.inr h)
section
variable (l : List S25) (hl : l.length ≤ 1000) (hw : ∀ x ∈ l, wfB x)
def Next (l : List S25) (i : Nat) : Prop := ∀ out : List S25, out.Pairwise lt → (∀ z, z ∈ out ↔ z ∈ l.take (i + 1)) → out.length ≤ i + 1 → Big (fun k => coracleref1_Sorted.l0 k l out ((i + 1 : Nat) : Int)) (setO l)
include hl
theorem put_in {out : List S25} {i n : Nat} (hi : i < l.length) (nx : Next l i) (hs : out.Pairwise lt) (hm : ∀ z, z ∈ out ↔ z ∈ l.take i) (ho : out.length ≤ i) (hn : n ≤ out.length) (h1 : ∀ j (h : j < out.length), j < n → lt out[j] l[i]) (h2 : ∀ j (h : j < out.length), n ≤ j → lt l[i] out[j]) :
    Big (fun k => coracleref1_Sorted.l0 k l (([] ++ out.take n ++ [l[i]]) ++ out.drop n) (wrap64 ((i : Int) + 1))) (setO l) := by
  obtain ⟨s1, s2⟩ := ins_ok hn hs h1 h2
  rw [w64 (n := (i : Int) + 1) (by omega) (by omega), List.nil_append]
  refine nx _ s1 (fun z => ?_) ?_
  · rw [s2, hm, List.take_succ_eq_append_getElem hi, List.mem_append, List.mem_singleton]
  · simp only [List.length_append, List.length_take, List.length_drop, List.length_cons, List.length_nil]
    omega
include hw
theorem ins {out : List S25} {i : Nat} (hi : i < l.length) (nx : Next l i) (hs : out.Pairwise lt) (hm : ∀ z, z ∈ out ↔ z ∈ l.take i) (ho : out.length ≤ i) : ∀ n, n ≤ out.length → (∀ j (h : j < out.length), n ≤ j → lt l[i] out[j]) →
    Big (fun k => coracleref1_Sorted.l1 k l out i n) (setO l) := by
  have hiw := hw l[i] (List.getElem_mem hi)
  intro n
  induction n with
  | zero =>
    intro hn h2
    refine Big.step (G := fun k => coracleref1_Sorted.j2 k l out i ((0 : Nat) : Int) false) ?_ (fun k => by rw [coracleref1_Sorted.l1, if_neg (by omega)])
    refine Big.step (put_in l hl hi nx hs hm ho hn (fun j _ h => by omega) h2) (fun k => ?_)
    rw [coracleref1_Sorted.j2, if_neg (by decide), if_pos (show ((0 : Nat) : Int) = 0 from rfl), Option.bind_some, if_pos (by omega), if_pos (by omega), Option.bind_some, if_pos (by simp only [List.length_nil, List.length_take]; omega), Option.bind_some, if_pos (by omega), if_pos (by omega), if_pos (by simp only [List.nil_append, List.length_take]; omega), Option.bind_some, Option.bind_some,
      if_pos (by simp only [List.nil_append, List.length_append, List.length_take, List.length_drop, List.length_cons, List.length_nil]; omega), rd25 l i hi]
    rfl
  | succ n ih =>
    intro hn h2
    have hno : n < out.length := by omega
    have hwo : wfB out[n] := hw _ (List.mem_of_mem_take ((hm _).1 (List.getElem_mem hno)))
    have wn : wrap64 (((n + 1 : Nat) : Int) - 1) = (n : Int) := by rw [w64 (by omega) (by omega)]; omega
    have hp := pless l[i] out[n] hiw hwo
    unfold plessF at hp
    refine Big.step (G := fun k => coracleref1_Sorted.j2 k l out i ((n + 1 : Nat) : Int) (decide (lt l[i] out[n]))) ?_ (fun k => by
      rw [coracleref1_Sorted.l1, if_pos (by omega), if_pos (by omega), if_pos (by omega), wn, if_pos (by omega), if_pos (by omega), rd25 l i hi, rd25 out n hno, hp, Option.bind_some])
    by_cases c : lt l[i] out[n]
    · refine Big.step (ih (by omega) (fun j hj hnj => ?_)) (fun k => by rw [coracleref1_Sorted.j2, if_pos (decide_eq_true c), wn])
      by_cases e : j = n
      · subst e; exact c
      · exact h2 j hj (by omega)
    · by_cases e : out[n] = l[i]
      · refine Big.step (G := fun k => coracleref1_Sorted.l0 k l out (wrap64 ((i : Int) + 1))) ?_ (fun k => by
          rw [coracleref1_Sorted.j2, if_neg (by simpa using c), if_neg (by omega), wn, if_pos (by omega), if_pos (by omega), if_pos (by omega), if_pos (by omega), rd25 l i hi, rd25 out n hno, neqx out[n] l[i], decide_eq_true e, if_neg (by decide)])
        rw [w64 (n := (i : Int) + 1) (by omega) (by omega)]
        refine nx out hs (fun z => ?_) (by omega)
        rw [hm, List.take_succ_eq_append_getElem hi, List.mem_append, List.mem_singleton]
        constructor
        · exact .inl
        · rintro (h | rfl)
          · exact h
          · rw [← e]; exact (hm _).1 (List.getElem_mem hno)
      · have hlt : lt out[n] l[i] := by
          rcases lt_tri out[n] l[i] with h | h | h
          · exact h
          · exact absurd h e
          · exact absurd h c
        refine Big.step (put_in l hl hi nx hs hm ho hn (fun j hj h => ?_) h2) (fun k => ?_)
        · by_cases ej : j = n
          · subst ej; exact hlt
          · exact lt_trans (List.pairwise_iff_getElem.1 hs j n hj hno (by omega)) hlt
        · rw [coracleref1_Sorted.j2, if_neg (by simpa using c), if_neg (by omega), wn, if_pos (by omega), if_pos (by omega), if_pos (by omega), if_pos (by omega), rd25 l i hi, rd25 out n hno, neqx out[n] l[i], decide_eq_false e, if_pos (by decide),
            Option.bind_some, if_pos (by omega), if_pos (by omega), Option.bind_some, if_pos (by simp only [List.length_nil, List.length_take]; omega), Option.bind_some, if_pos (by simp only [List.nil_append, List.length_take]; omega), Option.bind_some, Option.bind_some,
            if_pos (by simp only [List.nil_append, List.length_append, List.length_take, List.length_drop, List.length_cons, List.length_nil]; omega)]
          rfl
theorem sorted_l : ∀ m i (out : List S25), i + m = l.length → out.Pairwise lt → (∀ z, z ∈ out ↔ z ∈ l.take i) → out.length ≤ i → Big (fun k => coracleref1_Sorted.l0 k l out i) (setO l) := by
  intro m
  induction m with
  | zero =>
    intro i out hi hs hm ho
    have e : out = setO l := pairwise_ext hs (setO_sorted l) (fun z => by rw [hm, setO_mem, List.take_of_length_le (by omega)])
    exact Big.step (G := fun _ => some (setO l)) (Big.pure _) (fun k => by rw [coracleref1_Sorted.l0, if_neg (by omega), e])
  | succ m ih =>
    intro i out hi hs hm ho
    refine Big.step (G := fun k => coracleref1_Sorted.l1 k l out i out.length) ?_ (fun k => by rw [coracleref1_Sorted.l0, if_pos (by omega)])
    exact ins l hl hw (by omega) (fun out' h1 h2 h3 => ih (i + 1) out' (by omega) h1 h2 h3) hs hm ho out.length (Nat.le_refl _) (fun j h hj => by omega)
theorem sorted_f : Big (fun k => coracleref1_Sorted.f k l) (setO l) :=
  sorted_l l hl hw l.length 0 [] (by omega) List.Pairwise.nil (fun z => by simp) (Nat.le_refl _)
end
/-! ### Times, Parted, Alike -/
def timesF (k : Nat) (l : List S25) (x : S25) : Option Int := coracleref1_Times.f k l x.f0.f0 x.f0.f1 x.f0.f2 x.f0.f3 x.f0.f4 x.f0.f5 x.f0.f6 x.f0.f7 x.f0.f8 x.f0.f9 x.f0.f10 x.f0.f11 x.f0.f12 x.f0.f13 x.f0.f14 x.f0.f15 x.f0.f16 x.f0.f17 x.f0.f18 x.f0.f19 x.f0.f20 x.f0.f21 x.f0.f22 x.f0.f23 x.f0.f24 x.f0.f25 x.f0.f26 x.f0.f27 x.f0.f28 x.f0.f29 x.f0.f30 x.f0.f31 x.f1
theorem times_l (l : List S25) (x : S25) (hl : l.length ≤ 1000) : ∀ m i c : Nat, i + m = l.length → c ≤ i → Big (fun k => coracleref1_Times.l0 k l c i x.f0.f0 x.f0.f1 x.f0.f2 x.f0.f3 x.f0.f4 x.f0.f5 x.f0.f6 x.f0.f7 x.f0.f8 x.f0.f9 x.f0.f10 x.f0.f11 x.f0.f12 x.f0.f13 x.f0.f14 x.f0.f15 x.f0.f16 x.f0.f17 x.f0.f18 x.f0.f19 x.f0.f20 x.f0.f21 x.f0.f22 x.f0.f23 x.f0.f24 x.f0.f25 x.f0.f26 x.f0.f27 x.f0.f28 x.f0.f29 x.f0.f30 x.f0.f31 x.f1) ((c + (l.drop i).count x : Nat) : Int) := by
  intro m
  induction m with
  | zero =>
    intro i c hi hc
    refine Big.step (Big.pure _) (fun k => ?_)
    rw [coracleref1_Times.l0, if_neg (by omega), List.drop_of_length_le (by omega)]
    rfl
  | succ m ih =>
    intro i c hi hc
    have hd : l.drop i = l[i] :: l.drop (i + 1) := List.drop_eq_getElem_cons (by omega)
    by_cases e : l[i] = x
    · have i1 := ih (i + 1) (c + 1) (by omega) (by omega)
      rw [hd, e, List.count_cons_self, show c + ((l.drop (i + 1)).count x + 1) = c + 1 + (l.drop (i + 1)).count x by omega]
      refine Big.step i1 (fun k => ?_)
      rw [coracleref1_Times.l0, if_pos (by omega), if_pos (by omega), rd25 l i (by omega), eqx l[i] x, decide_eq_true e, if_pos rfl, w64 (n := (i : Int) + 1) (by omega) (by omega), w64 (n := (c : Int) + 1) (by omega) (by omega)]
      rfl
    · have i1 := ih (i + 1) c (by omega) (by omega)
      rw [hd, List.count_cons_of_ne e]
      refine Big.step i1 (fun k => ?_)
      rw [coracleref1_Times.l0, if_pos (by omega), if_pos (by omega), rd25 l i (by omega), eqx l[i] x, decide_eq_false e, if_neg (by decide), w64 (n := (i : Int) + 1) (by omega) (by omega)]
      rfl
theorem times_f (l : List S25) (x : S25) (hl : l.length ≤ 1000) : Big (fun k => timesF k l x) ((l.count x : Nat) : Int) := by
  have h := times_l l x hl l.length 0 0 (by omega) (Nat.le_refl _)
  rw [Nat.zero_add, List.drop_zero] at h
  exact h
theorem parted_l (a b : List S25) (ha : a.length ≤ 1000) (hb : b.length ≤ 1000) : ∀ m i (u v : List S25), i + m = a.length → u.length ≤ i → v.length ≤ i →
    Big (fun k => coracleref1_Parted.l0 k a b u v i) (u ++ (a.drop i).filter (fun x => decide (x ∈ b)), v ++ (a.drop i).filter (fun x => !decide (x ∈ b))) := by
  intro m
  induction m with
  | zero =>
    intro i u v hi hu hv
    refine Big.step (Big.pure _) (fun k => ?_)
    rw [coracleref1_Parted.l0, if_neg (by omega), List.drop_of_length_le (by omega)]
    simp
  | succ m ih =>
    intro i u v hi hu hv
    have hd : a.drop i = a[i] :: a.drop (i + 1) := List.drop_eq_getElem_cons (by omega)
    have ht := times_f b a[i] hb
    unfold timesF at ht
    have w := w64 (n := (i : Int) + 1) (by omega) (by omega)
    refine Big.step (G := fun k => (timesF k b a[i]).bind fun t => if t > 0 then coracleref1_Parted.l0 k a b (u ++ [a[i]]) v (wrap64 ((i : Int) + 1)) else coracleref1_Parted.l0 k a b u (v ++ [a[i]]) (wrap64 ((i : Int) + 1))) ?_ (fun k => ?_)
    · refine Big.bind ht ?_
      by_cases c : a[i] ∈ b
      · have i1 := ih (i + 1) (u ++ [a[i]]) v (by omega) (by simp; omega) (by omega)
        have hp : ((b.count a[i] : Nat) : Int) > 0 := by have := List.count_pos_iff.2 c; omega
        rw [hd, List.filter_cons, List.filter_cons, if_pos (decide_eq_true c), if_neg (by simp [c])]
        simp only [if_pos hp, w]
        rw [List.append_assoc] at i1
        exact i1
      · have i1 := ih (i + 1) u (v ++ [a[i]]) (by omega) (by omega) (by simp; omega)
        have hp : ¬ ((b.count a[i] : Nat) : Int) > 0 := by have := List.count_eq_zero.2 c; omega
        rw [hd, List.filter_cons, List.filter_cons, if_neg (by simp [c]), if_pos (by simp [c])]
        simp only [if_neg hp, w]
        rw [List.append_assoc] at i1
        exact i1
    · rw [coracleref1_Parted.l0, if_pos (by omega), if_pos (by omega), rd25 a i (by omega), if_pos (by omega), if_pos (by omega)]
      rfl
theorem parted_f (a b : List S25) (ha : a.length ≤ 1000) (hb : b.length ≤ 1000) : Big (fun k => coracleref1_Parted.f k a b) (a.filter (fun x => decide (x ∈ b)), a.filter (fun x => !decide (x ∈ b))) := by
  have h := parted_l a b ha hb a.length 0 [] [] (by omega) (by simp) (by simp)
  rw [List.nil_append, List.nil_append, List.drop_zero] at h
  exact h
theorem perm_of_counts : ∀ (a b : List S25), (∀ x ∈ a, a.count x = b.count x) → a.length = b.length → a.Perm b
  | [], b, _, hl => by
    obtain rfl := List.length_eq_zero_iff.1 hl.symm
    exact List.Perm.refl _
  | x :: a, b, h, hl => by
    have hx : x ∈ b := by
      have := h x List.mem_cons_self
      rw [List.count_cons_self] at this
      exact List.count_pos_iff.1 (by omega)
    have hp := List.perm_cons_erase hx
    refine (List.Perm.cons x (perm_of_counts a (b.erase x) (fun y hy => ?_) ?_)).trans hp.symm
    · have h1 := h y (List.mem_cons_of_mem _ hy)
      rw [hp.count_eq, List.count_cons, List.count_cons] at h1
      omega
    · have := hp.length_eq
      simp only [List.length_cons] at this hl
      omega
open Classical in
/-- Are they the same, as often each? -/
noncomputable def pm (a b : List S25) : Bool := decide (a.Perm b)
theorem pm_iff (a b : List S25) : pm a b = true ↔ a.Perm b := by unfold pm; simp
theorem alike_big (a b : List S25) (ha : a.length ≤ 1000) (hb : b.length ≤ 1000) : Big (fun k => point_Alike.f k a b) (pm a b) := Big.of (a.length + 1) (fun k hk => by
  obtain ⟨r, e, h⟩ := alike_f k a b ha hb (by omega)
  show point_Alike.f k a b = _
  rw [e]
  congr 1
  rw [Bool.eq_iff_iff, h, pm_iff])
theorem ralike_l (a b : List S25) (ha : a.length ≤ 1000) (hb : b.length ≤ 1000) : ∀ m i, i + m = a.length → (∀ x ∈ a.take i, a.count x = b.count x) → Big (fun k => coracleref1_Alike.l0 k a b i) (pm a b) := by
  intro m
  induction m with
  | zero =>
    intro i hi h
    refine Big.step (Big.pure _) (fun k => ?_)
    rw [coracleref1_Alike.l0, if_neg (by omega)]
    congr 1
    rw [Bool.eq_iff_iff, pm_iff, beq_iff_eq]
    rw [List.take_of_length_le (by omega)] at h
    exact ⟨fun e => perm_of_counts a b h (by omega), fun e => by rw [e.length_eq]⟩
  | succ m ih =>
    intro i hi h
    have hia : i < a.length := by omega
    have w := w64 (n := (i : Int) + 1) (by omega) (by omega)
    refine Big.step (G := fun k => (timesF k a a[i]).bind fun t => (timesF k b a[i]).bind fun u => if t = u then coracleref1_Alike.l0 k a b (wrap64 ((i : Int) + 1)) else some false) ?_ (fun k => ?_)
    · refine Big.bind (times_f a a[i] ha) (Big.bind (times_f b a[i] hb) ?_)
      by_cases c : a.count a[i] = b.count a[i]
      · have i1 := ih (i + 1) (by omega) (fun x hx => by
          rw [List.take_succ_eq_append_getElem hia, List.mem_append, List.mem_singleton] at hx
          rcases hx with hx | rfl
          · exact h x hx
          · exact c)
        simp only [c, if_true, w]
        exact i1
      · have hf : pm a b = false := by
          rw [Bool.eq_false_iff]
          exact fun e => c (((pm_iff a b).1 e).count_eq _)
        have c' : ¬ ((a.count a[i] : Nat) : Int) = ((b.count a[i] : Nat) : Int) := by omega
        simp only [if_neg c', hf]
        exact Big.pure _
    · rw [coracleref1_Alike.l0, if_pos (by omega), if_pos (by omega), rd25 a i hia]
      rfl
theorem ralike_f (a b : List S25) (ha : a.length ≤ 1000) (hb : b.length ≤ 1000) : Big (fun k => coracleref1_Alike.f k a b) (pm a b) := ralike_l a b ha hb a.length 0 (by omega) (fun x hx => by simp at hx)
/-! ### The law -/
def setsF (k : Nat) (a b : List S25) (p : S25) : Option Bool := coraclelaw3_PointSets.f k a b p.f0.f0 p.f0.f1 p.f0.f2 p.f0.f3 p.f0.f4 p.f0.f5 p.f0.f6 p.f0.f7 p.f0.f8 p.f0.f9 p.f0.f10 p.f0.f11 p.f0.f12 p.f0.f13 p.f0.f14 p.f0.f15 p.f0.f16 p.f0.f17 p.f0.f18 p.f0.f19 p.f0.f20 p.f0.f21 p.f0.f22 p.f0.f23 p.f0.f24 p.f0.f25 p.f0.f26 p.f0.f27 p.f0.f28 p.f0.f29 p.f0.f30 p.f0.f31 p.f1
theorem main (a b : List S25) (p : S25) (hw : ∀ x ∈ a, wfB x) (ha : a.length ≤ 60) (hb : b.length ≤ 60) : Big (fun k => coraclelaw3_PointSets.j0 k a b false p.f0.f0 p.f0.f1 p.f0.f2 p.f0.f3 p.f0.f4 p.f0.f5 p.f0.f6 p.f0.f7 p.f0.f8 p.f0.f9 p.f0.f10 p.f0.f11 p.f0.f12 p.f0.f13 p.f0.f14 p.f0.f15 p.f0.f16 p.f0.f17 p.f0.f18 p.f0.f19 p.f0.f20 p.f0.f21 p.f0.f22 p.f0.f23 p.f0.f24 p.f0.f25 p.f0.f26 p.f0.f27 p.f0.f28 p.f0.f29 p.f0.f30 p.f0.f31 p.f1) true := by
  have ht := times_f a p (by omega)
  unfold timesF at ht
  have hh : Big (fun k => hasF k a p) (decide (p ∈ a)) := Big.of (a.length + 1) (fun k hk => has_f k a p (by omega) (by omega))
  unfold hasF at hh
  refine Big.step (G := fun k => ((coracleref1_Parted.f k a b).bind fun bt => ((point_Sort.f a).bind fun t204 => ((coracleref1_Sorted.f k a).bind fun t207 => ((coraclealike_Points.f k t204 t207).bind fun t210 => (if t210 = true then ((point_Both.f k a b).bind fun t211 => ((coraclealike_Points.f k t211 bt.1).bind fun t214 => (if t214 = true then ((point_Minus.f k a b).bind fun t215 => ((coraclealike_Points.f k t215 bt.2).bind fun t218 => (if t218 = true then ((point_Alike.f k a b).bind fun t219 => ((coracleref1_Alike.f k a b).bind fun t220 => (if (t219 == t220) = true then ((point_Has.f k a p.f0.f0 p.f0.f1 p.f0.f2 p.f0.f3 p.f0.f4 p.f0.f5 p.f0.f6 p.f0.f7 p.f0.f8 p.f0.f9 p.f0.f10 p.f0.f11 p.f0.f12 p.f0.f13 p.f0.f14 p.f0.f15 p.f0.f16 p.f0.f17 p.f0.f18 p.f0.f19 p.f0.f20 p.f0.f21 p.f0.f22 p.f0.f23 p.f0.f24 p.f0.f25 p.f0.f26 p.f0.f27 p.f0.f28 p.f0.f29 p.f0.f30 p.f0.f31 p.f1).bind fun t221 => ((coracleref1_Times.f k a p.f0.f0 p.f0.f1 p.f0.f2 p.f0.f3 p.f0.f4 p.f0.f5 p.f0.f6 p.f0.f7 p.f0.f8 p.f0.f9 p.f0.f10 p.f0.f11 p.f0.f12 p.f0.f13 p.f0.f14 p.f0.f15 p.f0.f16 p.f0.f17 p.f0.f18 p.f0.f19 p.f0.f20 p.f0.f21 p.f0.f22 p.f0.f23 p.f0.f24 p.f0.f25 p.f0.f26 p.f0.f27 p.f0.f28 p.f0.f29 p.f0.f30 p.f0.f31 p.f1).bind fun t222 => (if (t221 == (decide (t222 > 0))) = true then ((coraclelaw3_awake.f).bind fun t223 => (some t223)) else (some false)))) else (some false)))) else (some false)))) else (some false)))) else (some false))))))) ?_ (fun k => by rw [coraclelaw3_PointSets.j0, if_neg (by decide)])
  have same : ∀ x : List S25, x.length ≤ 1000 → Big (fun k => coraclealike_Points.f k x x) true := fun x hx => Big.of (x.length + 1) (fun k hk => by rw [points_f k x x hx (by omega)]; simp)
  have l1 : (a.filter (fun x => decide (x ∈ b))).length ≤ a.length := List.length_filter_le _ _
  have l2 : (a.filter (fun x => !decide (x ∈ b))).length ≤ a.length := List.length_filter_le _ _
  have l3 := setO_len a
  refine Big.bind (parted_f a b (by omega) (by omega)) (Big.bind (Big.of 0 (fun _ _ => sort_f a (by omega))) (Big.bind (sorted_f a (by omega) hw) (Big.bind (same (setO a) (by omega)) ?_)))
  simp only [if_true]
  refine Big.bind (Big.of (a.length + b.length + 2) (fun k hk => both_f k a b (by omega) (by omega) (by omega))) (Big.bind (same _ (by omega)) ?_)
  simp only [if_true]
  refine Big.bind (Big.of (a.length + b.length + 2) (fun k hk => minus_f k a b (by omega) (by omega) (by omega))) (Big.bind (same _ (by omega)) ?_)
  simp only [if_true]
  refine Big.bind (alike_big a b (by omega) (by omega)) (Big.bind (ralike_f a b (by omega) (by omega)) ?_)
  simp only [beq_self_eq_true, if_true]
  refine Big.bind hh (Big.bind ht ?_)
  by_cases c : p ∈ a
  · have hp : ((a.count p : Nat) : Int) > 0 := by have := List.count_pos_iff.2 c; omega
    simp only [decide_eq_true c, decide_eq_true hp, beq_self_eq_true, if_true]
    exact Big.pure _
  · have hp : ¬ ((a.count p : Nat) : Int) > 0 := by have := List.count_eq_zero.2 c; omega
    simp only [decide_eq_false c, decide_eq_false hp, beq_self_eq_true, if_true]
    exact Big.pure _
theorem law (a b : List S25) (p : S25) (hw : ∀ x ∈ a, wfB x) : Big (fun k => setsF k a b p) true := by
  have aw : Big (fun k => coraclelaw3_PointSets.j0 k a b true p.f0.f0 p.f0.f1 p.f0.f2 p.f0.f3 p.f0.f4 p.f0.f5 p.f0.f6 p.f0.f7 p.f0.f8 p.f0.f9 p.f0.f10 p.f0.f11 p.f0.f12 p.f0.f13 p.f0.f14 p.f0.f15 p.f0.f16 p.f0.f17 p.f0.f18 p.f0.f19 p.f0.f20 p.f0.f21 p.f0.f22 p.f0.f23 p.f0.f24 p.f0.f25 p.f0.f26 p.f0.f27 p.f0.f28 p.f0.f29 p.f0.f30 p.f0.f31 p.f1) true := Big.step (Big.pure true) (fun k => by rw [coraclelaw3_PointSets.j0, if_pos rfl]; rfl)
  unfold setsF coraclelaw3_PointSets.f
  by_cases h : (a.length : Int) > 60
  · simp only [if_pos h]
    exact aw
  simp only [if_neg h]
  by_cases h2 : (b.length : Int) > 60
  · simp only [decide_eq_true h2]
    exact aw
  simp only [decide_eq_false h2]
  exact main a b p hw (by omega) (by omega)
theorem told {k : Nat} {a b : List S25} {p : S25} {r : Bool} (hw : ∀ x ∈ a, wfB x) (h : setsF k a b p = some r) : r = true := by
  obtain ⟨k0, h0⟩ := law a b p hw
  have h1 := up (f := fun k => setsF k a b p) (fun k => coraclelaw3_PointSets.mono a b p.f0.f0 p.f0.f1 p.f0.f2 p.f0.f3 p.f0.f4 p.f0.f5 p.f0.f6 p.f0.f7 p.f0.f8 p.f0.f9 p.f0.f10 p.f0.f11 p.f0.f12 p.f0.f13 p.f0.f14 p.f0.f15 p.f0.f16 p.f0.f17 p.f0.f18 p.f0.f19 p.f0.f20 p.f0.f21 p.f0.f22 p.f0.f23 p.f0.f24 p.f0.f25 p.f0.f26 p.f0.f27 p.f0.f28 p.f0.f29 p.f0.f30 p.f0.f31 p.f1 k) h (k + k0) (by omega)
  have h2 := h0 (k + k0) (by omega)
  have h3 : some r = some true := h1.symm.trans h2
  exact Option.some.inj h3
end Go.Proofs.YtmoecidfmgeafaaDoor.PurePointSets
