/- What the functions of replace answer at batches that spend outputs of one transaction: plain Lean, no program in sight. -/
import Derived.Test.YtiodebjjbgcbhaaQRepx3
import Derived.Test.YtiodebjjbgcbhaaQRepx3
import Derived.Test.YtiodebjjbgcbhaaQRepx4
import Derived.Test.YtiodebjjbgcbhaaQRepx5
import Derived.Test.YtiodebjjbgcbhaaQRepx6
import Derived.Test.YtiodebjjbgcbhaaQRepx11
import Derived.Test.YtiodebjjbgcbhaaQRepx7
import Derived.Test.YtiodebjjbgcbhaaQRepx6
import Derived.Test.YtiodebjjbgcbhaaQRepx4
import Derived.Test.YtiodebjjbgcbhaaQRepx3
namespace Go.Proofs.Ytiodebjjbgcbhaa.AlkL
open Go.RowKit Go.Sort Go.Proofs.Ytiodebjjbgcbhaa.QRep Go.Proofs.YtiodebjjbgcbhaaW.PrintWords Go.Proofs.YtiodebjjbgcbhaaW.PrintLast Go.Proofs.YtiodebjjbgcbhaaW.PrintMore
theorem w64 {n : Int} (h0 : -9223372036854775808 ≤ n) (h1 : n ≤ 9223372036854775807) : wrap64 n = n := by unfold wrap64; omega
theorem up {α : Type} {f : Nat → Option α} (hm : ∀ k, LeO (f k) (f (k + 1))) {k0 : Nat} {r : α} (h : f k0 = some r) : ∀ k, k0 ≤ k → f k = some r := by
  intro k hk
  induction hk with
  | refl => exact h
  | step _ ih => exact hm _ _ ih
/-- An outpoint of the transaction of zeros; an input that spends it; a batch of such inputs. -/
def pnt (i : Int) : S34 := (⟨(⟨0, 0, 0, 0, 0, 0, 0, 0, 0, 0, 0, 0, 0, 0, 0, 0, 0, 0, 0, 0, 0, 0, 0, 0, 0, 0, 0, 0, 0, 0, 0, 0⟩ : S32), i⟩ : S34)
def inp (i : Int) : S38 := (⟨pnt i, 0, (⟨0, 0, (⟨#[]⟩ : ByteArray)⟩ : S36)⟩ : S38)
def bat (l : List S38) : S39 := ⟨⟨l, [], 0⟩, 0, 0⟩
theorem oeq_pnt (i j : Int) : oeq (pnt i) (pnt j) = (i == j) := by simp [oeq, pnt]
theorem batches1 (k : Nat) (l : List S38) : coraclelaw18_batches.f (k + 2) [(⟨(⟨l, [], 0⟩ : S28), 0, 0⟩ : S30)] = some [bat l] := by
  simp [coraclelaw18_batches.f, coraclelaw18_batches.l0, rd_T30, bat, wrap64]
theorem rd_inp (l : List Int) (i : Nat) (h : i < l.length) : rd_T38 (l.map inp) i = inp l[i] := by
  simp [rd_T38, List.getElem?_eq_getElem h]
/-! ### Who is in the way -/
/-- Does one stand in both? -/
def meets (l m : List Int) : Bool := l.any fun i => m.contains i
theorem meets_comm (l m : List Int) : meets l m = meets m l := by
  rw [Bool.eq_iff_iff]
  simp only [meets, List.any_eq_true, List.contains_iff_mem]
  exact ⟨fun ⟨x, a, b⟩ => ⟨x, b, a⟩, fun ⟨x, a, b⟩ => ⟨x, b, a⟩⟩
theorem conflict_f (l m : List Int) : tx_Conflict.f (l.map inp) [] 0 (m.map inp) [] 0 = some (meets l m) := by
  unfold tx_Conflict.f meets
  rw [List.any_map]
  congr 2
  funext i
  show decide (0 ≤ Go.Proofs.Ytiodebjjbgcbhaa.FindQ.firstOf (fun y => oeq y.f0 (inp i).f0) (m.map inp)) = m.contains i
  rw [← Go.Proofs.Ytiodebjjbgcbhaa.FindQ.firstOf_nonneg, List.any_map, Bool.eq_iff_iff]
  simp only [List.any_eq_true, List.contains_iff_mem, Function.comp_apply]
  constructor
  · rintro ⟨x, hx, h⟩
    have h2 : oeq (pnt x) (pnt i) = true := h
    rw [oeq_pnt] at h2
    have : x = i := by simpa using h2
    exact this ▸ hx
  · intro h
    exact ⟨i, h, by show oeq (pnt i) (pnt i) = true; rw [oeq_pnt]; simp⟩
theorem conflicts_f (k : Nat) (l m : List Int) : replace_Conflicts.f (k + 2) [bat (l.map inp)] (m.map inp) [] 0 0 0 = some (if meets l m = true then [0] else []) := by
  have e : tx_Conflict.f ((rd_T39 [bat (l.map inp)] 0).f0.f0) ((rd_T39 [bat (l.map inp)] 0).f0.f1) ((rd_T39 [bat (l.map inp)] 0).f0.f2) (m.map inp) [] 0 = some (meets l m) := conflict_f l m
  unfold replace_Conflicts.f
  rw [show (([bat (l.map inp)] : List S39).length : Int) = 1 from rfl, replace_Conflicts.l0, if_pos (by decide), if_pos (by decide), if_pos (show (0 : Int) < ((([bat (l.map inp)] : List S39).length : Nat) : Int) from by show (0 : Int) < 1; decide), e]
  simp only [Option.bind_some]
  cases h : meets l m
  · rw [if_neg (by decide), if_neg (by decide), w64 (by decide) (by decide), replace_Conflicts.l0, if_neg (by decide)]
  · rw [if_pos rfl, if_pos rfl, if_pos (by decide), w64 (by decide) (by decide), replace_Conflicts.l0, if_neg (by decide)]
    rfl
theorem weight_l (l : List Int) (a : Int) (h0 : 0 ≤ a) (h1 : a ≤ 1000000) (hn : l.length ≤ 1000) : ∀ m i k, i + m = l.length → m < k → tx_Weight.l0 k a (l.map inp) l.length i = some a := by
  intro m
  induction m with
  | zero =>
    intro i k hi hk
    obtain ⟨k, rfl⟩ : ∃ j, k = j + 1 := ⟨k - 1, by omega⟩
    rw [tx_Weight.l0, if_neg (by omega)]
  | succ m ih =>
    intro i k hi hk
    obtain ⟨k, rfl⟩ : ∃ j, k = j + 1 := ⟨k - 1, by omega⟩
    rw [tx_Weight.l0, if_pos (by omega), if_pos (by omega), if_pos (by rw [List.length_map]; omega), rd_inp l i (by omega), show tx_Wit.f (inp l[i]).f2.f0 = some 0 from rfl]
    simp only [Option.bind_some]
    rw [w64 (n := a + 0) (by omega) (by omega), w64 (n := (i : Int) + 1) (by omega) (by omega), Int.add_zero]
    exact ih (i + 1) k (by omega) (by omega)
theorem weight_f (l : List Int) (k : Nat) (hn : l.length ≤ 1000) (hk : l.length < k) : tx_Weight.f k (l.map inp) [] 0 = some (40 + 164 * (l.length : Int)) := by
  unfold tx_Weight.f
  rw [List.length_map, List.length_nil, w64 (n := 41 * (l.length : Int)) (by omega) (by omega), w64 (n := 10 + 41 * (l.length : Int)) (by omega) (by omega), w64 (n := 34 * ((0 : Nat) : Int)) (by omega) (by omega), w64 (n := 10 + 41 * (l.length : Int) + 34 * ((0 : Nat) : Int)) (by omega) (by omega), w64 (n := 4 * (10 + 41 * (l.length : Int) + 34 * ((0 : Nat) : Int))) (by omega) (by omega), show 4 * (10 + 41 * (l.length : Int) + 34 * ((0 : Nat) : Int)) = 40 + 164 * (l.length : Int) by omega]
  exact weight_l l _ (by omega) (by omega) hn l.length 0 k (by omega) hk
theorem fee_f (w : Int) (h0 : 0 ≤ w) (h1 : w ≤ 4000000) : amount_Fee.f w 1000 = some (w, 0) := by
  have e1 : amount_within.f w 0 4000000 = some true := by unfold amount_within.f; rw [if_pos (by omega), decide_eq_true (by omega)]
  have e2 : amount_within.f 1000 0 1000000000 = some true := by decide
  have e3 : amount_Valid.f w = some true := by unfold amount_Valid.f; rw [if_pos (by omega), decide_eq_true (by omega)]
  have e4 : wrap64 (Int.tdiv (wrap64 ((wrap64 ((wrap64 (w * 1000)) + 1000)) - 1)) 1000) = w := by
    rw [w64 (n := w * 1000) (by omega) (by omega), w64 (n := w * 1000 + 1000) (by omega) (by omega), w64 (n := w * 1000 + 1000 - 1) (by omega) (by omega)]
    have : Int.tdiv (w * 1000 + 1000 - 1) 1000 = w := by rw [Int.tdiv_eq_ediv_of_nonneg (by omega)]; omega
    rw [this, w64 (by omega) (by omega)]
  unfold amount_Fee.f
  rw [e1, e2]
  simp only [Option.bind_some, if_true, e4, amount_held.f, e3]
theorem may_f (k : Nat) (l m : List Int) (hm : m.length ≤ 1000) (hk : m.length + 5 < k) : replace_May.f k [bat (l.map inp)] (m.map inp) [] 0 0 0 = some (!meets l m) := by
  obtain ⟨k, rfl⟩ : ∃ j, k = j + 2 := ⟨k - 2, by omega⟩
  unfold replace_May.f
  rw [conflicts_f k l m, weight_f m (k + 2) hm (by omega)]
  simp only [Option.bind_some]
  rw [fee_f _ (by omega) (by omega)]
  simp only [Option.bind_some]
  cases h : meets l m
  · rfl
  · rw [if_pos rfl, if_neg (by decide), if_neg (by decide), replace_May.j0, if_neg (by decide), replace_May.l0, if_pos (by decide), if_pos (by decide), if_pos (by decide), if_pos (by decide), if_pos (show rd [0] 0 < ((([bat (l.map inp)] : List S39).length : Nat) : Int) from by show (0 : Int) < 1; decide), if_pos (show (0 : Int) ≤ (rd_T39 [bat (l.map inp)] (rd [0] 0)).f2 from by show (0 : Int) ≤ 0; decide)]
    rfl
theorem own_f (l : List Int) (hl : l.length ≤ 1000) : batch_Own.f (l.map inp) [] 0 0 0 = some (l.map inp, [], 0, 0, 0) := by
  unfold batch_Own.f tx_Own.f api_In.f api_Out.f
  rw [if_pos (by rw [List.length_map]; omega), if_pos (by decide)]
  rfl
theorem ownAll_f (k : Nat) (l : List Int) (hl : l.length ≤ 1000) : batch_OwnAll.f (k + 2) [bat (l.map inp)] = some [bat (l.map inp)] := by
  have e : batch_Own.f ((rd_T39 [bat (l.map inp)] 0).f0.f0) ((rd_T39 [bat (l.map inp)] 0).f0.f1) ((rd_T39 [bat (l.map inp)] 0).f0.f2) ((rd_T39 [bat (l.map inp)] 0).f1) ((rd_T39 [bat (l.map inp)] 0).f2) = some (l.map inp, [], 0, 0, 0) := own_f l hl
  unfold batch_OwnAll.f
  rw [show (([bat (l.map inp)] : List S39).length : Int) = 1 from rfl, batch_OwnAll.l0, if_pos (by decide), if_pos (by decide), if_pos (show (0 : Int) < ((([bat (l.map inp)] : List S39).length : Nat) : Int) from by show (0 : Int) < 1; decide), e]
  simp only [Option.bind_some]
  rw [if_pos (by decide), w64 (by decide) (by decide), batch_OwnAll.l0, if_neg (by decide)]
  rfl
theorem put_f (k : Nat) (l m : List Int) (hl : l.length ≤ 1000) (hm : m.length ≤ 1000) (hk : m.length + 5 < k) : ∃ p : List S39, replace_Put.f k [bat (l.map inp)] (m.map inp) [] 0 0 0 = some (p, !meets l m) ∧ (meets l m = false → p.length = 2) := by
  have hc : clash (bat (l.map inp)) (m.map inp) = meets l m := Option.some.inj (conflict_f l m)
  obtain ⟨j, rfl⟩ : ∃ j, k = j + 2 := ⟨k - 2, by omega⟩
  unfold replace_Put.f
  rw [ownAll_f j l hl, may_f (j + 2) l m hm hk]
  simp only [Option.bind_some]
  cases h : meets l m
  · rw [if_pos (show (!false) = true from rfl), own_f m hm]
    have hf : ([bat (l.map inp)].filter fun x => !clash x (m.map inp)) = [bat (l.map inp)] := by
      rw [List.filter_cons, hc, h]; rfl
    simp only [Option.bind_some, hf]
    rw [if_pos (show [bat (l.map inp)].length < 1954687338268 from by show 1 < 1954687338268; decide)]
    exact ⟨_, rfl, fun _ => rfl⟩
  · rw [if_neg (show ¬ (!true) = true from by decide)]
    exact ⟨_, rfl, fun e => by cases e⟩
/-! ### Alike -/
theorem prevs_l (l : List Int) (hl : l.length ≤ 1000) : ∀ m i k, i + m = l.length → m < k → replace_prevs.l0 k ((l.take i).map pnt) (l.map inp) l.length i = some (l.map pnt) := by
  intro m
  induction m with
  | zero =>
    intro i k hi hk
    obtain ⟨k, rfl⟩ : ∃ j, k = j + 1 := ⟨k - 1, by omega⟩
    rw [replace_prevs.l0, if_neg (by omega), List.take_of_length_le (by omega)]
  | succ m ih =>
    intro i k hi hk
    obtain ⟨k, rfl⟩ : ∃ j, k = j + 1 := ⟨k - 1, by omega⟩
    rw [replace_prevs.l0, if_pos (by omega), if_pos (by omega), if_pos (by rw [List.length_map]; omega), if_pos (by rw [List.length_map, List.length_take]; omega), rd_inp l i (by omega), w64 (n := (i : Int) + 1) (by omega) (by omega)]
    have e : (l.take i).map pnt ++ [pnt l[i]] = (l.take (i + 1)).map pnt := by
      rw [List.take_succ_eq_append_getElem (by omega), List.map_append]; rfl
    have := ih (i + 1) k (by omega) (by omega)
    rw [← e] at this
    exact this
theorem prevs_f (k : Nat) (l : List Int) (hl : l.length ≤ 1000) (hk : l.length < k) : replace_prevs.f k (l.map inp) [] 0 0 0 = some (l.map pnt) := by
  unfold replace_prevs.f
  rw [List.length_map]
  exact prevs_l l hl l.length 0 k (by omega) hk
theorem eq_s34 (x y : S34) : x = y ↔ oeq x y = true := by
  constructor
  · rintro rfl; simp [oeq]
  · intro h
    cases x with | mk a b => cases y with | mk c d => cases a with | mk a0 a1 a2 a3 a4 a5 a6 a7 a8 a9 a10 a11 a12 a13 a14 a15 a16 a17 a18 a19 a20 a21 a22 a23 a24 a25 a26 a27 a28 a29 a30 a31 => cases c with | mk c0 c1 c2 c3 c4 c5 c6 c7 c8 c9 c10 c11 c12 c13 c14 c15 c16 c17 c18 c19 c20 c21 c22 c23 c24 c25 c26 c27 c28 c29 c30 c31 =>
      simp only [oeq, Bool.and_eq_true, beq_iff_eq] at h
      obtain ⟨⟨e0, e1, e2, e3, e4, e5, e6, e7, e8, e9, e10, e11, e12, e13, e14, e15, e16, e17, e18, e19, e20, e21, e22, e23, e24, e25, e26, e27, e28, e29, e30, e31⟩, e⟩ := h
      subst e0 e1 e2 e3 e4 e5 e6 e7 e8 e9 e10 e11 e12 e13 e14 e15 e16 e17 e18 e19 e20 e21 e22 e23 e24 e25 e26 e27 e28 e29 e30 e31 e
      rfl
instance : DecidableEq S34 := fun x y => decidable_of_iff (oeq x y = true) (eq_s34 x y).symm
theorem rd34 (x : List S34) (i : Nat) (h : i < x.length) : rd_T34 x i = x[i] := by simp [rd_T34, List.getElem?_eq_getElem h]
/-- '!=' of two outpoints, as it is printed. -/
theorem neq_s34 (x y : S34) : ((!(x.f0.f0 == y.f0.f0) || (!(x.f0.f1 == y.f0.f1) || (!(x.f0.f2 == y.f0.f2) || (!(x.f0.f3 == y.f0.f3) || (!(x.f0.f4 == y.f0.f4) || (!(x.f0.f5 == y.f0.f5) || (!(x.f0.f6 == y.f0.f6) || (!(x.f0.f7 == y.f0.f7) || (!(x.f0.f8 == y.f0.f8) || (!(x.f0.f9 == y.f0.f9) || (!(x.f0.f10 == y.f0.f10) || (!(x.f0.f11 == y.f0.f11) || (!(x.f0.f12 == y.f0.f12) || (!(x.f0.f13 == y.f0.f13) || (!(x.f0.f14 == y.f0.f14) || (!(x.f0.f15 == y.f0.f15) || (!(x.f0.f16 == y.f0.f16) || (!(x.f0.f17 == y.f0.f17) || (!(x.f0.f18 == y.f0.f18) || (!(x.f0.f19 == y.f0.f19) || (!(x.f0.f20 == y.f0.f20) || (!(x.f0.f21 == y.f0.f21) || (!(x.f0.f22 == y.f0.f22) || (!(x.f0.f23 == y.f0.f23) || (!(x.f0.f24 == y.f0.f24) || (!(x.f0.f25 == y.f0.f25) || (!(x.f0.f26 == y.f0.f26) || (!(x.f0.f27 == y.f0.f27) || (!(x.f0.f28 == y.f0.f28) || (!(x.f0.f29 == y.f0.f29) || (!(x.f0.f30 == y.f0.f30) || (!(x.f0.f31 == y.f0.f31))))))))))))))))))))))))))))))))) || (!(x.f1 == y.f1))) = !oeq x y := by
  rw [oeq]
  simp only [Bool.not_and]
theorem equal_l (x y : List S34) (h : x.length = y.length) (hx : x.length ≤ 1000) : ∀ m i k, i + m = x.length → (∀ j (h1 : j < x.length) (h2 : j < y.length), j < i → x[j] = y[j]) → m < k → api_Outpoint.l0 k x y x.length i = some (decide (x = y)) := by
  intro m
  induction m with
  | zero =>
    intro i k hi hb hk
    obtain ⟨k, rfl⟩ : ∃ j, k = j + 1 := ⟨k - 1, by omega⟩
    rw [api_Outpoint.l0, if_neg (by omega), decide_eq_true (List.ext_getElem h (fun j h1 h2 => hb j h1 h2 (by omega)))]
  | succ m ih =>
    intro i k hi hb hk
    obtain ⟨k, rfl⟩ : ∃ j, k = j + 1 := ⟨k - 1, by omega⟩
    rw [api_Outpoint.l0, if_pos (by omega), if_pos (by omega), if_pos (by omega), if_pos (by omega), rd34 x i (by omega), rd34 y i (by omega)]
    rw [neq_s34 x[i] y[i]]
    by_cases e : x[i] = y[i]
    · rw [(eq_s34 _ _).1 e, if_neg (by decide), w64 (n := (i : Int) + 1) (by omega) (by omega)]
      refine ih (i + 1) k (by omega) (fun j h1 h2 hj => ?_) (by omega)
      by_cases hji : j = i
      · subst hji; exact e
      · exact hb j h1 h2 (by omega)
    · have e2 : oeq x[i] y[i] = false := by
        cases hh : oeq x[i] y[i]
        · rfl
        · exact absurd ((eq_s34 _ _).2 hh) e
      rw [e2, if_pos (by decide), decide_eq_false (fun hxy => e (by subst hxy; rfl))]
theorem equal_f (k : Nat) (x y : List S34) (hx : x.length ≤ 1000) (hk : x.length < k) : api_Outpoint.f k x y = some (decide (x = y)) := by
  unfold api_Outpoint.f
  by_cases h : x.length = y.length
  · rw [if_pos (by omega)]
    exact equal_l x y h hx x.length 0 k (by omega) (fun j _ _ hj => by omega) hk
  · rw [if_neg (by omega), decide_eq_false (fun e => h (by rw [e]))]
theorem sortO_perm (x y : List S34) : sortO x = sortO y ↔ x.Perm y := by
  have hs : ∀ l, (sortO l).Perm l := fun l => List.mergeSort_perm _ _
  have hw := Go.Proofs.Ytiodebjjbgcbhaa.SortO.ocmp_swo bsO (fun x : S34 => x.f1)
  constructor
  · intro h
    exact (hs x).symm.trans (h ▸ hs y)
  · intro h
    refine List.Perm.eq_of_pairwise (le := fun a b => (!(ltOf (Go.Proofs.Ytiodebjjbgcbhaa.OrdO.ocmp bsO (fun x : S34 => x.f1))) b a) = true) (fun a b _ _ h1 h2 => ?_) ?_ ?_ ((hs x).trans (h.trans (hs y).symm))
    · have e := Go.Proofs.Ytiodebjjbgcbhaa.SortO.ocmp_flip bsO (fun x : S34 => x.f1) a b
      simp only [ltOf, Bool.not_eq_true', decide_eq_false_iff_not] at h1 h2
      have z := Go.Proofs.Ytiodebjjbgcbhaa.SortO.ocmp_zero bsO (fun x : S34 => x.f1) (x := a) (y := b) (by omega)
      exact bsO_inj a b z.1 z.2
    all_goals
      refine List.pairwise_mergeSort (fun a b c h1 h2 => ?_) (fun a b => ?_) _
      · simp only [Bool.not_eq_true'] at *
        exact hw.ntrans c b a h2 h1
      · simp only [Bool.or_eq_true, Bool.not_eq_true']
        cases h1 : ltOf (Go.Proofs.Ytiodebjjbgcbhaa.OrdO.ocmp bsO (fun x : S34 => x.f1)) b a
        · exact .inl rfl
        · right
          cases h2 : ltOf (Go.Proofs.Ytiodebjjbgcbhaa.OrdO.ocmp bsO (fun x : S34 => x.f1)) a b
          · rfl
          · have := hw.trans a b a h2 h1
            rw [hw.irrefl] at this
            cases this
theorem perm_pnt (l m : List Int) : (l.map pnt).Perm (m.map pnt) ↔ l.Perm m := by
  constructor
  · intro h
    have := h.map (fun x : S34 => x.f1)
    rw [List.map_map, List.map_map] at this
    simpa [Function.comp_def, pnt] using this
  · exact fun h => h.map _
theorem alike_f (k : Nat) (l m : List Int) (hl : l.length ≤ 1000) (hm : m.length ≤ 1000) (hk : l.length < k) (hk2 : m.length < k) : ∃ b : Bool, replace_Alike.f k (l.map inp) [] 0 0 0 (m.map inp) [] 0 0 0 = some b ∧ (b = true ↔ l.Perm m) := by
  unfold replace_Alike.f
  rw [prevs_f k l hl hk, prevs_f k m hm hk2]
  simp only [Option.bind_some, point_Alike.f, List.length_map]
  rw [if_pos (by omega), if_pos (by omega), equal_f k _ _ (by rw [sortO_len, List.length_map]; omega) (by rw [sortO_len, List.length_map]; omega)]
  exact ⟨_, rfl, by rw [decide_eq_true_iff, sortO_perm, perm_pnt]⟩
/-! ### Spends, of the document -/
theorem spends_l (l : List Int) (v : Int) (hl : l.length ≤ 1000) : ∀ m i k, i + m = l.length → (∀ j (h : j < l.length), j < i → l[j] ≠ v) → m < k → ∃ t, coracleref1_Spends.l0 k i (l.map inp) [] 0 0 0 0 0 0 0 0 0 0 0 0 0 0 0 0 0 0 0 0 0 0 0 0 0 0 0 0 0 0 0 0 0 v = some t ∧ (t ≥ 0 ↔ v ∈ l) := by
  intro m
  induction m with
  | zero =>
    intro i k hi hb hk
    obtain ⟨k, rfl⟩ : ∃ j, k = j + 1 := ⟨k - 1, by omega⟩
    rw [coracleref1_Spends.l0, if_neg (by rw [List.length_map]; omega)]
    refine ⟨_, rfl, fun h => absurd h (by decide), fun hv => ?_⟩
    obtain ⟨j, hj, e⟩ := List.mem_iff_getElem.1 hv
    exact absurd e (hb j hj (by omega))
  | succ m ih =>
    intro i k hi hb hk
    obtain ⟨k, rfl⟩ : ∃ j, k = j + 1 := ⟨k - 1, by omega⟩
    rw [coracleref1_Spends.l0, if_pos (by rw [List.length_map]; omega), if_pos (by omega), rd_inp l i (by omega)]
    by_cases e : l[i] = v
    · rw [if_pos (by simp [inp, pnt, e])]
      exact ⟨_, rfl, fun _ => e ▸ List.getElem_mem _, fun _ => by omega⟩
    · rw [if_neg (by simp [inp, pnt, e]), w64 (n := (i : Int) + 1) (by omega) (by omega)]
      exact ih (i + 1) k (by omega) (fun j h hj => by
        by_cases hji : j = i
        · subst hji; exact e
        · exact hb j h (by omega)) (by omega)
end Go.Proofs.Ytiodebjjbgcbhaa.AlkL
