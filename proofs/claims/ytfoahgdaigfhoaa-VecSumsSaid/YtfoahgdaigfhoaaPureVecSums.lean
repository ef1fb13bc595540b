/- VecSums: pairs are added one behind the other, both parts at once, or refused; the order does not matter: the pure statement, for every input. -/
import Derived.Test.YtfoahgdaigfhoaaVecSL
import Derived.Test.YtfoahgdaigfhoaaQVecSx3
namespace Go.Proofs.Ytfoahgdaigfhoaa.Pure
open Go Go.RowKit Go.Proofs.Ytfoahgdaigfhoaa.QVecS Go.Proofs.Ytfoahgdaigfhoaa.VecSL Go.Proofs.Ytfoahgdaigfhoaa.Flt Go.Proofs.YtfoahgdaigfhoaaW.PrintWords Go.Proofs.YtfoahgdaigfhoaaW.PrintLast Go.Proofs.YtfoahgdaigfhoaaW.PrintMore
def sv : List (Int × Int) → Int
  | [] => 0
  | c :: r => c.1 + sv r
def sw : List (Int × Int) → Int
  | [] => 0
  | c :: r => c.2 + sw r
theorem sv_append (x y : List (Int × Int)) : sv (x ++ y) = sv x + sv y := by
  induction x with
  | nil => simp [sv]
  | cons a r ih => simp [sv, ih]; omega
theorem sw_append (x y : List (Int × Int)) : sw (x ++ y) = sw x + sw y := by
  induction x with
  | nil => simp [sw]
  | cons a r ih => simp [sw, ih]; omega
def allIn (l : List (Int × Int)) : Prop := ∀ c ∈ l, inB c.1 c.2 = true
theorem sums_pos (l : List (Int × Int)) (h : allIn l) : 0 ≤ sv l ∧ 0 ≤ sw l := by
  induction l with
  | nil => simp [sv, sw]
  | cons c r ih =>
    have hc := inB_true.1 (h c (List.mem_cons_self ..))
    have := ih (fun x hx => h x (List.mem_cons_of_mem _ hx))
    simp only [sv, sw]; omega
theorem sums_le (l : List (Int × Int)) (h : allIn l) : sv l ≤ 2100000000000000 * l.length ∧ sw l ≤ 4000000 * l.length := by
  induction l with
  | nil => simp [sv, sw]
  | cons c r ih =>
    have hc := inB_true.1 (h c (List.mem_cons_self ..))
    have := ih (fun x hx => h x (List.mem_cons_of_mem _ hx))
    simp only [sv, sw, List.length_cons]; omega
def dbl (l : List (Int × Int)) : List (Int × Int) := l.map fun c => (2 * c.1, 2 * c.2)
theorem dbl_sm (l : List (Int × Int)) (h : allIn l) : ∀ c ∈ dbl l, Sm c.1 ∧ Sm c.2 := by
  intro c hc
  unfold dbl at hc
  obtain ⟨x, hx, rfl⟩ := List.mem_map.1 hc
  exact Sm_in (h x hx)
theorem sum_char (l : List (Int × Int)) (h : allIn l) : ∀ s t, inB s t = true → sumS (2 * s) (2 * t) (dbl l) = if inB (s + sv l) (t + sw l) = true then (C (2 * (s + sv l)) (2 * (t + sw l)), 0) else (C 0 0, 11) := by
  induction l with
  | nil => intro s t hst; simp [dbl, sumS, sv, sw, hst]
  | cons c r ih =>
    intro s t hst
    have hc := h c (List.mem_cons_self ..)
    have hr : allIn r := fun x hx => h x (List.mem_cons_of_mem _ hx)
    have hp := sums_pos r hr
    have hs := inB_true.1 hst
    have hcb := inB_true.1 hc
    have e : dbl (c :: r) = (2 * c.1, 2 * c.2) :: dbl r := rfl
    rw [e, show sv (c :: r) = c.1 + sv r from rfl, show sw (c :: r) = c.2 + sw r from rfl]
    simp only [sumS]
    rw [okP_in, if_pos hc, show 2 * s + 2 * c.1 = 2 * (s + c.1) by omega, show 2 * t + 2 * c.2 = 2 * (t + c.2) by omega, okP_in]
    by_cases g : inB (s + c.1) (t + c.2) = true
    · rw [if_pos g, ih hr _ _ g, show s + c.1 + sv r = s + (c.1 + sv r) by omega, show t + c.2 + sw r = t + (c.2 + sw r) by omega]
    · have : ¬ inB (s + (c.1 + sv r)) (t + (c.2 + sw r)) = true := by
        intro e
        have e' := inB_true.1 e
        exact g (inB_true.2 (by omega))
      rw [if_neg g, if_neg this]
theorem total_f (l : List (Int × Int)) (h : allIn l) (hl : l.length ≤ 60) (k : Nat) (hk : 60 < k) : vec_Sum.f k (row (dbl l)) = some (if inB (sv l) (sw l) = true then (C (2 * sv l) (2 * sw l), 0) else (C 0 0, 11)) := by
  have hd : (dbl l).length = l.length := by simp [dbl]
  rw [sum_f (dbl l) (by omega) (dbl_sm l h) k (by omega)]
  have hz := sum_char l h 0 0 (by decide)
  simp only [Int.mul_zero, Int.zero_add] at hz
  rw [hz]
theorem row_take (l : List (Int × Int)) (p : Nat) : (row (dbl l)).take p = row (dbl (l.take p)) := by simp [row, dbl, List.map_take]
theorem row_drop (l : List (Int × Int)) (p : Nat) : (row (dbl l)).drop p = row (dbl (l.drop p)) := by simp [row, dbl, List.map_drop]
theorem row_append (x y : List (Int × Int)) : row (dbl x) ++ row (dbl y) = row (dbl (x ++ y)) := by simp [row, dbl]
theorem sums_j2 (m : Nat) (l : List (Int × Int)) (s : C128 × Int) (hs : s = if inB (sv l) (sw l) = true then (C (2 * sv l) (2 * sw l), 0) else (C 0 0, 11)) :
    coraclelaw15_VecSums.j2 (m + 5) (sv l) (sw l) (inB (sv l) (sw l)) s.1 s.2 s.1 s.2 = some true := by
  subst hs
  simp only [coraclelaw15_VecSums.j2]
  rw [awake_f m]
  cases g : inB (sv l) (sw l)
  · have e : ceq (C 0 0).re (C 0 0).im 0 0 = true := by decide
    simp [e]
  · simp only [if_true]
    rw [parts_in g, c_eq (Sm_in g).1 (Sm_in g).2 (Sm_in g).1 (Sm_in g).2]
    simp
theorem turn_place (n turn : Int) (h0 : 1 ≤ n) (h1 : n ≤ 60) : ∃ p : Nat, (p : Int) < n ∧ Int.tmod (wrap64 ((Int.tmod turn n) + n)) n = p := by
  have a := Int.tmod_lt_of_pos turn (show 0 < n by omega)
  have b := Int.lt_tmod_of_pos turn (show 0 < n by omega)
  generalize Int.tmod turn n = t at *
  rw [w64 (by omega) (by omega), Int.tmod_eq_emod_of_nonneg (by omega)]
  have c := Int.emod_nonneg (t + n) (show n ≠ 0 by omega)
  have d := Int.emod_lt_of_pos (t + n) (show 0 < n by omega)
  exact ⟨((t + n) % n).toNat, by omega, by omega⟩
theorem sums_end (m : Nat) (xs ys : List Int) (turn : Int) (l : List (Int × Int)) (h : allIn l) (h1 : 1 ≤ l.length) (hl : l.length ≤ 60) :
    coraclelaw15_VecSums.l0 (m + 70) xs ys turn (l.length : Int) (row (dbl l)) (sv l) (sw l) (inB (sv l) (sw l)) (l.length : Int) = some true := by
  have hr : (row (dbl l)).length = l.length := by simp [row, dbl]
  obtain ⟨p, hp, ep⟩ := turn_place l.length turn (by omega) (by omega)
  unfold coraclelaw15_VecSums.l0
  rw [if_neg (by omega), total_f l h hl _ (by omega)]
  simp only [Option.bind_some]
  rw [if_neg (by omega), ep, if_pos (by omega), hr, if_pos (by omega), Int.toNat_natCast, row_drop, row_take]
  have hdl : (row (dbl (l.drop p))).length = l.length - p := by simp [row, dbl]
  have htl : (row (dbl (l.take p))).length = p := by simp [row, dbl]; omega
  rw [if_pos (by rw [hdl]; simp; omega)]
  simp only [List.nil_append]
  rw [if_pos (by rw [hdl, htl]; omega), row_append]
  have hsplit : l = l.take p ++ l.drop p := (List.take_append_drop p l).symm
  have ev : sv (l.drop p ++ l.take p) = sv l := by
    conv => rhs; rw [hsplit]
    rw [sv_append, sv_append]; omega
  have ew : sw (l.drop p ++ l.take p) = sw l := by
    conv => rhs; rw [hsplit]
    rw [sw_append, sw_append]; omega
  have hall : allIn (l.drop p ++ l.take p) := by
    intro c hc
    rcases List.mem_append.1 hc with hc | hc
    · exact h c (List.mem_of_mem_drop hc)
    · exact h c (List.mem_of_mem_take hc)
  rw [total_f _ hall (by simp; omega) _ (by omega), ev, ew]
  simp only [Option.bind_some]
  exact sums_j2 (m + 64) l _ rfl
theorem rd_at {xs : List Int} {i : Nat} (h : i < xs.length) : rd xs (i : Int) = xs[i] := by
  unfold rd; rw [Int.toNat_natCast]; simp [List.getD_eq_getElem?_getD, h]
theorem sums_l (xs ys : List Int) (turn : Int) (n : Nat) (hn : n ≤ 60) (hn1 : 1 ≤ n) (hx : n ≤ xs.length) (hy : n ≤ ys.length) : ∀ (d k i : Nat) (l : List (Int × Int)), i + d = n → d + 75 ≤ k → l.length = i → allIn l →
    coraclelaw15_VecSums.l0 k xs ys turn (n : Int) (row (dbl l)) (sv l) (sw l) (inB (sv l) (sw l)) (i : Int) = some true := by
  intro d
  induction d with
  | zero =>
    intro k i l hd hk hl hall
    obtain ⟨m, rfl⟩ : ∃ m, k = m + 70 := ⟨k - 70, by omega⟩
    have e1 : (n : Int) = (l.length : Int) := by omega
    have e2 : (i : Int) = (l.length : Int) := by omega
    rw [e1, e2]
    exact sums_end m xs ys turn l hall (by omega) (by omega)
  | succ d ih =>
    intro k i l hd hk hl hall
    obtain ⟨k, rfl⟩ : ∃ m, k = m + 1 := ⟨k - 1, by omega⟩
    conv => lhs; unfold coraclelaw15_VecSums.l0
    rw [if_pos (by omega), if_pos (by omega), if_pos (by omega), if_pos (by omega), rd_at (show i < xs.length by omega), rd_at (show i < ys.length by omega), in_f]
    simp only [Option.bind_some]
    generalize xs[i] = x
    generalize ys[i] = y
    cases g : inB x y
    · obtain ⟨m, rfl⟩ : ∃ m, k = m + 4 := ⟨k - 4, by omega⟩
      rw [if_neg (by simp), awake_f m]; rfl
    · have hr : (row (dbl l)).length = l.length := by simp [row, dbl]
      have hb := inB_true.1 g
      have hp := sums_pos l hall
      have hq := sums_le l hall
      rw [if_pos rfl, pair15_in g]
      simp only [Option.bind_some]
      rw [if_pos (by omega), w64 (n := sv l + x) (by omega) (by omega), w64 (n := sw l + y) (by omega) (by omega), w64 (n := (i : Int) + 1) (by omega) (by omega)]
      have er : row (dbl l) ++ [C (2 * x) (2 * y)] = row (dbl (l ++ [(x, y)])) := by simp [row, dbl]
      have ev : sv (l ++ [(x, y)]) = sv l + x := by rw [sv_append]; simp [sv]
      have ew : sw (l ++ [(x, y)]) = sw l + y := by rw [sw_append]; simp [sw]
      have hall' : allIn (l ++ [(x, y)]) := by
        intro c hc
        rcases List.mem_append.1 hc with hc | hc
        · exact hall c hc
        · rw [List.mem_singleton] at hc; subst hc; exact g
      have hi := ih k (i + 1) (l ++ [(x, y)]) (by omega) (by omega) (by simp [hl]) hall'
      rw [ev, ew, ← er, show ((i + 1 : Nat) : Int) = (i : Int) + 1 by omega] at hi
      rw [in_f]
      simp only [Option.bind_some]
      cases g2 : inB (sv l) (sw l)
      · have : inB (sv l + x) (sw l + y) = false := by
          cases g3 : inB (sv l + x) (sw l + y)
          · rfl
          · have h3 := inB_true.1 g3
            rw [← g2]
            exact (inB_true.2 (by omega)).symm
        rw [this] at hi
        rw [if_neg (by simp)]
        exact hi
      · rw [if_pos rfl]
        exact hi
theorem VecSums : coraclelaw15_VecSums.Pure := by
  intro xs ys turn _ hx _ _ hy _ _
  refine ⟨200, ?_⟩
  have out : coraclelaw15_VecSums.j0 200 xs ys turn (mn (xs.length : Int) (ys.length : Int)) true = some true := by
    simp only [coraclelaw15_VecSums.j0]
    rw [awake_f 195]; rfl
  unfold coraclelaw15_VecSums.f
  by_cases h0 : mn (xs.length : Int) (ys.length : Int) = 0
  · rw [if_pos h0]; exact out
  · rw [if_neg h0]
    by_cases h1 : mn (xs.length : Int) (ys.length : Int) > 60
    · rw [decide_eq_true h1]; exact out
    · rw [decide_eq_false h1]
      obtain ⟨n, hn, hnx, hny⟩ : ∃ n : Nat, mn (xs.length : Int) (ys.length : Int) = n ∧ n ≤ xs.length ∧ n ≤ ys.length := by
        unfold mn
        split
        · exact ⟨ys.length, rfl, by omega, by omega⟩
        · exact ⟨xs.length, rfl, by omega, by omega⟩
      rw [hn] at h0 h1 ⊢
      simp only [coraclelaw15_VecSums.j0]
      rw [if_neg (by simp)]
      exact sums_l xs ys turn n (by omega) (by omega) hnx hny n 199 0 [] (by omega) (by omega) rfl (fun c hc => by cases hc)
end Go.Proofs.Ytfoahgdaigfhoaa.Pure
