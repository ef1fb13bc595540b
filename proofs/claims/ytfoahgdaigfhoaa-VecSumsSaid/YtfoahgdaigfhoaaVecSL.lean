/- What the functions of package vec tell of pairs: plain laws over the printed functions. -/
import Derived.Test.YtfoahgdaigfhoaaQVecSx1
import Derived.Test.YtfoahgdaigfhoaaQVecSx2
import Derived.Test.YtfoahgdaigfhoaaFlt
import Derived.Laws.BitsLemmas
namespace Go.Proofs.Ytfoahgdaigfhoaa.VecSL
open Go Go.RowKit Go.Proofs.Ytfoahgdaigfhoaa.QVecS Go.Proofs.Ytfoahgdaigfhoaa.Hand Go.Proofs.Ytfoahgdaigfhoaa.Flt Go.Proofs.YtfoahgdaigfhoaaW.PrintWords Go.Proofs.YtfoahgdaigfhoaaW.PrintLast Go.Proofs.YtfoahgdaigfhoaaW.PrintMore
set_option linter.unusedSimpArgs false

theorem w64 {n : Int} (h0 : -9223372036854775808 ≤ n) (h1 : n ≤ 9223372036854775807) : wrap64 n = n := by unfold wrap64; omega
theorem wf64 {n : Int} (h : (Lit.int .i64 n).wf = true) : -9223372036854775808 ≤ n ∧ n ≤ 9223372036854775807 := by
  simp only [Lit.wf, Bool.and_eq_true, decide_eq_true_eq] at h
  exact h
theorem wu64 (n : Int) (h0 : 0 ≤ n) (h1 : n < 18446744073709551616) : IntKind.u64.wrap n = n := by
  simp [IntKind.wrap, IntKind.bits, IntKind.signed]; omega
theorem and_low (z : Int) (h0 : 0 ≤ z) (h1 : z < 18446744073709551616) : Go.bits .and .u64 z 4294967295 = z % 4294967296 :=
  bits_mask .u64 64 (by decide) (fun n a b => wu64 n a b) 32 (by decide) z h0 h1
/-- A value times a weight, in two words. -/
theorem mul_f (a b : Int) (ha : 0 ≤ a) (ha' : a < 2251799813685248) (hb : 0 ≤ b) (hb' : b < 4194304) : bits_Mul64.f a b = some (a * b / 18446744073709551616, a * b % 18446744073709551616) := by
  unfold bits_Mul64.f
  have eb : b / 4294967296 = 0 := by omega
  rw [and_low a ha (by omega), and_low b hb (by omega), eb, show b % 4294967296 = b by omega]
  simp only [Int.mul_zero]
  have e : a * b = 4294967296 * (a / 4294967296 * b) + a % 4294967296 * b := by
    conv => lhs; rw [show a = 4294967296 * (a / 4294967296) + a % 4294967296 by omega]
    rw [Int.add_mul, Int.mul_assoc]
  have p1 : 0 ≤ a / 4294967296 * b := Int.mul_nonneg (by omega) hb
  have p2 : a / 4294967296 * b ≤ 524288 * 4194304 := Int.mul_le_mul (by omega) (by omega) hb (by omega)
  have q1 : 0 ≤ a % 4294967296 * b := Int.mul_nonneg (by omega) hb
  have q2 : a % 4294967296 * b ≤ 4294967296 * 4194304 := Int.mul_le_mul (by omega) (by omega) hb (by omega)
  generalize a / 4294967296 * b = p at *
  generalize a % 4294967296 * b = q at *
  rw [e]
  rw [wu64 p (by omega) (by omega), wu64 q (by omega) (by omega), wu64 0 (by omega) (by omega)]
  simp only [Option.bind_some, Int.zero_add, Int.add_zero]
  rw [wu64 (p + q / 4294967296) (by omega) (by omega), and_low (p + q / 4294967296) (by omega) (by omega)]
  rw [wu64 ((p + q / 4294967296) / 4294967296) (by omega) (by omega), wu64 ((p + q / 4294967296) % 4294967296) (by omega) (by omega)]
  have z : (p + q / 4294967296) % 4294967296 / 4294967296 = 0 := by omega
  rw [z, Int.add_zero, wu64 _ (by omega) (by omega)]
  have w : IntKind.u64.wrap (4294967296 * p + q) = (4294967296 * p + q) % 18446744073709551616 := by
    simp [IntKind.wrap, IntKind.bits, IntKind.signed]
  rw [w]
  congr 2; omega

/-! ### Halves of whole numbers -/
def Sm (h : Int) : Prop := h.natAbs < 2 ^ 53
instance (h : Int) : Decidable (Sm h) := inferInstanceAs (Decidable (h.natAbs < 2 ^ 53))
theorem Sm.of {h : Int} (h0 : -9007199254740992 < h) (h1 : h < 9007199254740992) : Sm h := by unfold Sm; omega
theorem fmt : FloatKind.f64.format = Ieee.double := rfl
theorem f_int (n : Int) (h0 : -4503599627370496 < n) (h1 : n < 4503599627370496) : fint n = G (2 * n) := of_int n (by omega)
theorem f_eq {a b : Int} (ha : Sm a) (hb : Sm b) : feq (G a) (G b) = decide (a = b) := by
  unfold feq
  rw [fmt, order_G a b ha hb]
  by_cases h : a = b
  · subst h; simp
  · have : compare a b ≠ .eq := fun e => h (Int.compare_eq_eq.1 e)
    cases hc : compare a b <;> simp_all
theorem f_le {a b : Int} (ha : Sm a) (hb : Sm b) : fle (G a) (G b) = decide (a ≤ b) := by
  unfold fle
  rw [fmt, order_G a b ha hb]
  cases hc : compare a b
  · have := Int.compare_eq_lt.1 hc; simp; omega
  · have := Int.compare_eq_eq.1 hc; simp; omega
  · have := Int.compare_eq_gt.1 hc; simp; omega
theorem f_ge {a b : Int} (ha : Sm a) (hb : Sm b) : fge (G a) (G b) = decide (b ≤ a) := by
  unfold fge
  rw [fmt, order_G a b ha hb]
  cases hc : compare a b
  · have := Int.compare_eq_lt.1 hc; simp; omega
  · have := Int.compare_eq_eq.1 hc; simp; omega
  · have := Int.compare_eq_gt.1 hc; simp; omega
theorem f_lt {a b : Int} (ha : Sm a) (hb : Sm b) : flt (G a) (G b) = decide (a < b) := by
  unfold flt
  rw [fmt, order_G a b ha hb]
  cases hc : compare a b
  · have := Int.compare_eq_lt.1 hc; simp; omega
  · have := Int.compare_eq_eq.1 hc; simp; omega
  · have := Int.compare_eq_gt.1 hc; simp; omega
theorem G_zero : G 0 = 0 := by decide
theorem f_trunc {a : Int} (ha : Sm a) : math_Trunc.f (G a) = some (ftrunc (G a)) ∧ feq (G a) (ftrunc (G a)) = decide (a % 2 = 0) := by
  constructor
  · unfold math_Trunc.f fnan
    obtain ⟨m, p, h, _⟩ := read_G a ha
    have : FloatKind.f64.decode (G a) = .number (decide (a < 0)) m p := h
    rw [this]; rfl
  · unfold feq ftrunc
    have := trunc_G a ha
    rw [fmt]
    by_cases h : a % 2 = 0
    · have e := this.2 h
      simp only [h, decide_true, beq_iff_eq]
      exact e
    · have e : ¬ _ := fun e => h (this.1 e)
      simp only [h, decide_false, beq_eq_false_iff_ne]
      exact e
theorem f_toi {a : Int} (ha : Sm a) : toki (G a) = true ∧ toi (G a) = a.tdiv 2 := by
  have hv : tovi (G a) = some (a.tdiv 2) := by
    unfold tovi
    have := int_G a ha
    rw [show FloatKind.f64.decode (G a) = Ieee.double.read (G a) from rfl, this]
    simp only
    have hd := tdiv2 a
    unfold Sm at ha
    rw [if_pos]
    show -9223372036854775808 ≤ a.tdiv 2 ∧ a.tdiv 2 ≤ 9223372036854775807
    omega
  unfold toki toi
  rw [hv]; exact ⟨rfl, rfl⟩
/-- A complex number by its parts' halves. -/
def C (a b : Int) : C128 := ⟨G a, G b⟩
theorem C_zero : C 0 0 = ⟨0, 0⟩ := by unfold C; rw [G_zero]
theorem c_eq {a b c d : Int} (ha : Sm a) (hb : Sm b) (hc : Sm c) (hd : Sm d) : ceq (C a b).re (C a b).im (C c d).re (C c d).im = (decide (a = c) && decide (b = d)) := by
  unfold ceq C
  rw [f_eq ha hc, f_eq hb hd]
theorem fadd {a b : Int} (ha : Sm a) (hb : Sm b) (hc : Sm (a + b)) : fval .add (G a) (G b) = some (G (a + b)) := add_G a b ha hb hc
theorem fsub {a b : Int} (ha : Sm a) (hb : Sm b) (hc : Sm (a - b)) : fval .sub (G a) (G b) = some (G (a - b)) := sub_G a b ha hb hc
theorem c_add {a b c d : Int} (ha : Sm a) (hb : Sm b) (hc : Sm c) (hd : Sm d) (h1 : Sm (a + c)) (h2 : Sm (b + d)) :
    cok .add (C a b).re (C a b).im (C c d).re (C c d).im = true ∧ (⟨cre .add (C a b).re (C a b).im (C c d).re (C c d).im, cim .add (C a b).re (C a b).im (C c d).re (C c d).im⟩ : C128) = C (a + c) (b + d) := by
  have h : cval .add (C a b).re (C a b).im (C c d).re (C c d).im = some (G (a + c), G (b + d)) := by
    unfold cval C
    simp only [fadd ha hc h1, fadd hb hd h2, Option.bind_some]
  unfold cok cre cim
  rw [h]; exact ⟨rfl, rfl⟩
theorem c_sub {a b c d : Int} (ha : Sm a) (hb : Sm b) (hc : Sm c) (hd : Sm d) (h1 : Sm (a - c)) (h2 : Sm (b - d)) :
    cok .sub (C a b).re (C a b).im (C c d).re (C c d).im = true ∧ (⟨cre .sub (C a b).re (C a b).im (C c d).re (C c d).im, cim .sub (C a b).re (C a b).im (C c d).re (C c d).im⟩ : C128) = C (a - c) (b - d) := by
  have h : cval .sub (C a b).re (C a b).im (C c d).re (C c d).im = some (G (a - c), G (b - d)) := by
    unfold cval C
    simp only [fsub ha hc h1, fsub hb hd h2, Option.bind_some]
  unfold cok cre cim
  rw [h]; exact ⟨rfl, rfl⟩
/-! ### Pairs -/
theorem whole_f {a H : Int} (ha : Sm a) (hH : Sm H) : vec_whole.f (G a) (G H) = some (decide (0 ≤ a) && decide (a ≤ H) && decide (a % 2 = 0)) := by
  unfold vec_whole.f
  have hz : fge (G a) 0 = decide (0 ≤ a) := by rw [← G_zero]; exact f_ge ha (by decide)
  rw [hz, f_le ha hH, (f_trunc ha).1]
  simp only [Option.bind_some, (f_trunc ha).2]
  by_cases h1 : 0 ≤ a <;> by_cases h2 : a ≤ H <;> simp [h1, h2]
def okP (a b : Int) : Bool := decide (0 ≤ a) && decide (a ≤ 4200000000000000) && decide (a % 2 = 0) && (decide (0 ≤ b) && decide (b ≤ 8000000) && decide (b % 2 = 0))
theorem okP_true {a b : Int} : okP a b = true ↔ (0 ≤ a ∧ a ≤ 4200000000000000 ∧ a % 2 = 0) ∧ 0 ≤ b ∧ b ≤ 8000000 ∧ b % 2 = 0 := by
  simp [okP, and_assoc]
theorem cM : (4836258800541171712 : Nat) = G 4200000000000000 := by decide
theorem cH : (4705844345939427328 : Nat) = G 8000000 := by decide
theorem pair_f {a b : Int} (ha : Sm a) (hb : Sm b) : vec_pair.f (C a b) = some (okP a b) := by
  unfold vec_pair.f C
  rw [cM, cH, whole_f ha (by decide), whole_f hb (by decide)]
  simp only [Option.bind_some]
  unfold okP
  cases (decide (0 ≤ a) && decide (a ≤ 4200000000000000) && decide (a % 2 = 0)) <;> simp
theorem made_f {a b : Int} (ha : Sm a) (hb : Sm b) : vec_made.f (C a b) = some (if okP a b then (C a b, 0) else (C 0 0, 11)) := by
  unfold vec_made.f
  rw [pair_f ha hb, ← C_zero]
  cases okP a b <;> simp
theorem parts_f {a b : Int} (ha : Sm a) (hb : Sm b) : vec_Parts.f (C a b) = some (if okP a b then (a / 2, b / 2, true) else (0, 0, false)) := by
  unfold vec_Parts.f
  rw [pair_f ha hb]
  simp only [Option.bind_some]
  cases h : okP a b
  · simp
  · have := okP_true.1 h
    show (if true = true then (if toki (G a) = true then (if toki (G b) = true then some (toi (G a), toi (G b), true) else none) else none) else some (0, 0, false)) = _
    have t1 := tdiv2 a
    have t2 := tdiv2 b
    simp only [(f_toi ha).1, (f_toi hb).1, (f_toi ha).2, (f_toi hb).2, if_true]
    congr 2
    · omega
    · congr 1; omega
/-- May two numbers be a pair? -/
def inB (v w : Int) : Bool := decide (0 ≤ v) && decide (v ≤ 2100000000000000) && (decide (0 ≤ w) && decide (w ≤ 4000000))
theorem inB_true {v w : Int} : inB v w = true ↔ 0 ≤ v ∧ v ≤ 2100000000000000 ∧ 0 ≤ w ∧ w ≤ 4000000 := by simp [inB, and_assoc]
theorem okP_in (v w : Int) : okP (2 * v) (2 * w) = inB v w := by
  rw [Bool.eq_iff_iff, okP_true, inB_true]; omega
theorem Sm_in {v w : Int} (h : inB v w = true) : Sm (2 * v) ∧ Sm (2 * w) := by
  have := inB_true.1 h
  exact ⟨Sm.of (by omega) (by omega), Sm.of (by omega) (by omega)⟩
theorem of_f (v w : Int) : vec_Of.f v w = some (if inB v w then (C (2 * v) (2 * w), 0) else (C 0 0, 11)) := by
  unfold vec_Of.f
  rw [← C_zero]
  by_cases h : inB v w = true
  · have hb := inB_true.1 h
    rw [if_pos h, if_neg (by omega), if_neg (by omega), if_neg (by omega), if_neg (by omega), f_int v (by omega) (by omega), f_int w (by omega) (by omega)]
    rfl
  · rw [if_neg h]
    have hb : ¬ (0 ≤ v ∧ v ≤ 2100000000000000 ∧ 0 ≤ w ∧ w ≤ 4000000) := fun e => h (inB_true.2 e)
    by_cases h1 : v < 0
    · rw [if_pos h1]
    · by_cases h2 : v > 2100000000000000
      · rw [if_neg h1, if_pos h2]
      · by_cases h3 : w < 0
        · rw [if_neg h1, if_neg h2, if_pos h3]
        · rw [if_neg h1, if_neg h2, if_neg h3, if_pos (by omega)]
theorem pair15_f (v w : Int) : coraclelaw15_pair.f v w = some (if inB v w then C (2 * v) (2 * w) else C 0 0) := by
  unfold coraclelaw15_pair.f
  rw [of_f]
  cases inB v w <;> simp
theorem pair15_in {v w : Int} (h : inB v w = true) : coraclelaw15_pair.f v w = some (C (2 * v) (2 * w)) := by rw [pair15_f, if_pos h]
theorem in_f (v w : Int) : coraclelaw15_in.f v w = some (inB v w) := by
  unfold coraclelaw15_in.f coracleref1_Money.f
  rw [Option.some_inj.2 (show inB v w = (decide (0 ≤ v) && decide (v ≤ 2100000000000000) && (decide (0 ≤ w) && decide (w ≤ 4000000))) from rfl)]
  by_cases h1 : v ≥ 0 <;> by_cases h2 : v ≤ 2100000000000000 <;> by_cases h3 : w ≥ 0 <;> simp [h1, h2, h3] <;> omega
theorem parts_in {v w : Int} (h : inB v w = true) : vec_Parts.f (C (2 * v) (2 * w)) = some (v, w, true) := by
  rw [parts_f (Sm_in h).1 (Sm_in h).2, okP_in, if_pos h]
  congr 2
  · omega
  · congr 1; omega
def sgn (z : Int) : Int := if z > 0 then 1 else if z < 0 then -1 else 0
theorem cross_in {v w x y : Int} (h : inB v w = true) (h' : inB x y = true) (k : Nat) : vec_Cross.f (k + 2) (C (2 * v) (2 * w)) (C (2 * x) (2 * y)) = some (sgn (v * y - x * w)) := by
  have hb := inB_true.1 h
  have hb' := inB_true.1 h'
  unfold vec_Cross.f
  rw [parts_in h, parts_in h']
  simp only [Option.bind_some, if_true, vec_Cross.j0, Bool.not_true, Bool.false_eq_true, if_false]
  rw [wu64 v (by omega) (by omega), wu64 y (by omega) (by omega), wu64 x (by omega) (by omega), wu64 w (by omega) (by omega), mul_f v y (by omega) (by omega) (by omega) (by omega), mul_f x w (by omega) (by omega) (by omega) (by omega)]
  simp only [Option.bind_some]
  generalize v * y = p
  generalize x * w = q
  have j1 : ∀ b, vec_Cross.j1 (k + 1) (p / 18446744073709551616) (p % 18446744073709551616) (q / 18446744073709551616) (q % 18446744073709551616) b = some (if b = true then 1 else if p / 18446744073709551616 < q / 18446744073709551616 then -1 else if p % 18446744073709551616 < q % 18446744073709551616 then -1 else 0) := by
    intro b
    simp only [vec_Cross.j1]
    split
    · rfl
    · split
      · rfl
      · split <;> rfl
  rw [j1, j1, j1]
  unfold sgn
  by_cases h1 : p / 18446744073709551616 > q / 18446744073709551616
  · rw [if_pos h1, if_pos rfl, if_pos (by omega)]
  · rw [if_neg h1]
    by_cases h2 : p / 18446744073709551616 = q / 18446744073709551616
    · rw [if_pos h2]
      by_cases h3 : p % 18446744073709551616 > q % 18446744073709551616
      · rw [if_pos (decide_eq_true h3), if_pos (by omega)]
      · rw [if_neg (by simp; omega), if_neg (by omega), if_neg (c := p - q > 0) (by omega)]
        by_cases h4 : p % 18446744073709551616 < q % 18446744073709551616
        · rw [if_pos h4, if_pos (by omega)]
        · rw [if_neg h4, if_neg (by omega)]
    · rw [if_neg h2, if_neg (by simp), if_pos (by omega), if_neg (c := p - q > 0) (by omega), if_pos (by omega)]
theorem cross_no1 {a b : Int} (ha : Sm a) (hb : Sm b) (h : okP a b = false) {c d : Int} (hc : Sm c) (hd : Sm d) (k : Nat) : vec_Cross.f (k + 2) (C a b) (C c d) = some 0 := by
  unfold vec_Cross.f
  rw [parts_f ha hb, h, parts_f hc hd]
  simp [vec_Cross.j0]
theorem cross_no2 {a b : Int} (ha : Sm a) (hb : Sm b) (h : okP a b = false) {c d : Int} (hc : Sm c) (hd : Sm d) (k : Nat) : vec_Cross.f (k + 2) (C c d) (C a b) = some 0 := by
  unfold vec_Cross.f
  rw [parts_f ha hb, h, parts_f hc hd]
  cases okP c d <;> simp [vec_Cross.j0]
theorem steeper_in {v w x y : Int} (h : inB v w = true) (h' : inB x y = true) (k : Nat) : vec_Steeper.f (k + 2) (C (2 * v) (2 * w)) (C (2 * x) (2 * y)) = some (decide (v * y > x * w)) := by
  unfold vec_Steeper.f
  rw [cross_in h h']
  simp only [Option.bind_some]
  unfold sgn
  by_cases h1 : v * y - x * w > 0
  · rw [if_pos h1]; simp; omega
  · rw [if_neg h1]
    have : ¬ v * y > x * w := by omega
    split <;> simp [this]
/-! ### Sums -/
/-- The sum of a row, from a pair on. -/
def sumS : Int → Int → List (Int × Int) → C128 × Int
  | a, b, [] => (C a b, 0)
  | a, b, c :: r => if okP c.1 c.2 then (if okP (a + c.1) (b + c.2) then sumS (a + c.1) (b + c.2) r else (C 0 0, 11)) else (C 0 0, 11)
def row (l : List (Int × Int)) : List C128 := l.map fun c => C c.1 c.2
theorem rd_row (l : List (Int × Int)) {i : Nat} (h : i < l.length) : rdOf (⟨0, 0⟩ : C128) (row l) (i : Int) = C l[i].1 l[i].2 := by
  unfold rdOf row
  simp [List.getD_eq_getElem?_getD, h]
theorem drop_at {α : Type} {xs : List α} {i : Nat} (h : i < xs.length) : xs.drop i = xs[i] :: xs.drop (i + 1) := by
  rw [List.drop_eq_getElem_cons h]
theorem sum_l (l : List (Int × Int)) (hl : l.length ≤ 140737488351232) (hs : ∀ c ∈ l, Sm c.1 ∧ Sm c.2) : ∀ (d k i : Nat) (a b : Int), i + d = l.length → d < k → okP a b = true →
    vec_Sum.l0 k (C a b) (row l) (l.length : Int) (i : Int) = some (sumS a b (l.drop i)) := by
  intro d
  induction d with
  | zero =>
    intro k i a b hd hk _
    obtain ⟨k, rfl⟩ : ∃ m, k = m + 1 := ⟨k - 1, by omega⟩
    have : l.drop i = [] := List.drop_of_length_le (by omega)
    simp only [vec_Sum.l0]
    rw [if_neg (by omega), this]; rfl
  | succ d ih =>
    intro k i a b hd hk hab
    obtain ⟨k, rfl⟩ : ∃ m, k = m + 1 := ⟨k - 1, by omega⟩
    have hi : i < l.length := by omega
    have n1 : i + 1 + d = l.length := by omega
    have n2 : d < k := by omega
    have n3 : wrap64 ((i : Int) + 1) = ((i + 1 : Nat) : Int) := by rw [w64 (by omega) (by omega)]; omega
    have hc := hs l[i] (List.getElem_mem hi)
    have hlr : (row l).length = l.length := by simp [row]
    simp only [vec_Sum.l0]
    rw [if_pos (by omega), if_pos (by omega), if_pos (by rw [hlr]; omega), rd_row l hi, drop_at hi, pair_f hc.1 hc.2]
    simp only [Option.bind_some, sumS]
    cases h : okP l[i].1 l[i].2
    · simp [C_zero]
    · have h1 := okP_true.1 h
      have h2 := okP_true.1 hab
      have s1 : Sm a := Sm.of (by omega) (by omega)
      have s2 : Sm b := Sm.of (by omega) (by omega)
      have s3 : Sm (a + l[i].1) := Sm.of (by omega) (by omega)
      have s4 : Sm (b + l[i].2) := Sm.of (by omega) (by omega)
      obtain ⟨e1, e2⟩ := c_add s1 s2 hc.1 hc.2 s3 s4
      rw [if_pos rfl, if_pos e1, e2, made_f s3 s4]
      simp only [Option.bind_some]
      cases h3 : okP (a + l[i].1) (b + l[i].2)
      · simp [C_zero]
      · simp only [if_true]
        rw [n3]
        exact ih k (i + 1) (a + l[i].1) (b + l[i].2) n1 n2 h3
theorem sum_f (l : List (Int × Int)) (hl : l.length ≤ 140737488351232) (hs : ∀ c ∈ l, Sm c.1 ∧ Sm c.2) (k : Nat) (hk : l.length < k) : vec_Sum.f k (row l) = some (sumS 0 0 l) := by
  unfold vec_Sum.f
  have hlr : (row l).length = l.length := by simp [row]
  rw [← C_zero, hlr]
  have hz : 0 + l.length = l.length := Nat.zero_add _
  have ho : okP 0 0 = true := okP_true.2 (by omega)
  have h0 := sum_l l hl hs l.length k 0 0 0 hz hk ho
  rw [List.drop_zero] at h0
  exact h0
theorem awake_f (k : Nat) : coraclelaw15_awake.f (k + 4) = some true := by
  unfold coraclelaw15_awake.f
  have r1 : ([C (2 * 5) (2 * 2), C (2 * 1) (2 * 1)] : List C128) = row [(10, 4), (2, 2)] := rfl
  have r2 : ([] : List C128) = row [] := rfl
  have c1 : (⟨4602678819172646912, 0⟩ : C128) = C 1 0 := by unfold C; decide
  have c2 : sumS 0 0 [(10, 4), (2, 2)] = (C 12 6, 0) := by simp [sumS, okP]
  rw [pair15_in (v := 5) (w := 2) (by decide), pair15_in (v := 1) (w := 1) (by decide), pair15_in (v := 4) (w := 2) (by decide)]
  simp only [Option.bind_some]
  rw [r1, r2, sum_f [(10, 4), (2, 2)] (by decide) (by intro c hc; simp at hc; rcases hc with rfl | rfl <;> exact ⟨by decide, by decide⟩) _ (by simp), sum_f [] (by decide) (by simp) _ (by simp), c2, c1, parts_f (by decide) (by decide), of_f, steeper_in (by decide) (by decide)]
  have e1 : ceq (C 12 6).re (C 12 6).im 4618441417868443648 4613937818241073152 = true := by
    rw [show (4618441417868443648 : Nat) = (C 12 6).re by decide, show (4613937818241073152 : Nat) = (C 12 6).im by decide, c_eq (by decide) (by decide) (by decide) (by decide)]; decide
  have e2 : ceq (C 0 0).re (C 0 0).im 0 0 = true := by decide
  simp [e1, e2, sumS, inB, okP]
end Go.Proofs.Ytfoahgdaigfhoaa.VecSL
