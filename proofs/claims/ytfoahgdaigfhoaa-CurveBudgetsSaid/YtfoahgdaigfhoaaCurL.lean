/- What the functions of package curve, and the amounts they ask, tell: plain laws over the printed functions. -/
import Derived.Test.YtfoahgdaigfhoaaQCurx3
import Derived.Test.YtfoahgdaigfhoaaFltL
namespace Go.Proofs.Ytfoahgdaigfhoaa.CurL
open Go Go.RowKit Go.Proofs.Ytfoahgdaigfhoaa.QCur Go.Proofs.Ytfoahgdaigfhoaa.Hand Go.Proofs.Ytfoahgdaigfhoaa.Flt Go.Proofs.Ytfoahgdaigfhoaa.FltL Go.Proofs.YtfoahgdaigfhoaaW.PrintWords Go.Proofs.YtfoahgdaigfhoaaW.PrintLast Go.Proofs.YtfoahgdaigfhoaaW.PrintMore
set_option linter.unusedSimpArgs false
/-- A value times a weight, in two words. -/
theorem mul_f (a b : Int) (ha : 0 ≤ a) (ha' : a < 2251799813685248) (hb : 0 ≤ b) (hb' : b < 4194304) : bits_Mul64.f a b = some (a * b / 18446744073709551616, a * b % 18446744073709551616) := by
  unfold bits_Mul64.f
  have eb : b / 4294967296 = 0 := by omega
  rw [and_low a ha (by omega), and_low b hb (by omega), eb, show b % 4294967296 = b by omega]
  simp only [Int.mul_zero]
  have e : a * b = 4294967296 * (a / 4294967296 * b) + a % 4294967296 * b := by
    conv => lhs; rw [show a = 4294967296 * (a / 4294967296) + a % 4294967296 by omega]
    rw [Int.add_mul, Int.mul_assoc]
  have p1 : 0 ≤ a / 4294967296 * b := Int.mul_nonneg (by omega) hb
  have p2 : a / 4294967296 * b ≤ 524288 * 4194304 := Int.mul_le_mul (by omega) (by omega) hb (by omega)
  have q1 : 0 ≤ a % 4294967296 * b := Int.mul_nonneg (by omega) hb
  have q2 : a % 4294967296 * b ≤ 4294967296 * 4194304 := Int.mul_le_mul (by omega) (by omega) hb (by omega)
  generalize a / 4294967296 * b = p at *
  generalize a % 4294967296 * b = q at *
  rw [e]
  rw [wu64 p (by omega) (by omega), wu64 q (by omega) (by omega), wu64 0 (by omega) (by omega)]
  simp only [Option.bind_some, Int.zero_add, Int.add_zero]
  rw [wu64 (p + q / 4294967296) (by omega) (by omega), and_low (p + q / 4294967296) (by omega) (by omega)]
  rw [wu64 ((p + q / 4294967296) / 4294967296) (by omega) (by omega), wu64 ((p + q / 4294967296) % 4294967296) (by omega) (by omega)]
  have z : (p + q / 4294967296) % 4294967296 / 4294967296 = 0 := by omega
  rw [z, Int.add_zero, wu64 _ (by omega) (by omega)]
  have w : IntKind.u64.wrap (4294967296 * p + q) = (4294967296 * p + q) % 18446744073709551616 := by
    simp [IntKind.wrap, IntKind.bits, IntKind.signed]
  rw [w]
  congr 2; omega


theorem whole_f {a L H : Int} (ha : Sm a) (hL : Sm L) (hH : Sm H) : curve_whole.f (G a) (G L) (G H) = some (decide (L ≤ a) && decide (a ≤ H) && decide (a % 2 = 0)) := by
  unfold curve_whole.f
  rw [f_ge ha hL, f_le ha hH, (f_trunc ha).1]
  simp only [Option.bind_some, (f_trunc ha).2]
  by_cases h1 : L ≤ a <;> by_cases h2 : a ≤ H <;> simp [h1, h2]
def pointB (a b : Int) : Bool := decide (0 ≤ a) && decide (a ≤ 2000000) && decide (a % 2 = 0) && (decide (506 ≤ b) && decide (b ≤ 2000000000) && decide (b % 2 = 0))
theorem pointB_true {a b : Int} : pointB a b = true ↔ (0 ≤ a ∧ a ≤ 2000000 ∧ a % 2 = 0) ∧ 506 ≤ b ∧ b ≤ 2000000000 ∧ b % 2 = 0 := by
  simp [pointB, and_assoc]
theorem c0 : (0 : Nat) = G 0 := by decide
theorem cH : (4696837146684686336 : Nat) = G 2000000 := by decide
theorem cm : (4643105662702714880 : Nat) = G 506 := by decide
theorem cM : (4741671816366391296 : Nat) = G 2000000000 := by decide
theorem point_f {a b : Int} (ha : Sm a) (hb : Sm b) : curve_point.f (C a b) = some (pointB a b) := by
  unfold curve_point.f C
  rw [c0, cH, cm, cM, whole_f ha (by decide) (by decide), whole_f hb (by decide) (by decide)]
  simp only [Option.bind_some]
  unfold pointB
  cases (decide (0 ≤ a) && decide (a ≤ 2000000) && decide (a % 2 = 0)) <;> simp
/-- Far from what runs over. -/
def Sn (h : Int) : Prop := -4000000000000 ≤ h ∧ h ≤ 4000000000000
theorem Sn.sm {h : Int} (x : Sn h) : Sm h := by unfold Sn at x; exact Sm.of (by omega) (by omega)
theorem Sn.sub {h g : Int} (x : Sn h) (y : Sn g) : Sm (h - g) := by unfold Sn at x y; exact Sm.of (by omega) (by omega)
theorem line_f {a b c d : Int} (ha : Sn a) (hb : Sn b) (hc : Sn c) (hd : Sn d) :
    curve_Line.f (C a b) (C c d) = some (if pointB a b && pointB c d && (decide (a ≤ c) && decide (b ≤ d)) then (C a b, C c d, 0) else (C 0 0, C 0 0, 1)) := by
  obtain ⟨e1, e2⟩ := c_sub hc.sm hd.sm ha.sm hb.sm (hc.sub ha) (hd.sub hb)
  have q1 := congrArg C128.re e2
  have q2 := congrArg C128.im e2
  simp only at q1 q2
  unfold curve_Line.f
  rw [if_pos e1, q1, q2, point_f ha.sm hb.sm, point_f hc.sm hd.sm]
  have z1 : flt (C (c - a) (d - b)).re 0 = decide (c - a < 0) := by
    rw [c0]; exact f_lt (hc.sub ha) (by decide)
  have z2 : flt (C (c - a) (d - b)).im 0 = decide (d - b < 0) := by
    rw [c0]; exact f_lt (hd.sub hb) (by decide)
  rw [z1, z2, ← C_zero]
  simp only [Option.bind_some]
  cases pointB a b
  · simp
  · cases pointB c d
    · simp
    · by_cases h1 : a ≤ c
      · by_cases h2 : b ≤ d
        · have n1 : ¬ c - a < 0 := by omega
          have n2 : ¬ d - b < 0 := by omega
          simp [h1, h2, n1, n2]
        · have n1 : ¬ c - a < 0 := by omega
          have n2 : d - b < 0 := by omega
          simp [h1, h2, n1, n2]
      · have n1 : c - a < 0 := by omega
        simp [h1, n1]
/-- Is there a line? -/
def lineB (f l t h : Int) : Bool := decide (0 ≤ f) && decide (f ≤ t) && decide (t ≤ 1000000) && (decide (253 ≤ l) && decide (l ≤ h) && decide (h ≤ 1000000000))
theorem lineB_true {f l t h : Int} : lineB f l t h = true ↔ (0 ≤ f ∧ f ≤ t ∧ t ≤ 1000000) ∧ 253 ≤ l ∧ l ≤ h ∧ h ≤ 1000000000 := by
  simp [lineB, and_assoc]
theorem line_in {f l t h : Int} (x : lineB f l t h = true) : curve_Line.f (C (2 * f) (2 * l)) (C (2 * t) (2 * h)) = some (C (2 * f) (2 * l), C (2 * t) (2 * h), 0) := by
  have hb := lineB_true.1 x
  rw [line_f ⟨by omega, by omega⟩ ⟨by omega, by omega⟩ ⟨by omega, by omega⟩ ⟨by omega, by omega⟩, if_pos]
  rw [Bool.and_eq_true, Bool.and_eq_true, pointB_true, pointB_true, Bool.and_eq_true, decide_eq_true_eq, decide_eq_true_eq]
  omega
/-- The rate at a height. -/
def atV (f l t h x : Int) : Int := if x < f then l else if t ≤ x then h else l + (h - l) * (x - f) / (t - f)
theorem mn_min (a b : Int) : mn a b = min a b := by unfold mn; split <;> omega
theorem mx_max (a b : Int) : mx a b = max a b := by unfold mx; split <;> omega
theorem at_mid {f l t h x : Int} (hb : (0 ≤ f ∧ f ≤ t ∧ t ≤ 1000000) ∧ 253 ≤ l ∧ l ≤ h ∧ h ≤ 1000000000) (h0 : f ≤ x) (h1 : x < t) :
    0 ≤ (h - l) * (x - f) ∧ (h - l) * (x - f) ≤ 1000000000 * 1000000 ∧ 0 ≤ (h - l) * (x - f) / (t - f) ∧ (h - l) * (x - f) / (t - f) ≤ h - l := by
  have p0 : 0 ≤ (h - l) * (x - f) := Int.mul_nonneg (by omega) (by omega)
  have p1 : (h - l) * (x - f) ≤ 1000000000 * 1000000 := Int.mul_le_mul (by omega) (by omega) (by omega) (by omega)
  refine ⟨p0, p1, Int.ediv_nonneg p0 (by omega), ?_⟩
  have : (h - l) * (x - f) ≤ (h - l) * (t - f) := Int.mul_le_mul_of_nonneg_left (by omega) (by omega)
  have := Int.ediv_le_ediv (show 0 < t - f by omega) this
  rwa [Int.mul_ediv_cancel _ (by omega)] at this
theorem at_f {f l t h : Int} (y : lineB f l t h = true) (x : Int) : curve_Curve_At.f (C (2 * f) (2 * l)) (C (2 * t) (2 * h)) x = some (atV f l t h x) := by
  have hb := lineB_true.1 y
  have sf : Sn (2 * f) := ⟨by omega, by omega⟩
  have sl : Sn (2 * l) := ⟨by omega, by omega⟩
  have st : Sn (2 * t) := ⟨by omega, by omega⟩
  have sh : Sn (2 * h) := ⟨by omega, by omega⟩
  obtain ⟨e1, e2⟩ := c_sub st.sm sh.sm sf.sm sl.sm (st.sub sf) (sh.sub sl)
  have q1 := congrArg C128.re e2
  have q2 := congrArg C128.im e2
  simp only at q1 q2
  unfold curve_Curve_At.f
  rw [line_in y]
  simp only [Option.bind_some, if_true]
  rw [if_pos e1, q1, q2]
  unfold C
  simp only []
  rw [(f_toi (st.sub sf)).1, (f_toi (sh.sub sl)).1, (f_toi sf.sm).1, (f_toi sl.sm).1, (f_toi sh.sm).1, (f_toi (st.sub sf)).2, (f_toi (sh.sub sl)).2, (f_toi sf.sm).2, (f_toi sl.sm).2, (f_toi sh.sm).2]
  simp only [if_true]
  have t1 : Int.tdiv (2 * t - 2 * f) 2 = t - f := by have := tdiv2 (2 * t - 2 * f); omega
  have t2 : Int.tdiv (2 * h - 2 * l) 2 = h - l := by have := tdiv2 (2 * h - 2 * l); omega
  have t3 : Int.tdiv (2 * f) 2 = f := by have := tdiv2 (2 * f); omega
  have t4 : Int.tdiv (2 * l) 2 = l := by have := tdiv2 (2 * l); omega
  have t5 : Int.tdiv (2 * h) 2 = h := by have := tdiv2 (2 * h); omega
  rw [t1, t2, t3, t4, t5, mx_max, mn_min, w64 (n := min (max x (-1)) 1000001 - f) (by omega) (by omega)]
  unfold atV
  by_cases h1 : x < f
  · rw [if_pos (by omega), if_pos h1]
  · rw [if_neg (by omega), if_neg h1]
    by_cases h2 : t ≤ x
    · rw [if_pos (by omega), if_pos h2]
    · rw [if_neg (by omega), if_neg h2]
      have hm : min (max x (-1)) 1000001 = x := by omega
      have hp := at_mid hb (show f ≤ x by omega) (show x < t by omega)
      rw [hm, wu64 (h - l) (by omega) (by omega), wu64 (x - f) (by omega) (by omega), wu64 (t - f) (by omega) (by omega), mul_f (h - l) (x - f) (by omega) (by omega) (by omega) (by omega)]
      generalize (h - l) * (x - f) = p at *
      simp only [Option.bind_some]
      unfold bits_Div64.f
      rw [if_pos (by omega), if_pos (by omega), if_pos (by omega), if_pos (by omega), show p % 18446744073709551616 = p by omega]
      simp only [Option.bind_some]
      rw [w64 (n := p / (t - f)) (by omega) (by omega), w64 (n := l + p / (t - f)) (by omega) (by omega)]
theorem at_no {a b c d : Int} (ha : Sn a) (hb : Sn b) (hc : Sn c) (hd : Sn d) (hn : (pointB a b && pointB c d && (decide (a ≤ c) && decide (b ≤ d))) = false) (x : Int) : curve_Curve_At.f (C a b) (C c d) x = some 0 := by
  unfold curve_Curve_At.f
  rw [line_f ha hb hc hd, hn]
  simp
theorem atV_mono {f l t h : Int} (y : lineB f l t h = true) {x x' : Int} (hx : x ≤ x') : atV f l t h x ≤ atV f l t h x' := by
  have hb := lineB_true.1 y
  unfold atV
  by_cases a : x < f
  · rw [if_pos a]
    by_cases b : x' < f
    · rw [if_pos b]; exact Int.le_refl _
    · rw [if_neg b]
      by_cases c : t ≤ x'
      · rw [if_pos c]; omega
      · rw [if_neg c]
        have := at_mid hb (show f ≤ x' by omega) (show x' < t by omega)
        omega
  · rw [if_neg a, if_neg (show ¬ x' < f by omega)]
    by_cases c : t ≤ x
    · rw [if_pos c, if_pos (by omega)]; exact Int.le_refl _
    · rw [if_neg c]
      have m1 := at_mid hb (show f ≤ x by omega) (show x < t by omega)
      by_cases d : t ≤ x'
      · rw [if_pos d]; omega
      · rw [if_neg d]
        have : (h - l) * (x - f) ≤ (h - l) * (x' - f) := Int.mul_le_mul_of_nonneg_left (by omega) (by omega)
        have := Int.ediv_le_ediv (show 0 < t - f by omega) this
        omega
theorem atV_bounds {f l t h : Int} (y : lineB f l t h = true) (x : Int) : l ≤ atV f l t h x ∧ atV f l t h x ≤ h := by
  have hb := lineB_true.1 y
  unfold atV
  split
  · omega
  · split
    · omega
    · have := at_mid hb (show f ≤ x by omega) (show x < t by omega)
      omega
/-- A search by halves finds the first. -/
theorem search_f (P : Int → Bool) (mono : ∀ x y, x ≤ y → P x = true → P y = true) : ∀ (k : Nat) (i j : Int), i ≤ j → j - i < 2 ^ k →
    ∃ m, searchL (fun h => some (P h)) (k + 1) i j = some m ∧ i ≤ m ∧ m ≤ j ∧ (∀ h, i ≤ h → h < m → P h = false) ∧ (∀ h, m ≤ h → h < j → P h = true) := by
  intro k
  induction k with
  | zero =>
    intro i j h0 h1
    have : i = j := by simp at h1; omega
    subst this
    refine ⟨i, ?_, Int.le_refl _, Int.le_refl _, fun h a b => by omega, fun h a b => by omega⟩
    simp only [searchL]
    rw [if_neg (by omega)]
  | succ k ih =>
    intro i j h0 h1
    rw [Int.pow_succ] at h1
    have hp : (0 : Int) < 2 ^ k := Int.pow_pos (by decide)
    generalize (2 : Int) ^ k = X at *
    by_cases c : i < j
    · rcases hb : P ((i + j) / 2) with _ | _
      · obtain ⟨m, hm, m0, m1, m2, m3⟩ := ih ((i + j) / 2 + 1) j (by omega) (by omega)
        refine ⟨m, ?_, by omega, m1, fun h a b => ?_, m3⟩
        · conv => lhs; unfold searchL
          rw [if_pos c, hb]; simpa using hm
        · by_cases e : (i + j) / 2 + 1 ≤ h
          · exact m2 h e b
          · cases hq : P h
            · rfl
            · rw [mono h _ (by omega) hq] at hb; cases hb
      · obtain ⟨m, hm, m0, m1, m2, m3⟩ := ih i ((i + j) / 2) (by omega) (by omega)
        refine ⟨m, ?_, m0, by omega, m2, fun h a b => ?_⟩
        · conv => lhs; unfold searchL
          rw [if_pos c, hb]; simpa using hm
        · by_cases e : h < (i + j) / 2
          · exact m3 h a e
          · exact mono _ _ (by omega) hb
    · have : i = j := by omega
      subst this
      refine ⟨i, ?_, Int.le_refl _, Int.le_refl _, fun h a b => by omega, fun h a b => by omega⟩
      unfold searchL
      rw [if_neg (by omega)]
theorem first_f {f l t h : Int} (y : lineB f l t h = true) (r : Int) (k : Nat) : ∃ n, curve_First.f (k + 21) (C (2 * f) (2 * l)) (C (2 * t) (2 * h)) r = some n ∧
    ((n = -1 ∧ ∀ x, 0 ≤ x → x ≤ 1000000 → atV f l t h x < r) ∨ (0 ≤ n ∧ n ≤ 1000000 ∧ r ≤ atV f l t h n ∧ ∀ x, 0 ≤ x → x < n → atV f l t h x < r)) := by
  have hg : firstG (C (2 * f) (2 * l)) (C (2 * t) (2 * h)) r = fun x => some (decide (r ≤ atV f l t h x)) := by
    funext x
    unfold firstG
    rw [at_f y]; rfl
  obtain ⟨m, hm, m0, m1, m2, m3⟩ := search_f (fun x => decide (r ≤ atV f l t h x)) (fun a b hab ha => by
    have := atV_mono y hab
    simp only [decide_eq_true_eq] at ha ⊢
    omega) 20 0 1000001 (by decide) (by decide)
  have hm' : searchL (firstG (C (2 * f) (2 * l)) (C (2 * t) (2 * h)) r) (k + 21) 0 1000001 = some m := by
    rw [hg]
    exact at_rounds (g := fun k => searchL (fun x => some (decide (r ≤ atV f l t h x))) k 0 1000001) (fun k => searchL.mono _ k _ _) (show 20 + 1 ≤ k + 21 by omega) hm
  unfold curve_First.f
  rw [hm']
  simp only [Option.bind_some]
  by_cases c : m > 1000000
  · rw [if_pos c]
    refine ⟨-1, rfl, .inl ⟨rfl, fun x a b => ?_⟩⟩
    have := m2 x a (by omega)
    simp only [decide_eq_false_iff_not] at this
    omega
  · rw [if_neg c]
    refine ⟨m, rfl, .inr ⟨m0, by omega, ?_, fun x a b => ?_⟩⟩
    · have := m3 m (Int.le_refl _) (by omega)
      simpa using this
    · have := m2 x a b
      simp only [decide_eq_false_iff_not] at this
      omega
theorem awake_f (k : Nat) : coraclelaw16_awake.f (k + 21) = some true := by
  unfold coraclelaw16_awake.f
  have y : lineB 0 1000 10 2000 = true := by decide
  have e1 : (⟨0, 4652007308841189376⟩ : C128) = C (2 * 0) (2 * 1000) := by unfold C; decide
  have e2 : (⟨4621819117588971520, 4656510908468559872⟩ : C128) = C (2 * 10) (2 * 2000) := by unfold C; decide
  have e3 : (⟨4617315517961601024, 4652007308841189376⟩ : C128) = C 10 2000 := by unfold C; decide
  have e4 : (⟨4616189618054758400, 4656510908468559872⟩ : C128) = C 8 4000 := by unfold C; decide
  have e5 : (⟨0, 4643070478330626048⟩ : C128) = C 0 504 := by unfold C; decide
  rw [e1, e2, e3, e4, e5, line_in y, line_f (a := 10) (b := 2000) (c := 8) (d := 4000) ⟨by omega, by omega⟩ ⟨by omega, by omega⟩ ⟨by omega, by omega⟩ ⟨by omega, by omega⟩, line_f (a := 0) (b := 504) (c := 8) (d := 4000) ⟨by omega, by omega⟩ ⟨by omega, by omega⟩ ⟨by omega, by omega⟩ ⟨by omega, by omega⟩, if_neg (by decide), if_neg (by decide), ← C_zero, at_no (a := 0) (b := 0) (c := 0) (d := 0) ⟨by omega, by omega⟩ ⟨by omega, by omega⟩ ⟨by omega, by omega⟩ ⟨by omega, by omega⟩ (by decide)]
  simp only [Option.bind_some, if_true]
  rw [at_f y, at_f y, at_f y]
  have v1 : atV 0 1000 10 2000 5 = 1500 := by decide
  have v2 : atV 0 1000 10 2000 (-1) = 1000 := by decide
  have v3 : atV 0 1000 10 2000 10 = 2000 := by decide
  obtain ⟨n1, h1, c1⟩ := first_f y 1500 k
  obtain ⟨n2, h2, c2⟩ := first_f y 2001 k
  have r1 : n1 = 5 := by
    rcases c1 with ⟨_, hn⟩ | ⟨a, b, c, d⟩
    · have := hn 5 (by omega) (by omega); omega
    · rcases Int.lt_trichotomy n1 5 with e | e | e
      · have := atV_mono y (show n1 ≤ 4 by omega)
        have v4 : atV 0 1000 10 2000 4 = 1400 := by decide
        omega
      · exact e
      · have := d 5 (by omega) e; omega
  have r2 : n2 = -1 := by
    rcases c2 with ⟨e, _⟩ | ⟨a, b, c, d⟩
    · exact e
    · have := atV_bounds y n2; omega
  rw [h1, h2, r1, r2, v1, v2, v3]
  simp
/-- The document's rate. -/
theorem rat_f {f l t h : Int} (y : lineB f l t h = true) (x : Int) (k : Nat) : coracleref1_At.f (k + 1) f l t h x = some (atV f l t h x) := by
  have hb := lineB_true.1 y
  unfold coracleref1_At.f atV
  have j0 : ∀ b, coracleref1_At.j0 (k + 1) f l t h x b = if b = true then some h else if x ≤ f then some l else if wrap64 (t - f) = 0 then none else some (wrap64 (l + wrap64 (Int.tdiv (wrap64 (wrap64 (h - l) * wrap64 (x - f))) (wrap64 (t - f))))) := by
    intro b; simp only [coracleref1_At.j0]; rfl
  by_cases a : x ≥ t
  · rw [if_pos a]
    by_cases b : t > f
    · rw [if_pos b, j0, if_pos rfl, if_neg (by omega), if_pos (by omega)]
    · rw [if_neg b, j0]
      by_cases c : x ≥ f
      · rw [if_pos (by simpa using c), if_neg (by omega), if_pos (by omega)]
      · rw [if_neg (by simpa using c), if_pos (by omega), if_pos (by omega)]
  · rw [if_neg a, j0, if_neg (by simp)]
    by_cases c : x ≤ f
    · rw [if_pos c]
      by_cases d : x < f
      · rw [if_pos d]
      · have : x = f := by omega
        subst this
        rw [if_neg d, if_neg (by omega), Int.sub_self, Int.mul_zero, Int.zero_ediv, Int.add_zero]
    · have hp := at_mid hb (show f ≤ x by omega) (show x < t by omega)
      rw [if_neg c, if_neg (show ¬ x < f by omega), if_neg (show ¬ t ≤ x by omega), w64 (n := t - f) (by omega) (by omega), if_neg (by omega), w64 (n := h - l) (by omega) (by omega), w64 (n := x - f) (by omega) (by omega), w64 (n := (h - l) * (x - f)) (by omega) (by omega), Int.tdiv_eq_ediv_of_nonneg hp.1, w64 (n := (h - l) * (x - f) / (t - f)) (by omega) (by omega), w64 (by omega) (by omega)]
theorem i_f (n : Int) (h0 : -4503599627370496 < n) (h1 : n < 4503599627370496) : fint n = G (2 * n) := f_int n h0 h1
end Go.Proofs.Ytfoahgdaigfhoaa.CurL
