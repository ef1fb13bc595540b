import Derived.Test.YtiodebjjbgcbhaaGreatQLefx2
import Derived.Test.YtiodebjjbgcbhaaGreatFltL
namespace Go.Proofs.YtiodebjjbgcbhaaGreat.LefL
open Go Go.RowKit Go.Proofs YtiodebjjbgcbhaaGreatW.PrintWords YtiodebjjbgcbhaaGreatW.PrintLast YtiodebjjbgcbhaaGreatW.PrintMore YtiodebjjbgcbhaaGreat QLef Hand Flt FltL
set_option linter.unusedSimpArgs false
theorem mul_f (a b : Int) (ha : 0 ≤ a) (ha' : a < 2251799813685248) (hb : 0 ≤ b) (hb' : b < 4194304) : bits_Mul64.f a b = some (a * b / 18446744073709551616, a * b % 18446744073709551616) := by
 unfold bits_Mul64.f
 have eb : b / 4294967296 = 0 := by omega
 rw [and_low a ha (by omega), and_low b hb (by omega), eb, show b % 4294967296 = b by omega]
 simp only [Int.mul_zero]
 have e : a * b = 4294967296 * (a / 4294967296 * b) + a % 4294967296 * b := by
  conv => lhs; rw [show a = 4294967296 * (a / 4294967296) + a % 4294967296 by omega]
  rw [Int.add_mul, Int.mul_assoc]
 have p1 : 0 ≤ a / 4294967296 * b := Int.mul_nonneg (by omega) hb
 have p2 : a / 4294967296 * b ≤ 524288 * 4194304 := Int.mul_le_mul (by omega) (by omega) hb (by omega)
 have q1 : 0 ≤ a % 4294967296 * b := Int.mul_nonneg (by omega) hb
 have q2 : a % 4294967296 * b ≤ 4294967296 * 4194304 := Int.mul_le_mul (by omega) (by omega) hb (by omega)
 generalize a / 4294967296 * b = p at *
 generalize a % 4294967296 * b = q at *
 rw [e]
 rw [wu64 p (by omega) (by omega), wu64 q (by omega) (by omega), wu64 0 (by omega) (by omega)]
 simp only [Option.bind_some, Int.zero_add, Int.add_zero]
 rw [wu64 (p + q / 4294967296) (by omega) (by omega), and_low (p + q / 4294967296) (by omega) (by omega)]
 rw [wu64 ((p + q / 4294967296) / 4294967296) (by omega) (by omega), wu64 ((p + q / 4294967296) % 4294967296) (by omega) (by omega)]
 have z : (p + q / 4294967296) % 4294967296 / 4294967296 = 0 := by omega
 rw [z, Int.add_zero, wu64 _ (by omega) (by omega)]
 have w : IntKind.u64.wrap (4294967296 * p + q) = (4294967296 * p + q) % 18446744073709551616 := by
  simp [IntKind.wrap, IntKind.bits, IntKind.signed]
 rw [w]
 congr 2; omega
theorem whole_f {a L H : Int} (ha : Sm a) (hL : Sm L) (hH : Sm H) : curve_whole.f (G a) (G L) (G H) = some (decide (L ≤ a) && decide (a ≤ H) && decide (a % 2 = 0)) := by
 unfold curve_whole.f
 rw [f_ge ha hL, f_le ha hH, (f_trunc ha).1]
 simp only [Option.bind_some, (f_trunc ha).2]
 by_cases h1 : L ≤ a <;> by_cases h2 : a ≤ H <;> simp [h1, h2]
def pointB (a b : Int) : Bool := decide (0 ≤ a) && decide (a ≤ 2000000) && decide (a % 2 = 0) && (decide (506 ≤ b) && decide (b ≤ 2000000000) && decide (b % 2 = 0))
theorem pointB_true {a b : Int} : pointB a b = true ↔ (0 ≤ a ∧ a ≤ 2000000 ∧ a % 2 = 0) ∧ 506 ≤ b ∧ b ≤ 2000000000 ∧ b % 2 = 0 := by
 simp [pointB, and_assoc]
theorem c0 : (0 : Nat) = G 0 := by decide
theorem cH : (4696837146684686336 : Nat) = G 2000000 := by decide
theorem cm : (4643105662702714880 : Nat) = G 506 := by decide
theorem cM : (4741671816366391296 : Nat) = G 2000000000 := by decide
theorem point_f {a b : Int} (ha : Sm a) (hb : Sm b) : curve_point.f (C a b) = some (pointB a b) := by
 unfold curve_point.f C
 rw [c0, cH, cm, cM, whole_f ha (by decide) (by decide), whole_f hb (by decide) (by decide)]
 simp only [Option.bind_some]
 unfold pointB
 cases (decide (0 ≤ a) && decide (a ≤ 2000000) && decide (a % 2 = 0)) <;> simp
def Sn (h : Int) : Prop := -4000000000000 ≤ h ∧ h ≤ 4000000000000
theorem Sn.sm {h : Int} (x : Sn h) : Sm h := by unfold Sn at x; exact Sm.of (by omega) (by omega)
theorem Sn.sub {h g : Int} (x : Sn h) (y : Sn g) : Sm (h - g) := by unfold Sn at x y; exact Sm.of (by omega) (by omega)
theorem line_f {a b c d : Int} (ha : Sn a) (hb : Sn b) (hc : Sn c) (hd : Sn d) :
 curve_Line.f (C a b) (C c d) = some (if pointB a b && pointB c d && (decide (a ≤ c) && decide (b ≤ d)) then (C a b, C c d, 0) else (C 0 0, C 0 0, 1)) := by
 obtain ⟨e1, e2⟩ := c_sub hc.sm hd.sm ha.sm hb.sm (hc.sub ha) (hd.sub hb)
 have q1 := congrArg C128.re e2
 have q2 := congrArg C128.im e2
 simp only at q1 q2
 unfold curve_Line.f
 rw [if_pos e1, q1, q2, point_f ha.sm hb.sm, point_f hc.sm hd.sm]
 have z1 : flt (C (c - a) (d - b)).re 0 = decide (c - a < 0) := by
  rw [c0]; exact f_lt (hc.sub ha) (by decide)
 have z2 : flt (C (c - a) (d - b)).im 0 = decide (d - b < 0) := by
  rw [c0]; exact f_lt (hd.sub hb) (by decide)
 rw [z1, z2, ← C_zero]
 simp only [Option.bind_some]
 cases pointB a b
 ·simp
 ·cases pointB c d
  ·simp
  ·by_cases h1 : a ≤ c
   ·by_cases h2 : b ≤ d
    ·have n1 : ¬ c - a < 0 := by omega
     have n2 : ¬ d - b < 0 := by omega
     simp [h1, h2, n1, n2]
    ·have n1 : ¬ c - a < 0 := by omega
     have n2 : d - b < 0 := by omega
     simp [h1, h2, n1, n2]
   ·have n1 : c - a < 0 := by omega
    simp [h1, n1]
def lineB (f l t h : Int) : Bool := decide (0 ≤ f) && decide (f ≤ t) && decide (t ≤ 1000000) && (decide (253 ≤ l) && decide (l ≤ h) && decide (h ≤ 1000000000))
theorem lineB_true {f l t h : Int} : lineB f l t h = true ↔ (0 ≤ f ∧ f ≤ t ∧ t ≤ 1000000) ∧ 253 ≤ l ∧ l ≤ h ∧ h ≤ 1000000000 := by
 simp [lineB, and_assoc]
theorem line_in {f l t h : Int} (x : lineB f l t h = true) : curve_Line.f (C (2 * f) (2 * l)) (C (2 * t) (2 * h)) = some (C (2 * f) (2 * l), C (2 * t) (2 * h), 0) := by
 have hb := lineB_true.1 x
 rw [line_f ⟨by omega, by omega⟩ ⟨by omega, by omega⟩ ⟨by omega, by omega⟩ ⟨by omega, by omega⟩, if_pos]
 rw [Bool.and_eq_true, Bool.and_eq_true, pointB_true, pointB_true, Bool.and_eq_true, decide_eq_true_eq, decide_eq_true_eq]
 omega
def atV (f l t h x : Int) : Int := if x < f then l else if t ≤ x then h else l + (h - l) * (x - f) / (t - f)
theorem mn_min (a b : Int) : mn a b = min a b := by unfold mn; split <;> omega
theorem mx_max (a b : Int) : mx a b = max a b := by unfold mx; split <;> omega
theorem at_mid {f l t h x : Int} (hb : (0 ≤ f ∧ f ≤ t ∧ t ≤ 1000000) ∧ 253 ≤ l ∧ l ≤ h ∧ h ≤ 1000000000) (h0 : f ≤ x) (h1 : x < t) :
 0 ≤ (h - l) * (x - f) ∧ (h - l) * (x - f) ≤ 1000000000 * 1000000 ∧ 0 ≤ (h - l) * (x - f) / (t - f) ∧ (h - l) * (x - f) / (t - f) ≤ h - l := by
 have p0 : 0 ≤ (h - l) * (x - f) := Int.mul_nonneg (by omega) (by omega)
 have p1 : (h - l) * (x - f) ≤ 1000000000 * 1000000 := Int.mul_le_mul (by omega) (by omega) (by omega) (by omega)
 refine ⟨p0, p1, Int.ediv_nonneg p0 (by omega), ?_⟩
 have : (h - l) * (x - f) ≤ (h - l) * (t - f) := Int.mul_le_mul_of_nonneg_left (by omega) (by omega)
 have := Int.ediv_le_ediv (show 0 < t - f by omega) this
 rwa [Int.mul_ediv_cancel _ (by omega)] at this
theorem at_f {f l t h : Int} (y : lineB f l t h = true) (x : Int) : curve_Curve_At.f (C (2 * f) (2 * l)) (C (2 * t) (2 * h)) x = some (atV f l t h x) := by
 have hb := lineB_true.1 y
 have sf : Sn (2 * f) := ⟨by omega, by omega⟩
 have sl : Sn (2 * l) := ⟨by omega, by omega⟩
 have st : Sn (2 * t) := ⟨by omega, by omega⟩
 have sh : Sn (2 * h) := ⟨by omega, by omega⟩
 obtain ⟨e1, e2⟩ := c_sub st.sm sh.sm sf.sm sl.sm (st.sub sf) (sh.sub sl)
 have q1 := congrArg C128.re e2
 have q2 := congrArg C128.im e2
 simp only at q1 q2
 unfold curve_Curve_At.f
 rw [line_in y]
 simp only [Option.bind_some, if_true]
 rw [if_pos e1, q1, q2]
 unfold C
 simp only []
 rw [(f_toi (st.sub sf)).1, (f_toi (sh.sub sl)).1, (f_toi sf.sm).1, (f_toi sl.sm).1, (f_toi sh.sm).1, (f_toi (st.sub sf)).2, (f_toi (sh.sub sl)).2, (f_toi sf.sm).2, (f_toi sl.sm).2, (f_toi sh.sm).2]
 simp only [if_true]
 have t1 : Int.tdiv (2 * t - 2 * f) 2 = t - f := by have := tdiv2 (2 * t - 2 * f); omega
 have t2 : Int.tdiv (2 * h - 2 * l) 2 = h - l := by have := tdiv2 (2 * h - 2 * l); omega
 have t3 : Int.tdiv (2 * f) 2 = f := by have := tdiv2 (2 * f); omega
 have t4 : Int.tdiv (2 * l) 2 = l := by have := tdiv2 (2 * l); omega
 have t5 : Int.tdiv (2 * h) 2 = h := by have := tdiv2 (2 * h); omega
 rw [t1, t2, t3, t4, t5, mx_max, mn_min, w64 (n := min (max x (-1)) 1000001 - f) (by omega) (by omega)]
 unfold atV
 by_cases h1 : x < f
 ·rw [if_pos (by omega), if_pos h1]
 ·rw [if_neg (by omega), if_neg h1]
  by_cases h2 : t ≤ x
  ·rw [if_pos (by omega), if_pos h2]
  ·rw [if_neg (by omega), if_neg h2]
   have hm : min (max x (-1)) 1000001 = x := by omega
   have hp := at_mid hb (show f ≤ x by omega) (show x < t by omega)
   rw [hm, wu64 (h - l) (by omega) (by omega), wu64 (x - f) (by omega) (by omega), wu64 (t - f) (by omega) (by omega), mul_f (h - l) (x - f) (by omega) (by omega) (by omega) (by omega)]
   generalize (h - l) * (x - f) = p at *
   simp only [Option.bind_some]
   unfold bits_Div64.f
   rw [if_pos (by omega), if_pos (by omega), if_pos (by omega), if_pos (by omega), show p % 18446744073709551616 = p by omega]
   simp only [Option.bind_some]
   rw [w64 (n := p / (t - f)) (by omega) (by omega), w64 (n := l + p / (t - f)) (by omega) (by omega)]
theorem at_no {a b c d : Int} (ha : Sn a) (hb : Sn b) (hc : Sn c) (hd : Sn d) (hn : (pointB a b && pointB c d && (decide (a ≤ c) && decide (b ≤ d))) = false) (x : Int) : curve_Curve_At.f (C a b) (C c d) x = some 0 := by
 unfold curve_Curve_At.f
 rw [line_f ha hb hc hd, hn]
 simp
theorem atV_bounds {f l t h : Int} (y : lineB f l t h = true) (x : Int) : l ≤ atV f l t h x ∧ atV f l t h x ≤ h := by
 have hb := lineB_true.1 y
 unfold atV
 split
 ·omega
 ·split
  ·omega
  ·have := at_mid hb (show f ≤ x by omega) (show x < t by omega)
   omega
theorem i_f (n : Int) (h0 : -4503599627370496 < n) (h1 : n < 4503599627370496) : fint n = G (2 * n) := f_int n h0 h1
def okA (a : Int) : Bool := decide (0 ≤ a) && decide (a ≤ 2100000000000000)
theorem okA_true {a : Int} : okA a = true ↔ 0 ≤ a ∧ a ≤ 2100000000000000 := by simp [okA]
theorem valid_f (a : Int) : amount_Valid.f a = some (okA a) := by
 unfold amount_Valid.f okA
 by_cases h : a ≥ 0
 ·rw [if_pos h]; simp [h]
 ·rw [if_neg h]; simp; omega
theorem within_f (a b c : Int) : amount_within.f a b c = some (decide (b ≤ a) && decide (a ≤ c)) := by
 unfold amount_within.f
 by_cases h : a ≥ b
 ·rw [if_pos h]; simp [h]
 ·rw [if_neg h]; simp; omega
def rateS (f w : Int) : Int × Int := if okA f = true ∧ 1 ≤ w ∧ w ≤ 4000000 then (min (f * 1000 / w) 1000000000, 0) else (0, 11)
theorem rate_val {f w : Int} (hf : 0 ≤ f ∧ f ≤ 2100000000000000) (hw : 1 ≤ w ∧ w ≤ 4000000) : wrap64 (Int.tdiv (wrap64 (f * 1000)) w) = f * 1000 / w := by
 rw [w64 (n := f * 1000) (by omega) (by omega), Int.tdiv_eq_ediv_of_nonneg (by omega)]
 have h0 : 0 ≤ f * 1000 / w := Int.ediv_nonneg (by omega) (by omega)
 have h1 : f * 1000 / w ≤ f * 1000 := Int.ediv_le_self _ (by omega)
 exact w64 (by omega) (by omega)
theorem rate_f (f w : Int) : amount_Rate.f f w = some (rateS f w) := by
 unfold amount_Rate.f rateS
 rw [valid_f, within_f]
 simp only [Option.bind_some]
 by_cases hf : okA f = true
 ·rw [if_pos hf]
  by_cases hw : 1 ≤ w ∧ w ≤ 4000000
  ·rw [if_pos (by simp [hw]), if_neg (by omega), if_pos ⟨hf, hw.1, hw.2⟩, mn_min, rate_val (okA_true.1 hf) hw]
  ·rw [if_neg (by simp; omega), if_neg (by omega)]
 ·rw [if_neg hf, if_neg (by simp [hf])]
theorem cm' : (4643105662702714880 : Nat) = G (2 * 253) := by decide
def ofB (s d b w : Int) : Bool := decide (0 ≤ s) && decide (s ≤ 1000000) && (decide (0 ≤ d) && decide (d ≤ 1000000)) && (okA b && decide (1 ≤ w) && decide (w ≤ 4000000) && decide (253 ≤ min (b * 1000 / w) 1000000000))
theorem ofB_true {s d b w : Int} : ofB s d b w = true ↔ (0 ≤ s ∧ s ≤ 1000000) ∧ (0 ≤ d ∧ d ≤ 1000000) ∧ (0 ≤ b ∧ b ≤ 2100000000000000) ∧ (1 ≤ w ∧ w ≤ 4000000) ∧ 253 ≤ min (b * 1000 / w) 1000000000 := by
 unfold ofB
 simp only [Bool.and_eq_true, decide_eq_true_eq, okA_true]
 constructor
 ·rintro ⟨⟨⟨a1, a2⟩, b1, b2⟩, ⟨⟨c1, d1⟩, d2⟩, e⟩; exact ⟨⟨a1, a2⟩, ⟨b1, b2⟩, c1, ⟨d1, d2⟩, e⟩
 ·rintro ⟨⟨a1, a2⟩, ⟨b1, b2⟩, c1, ⟨d1, d2⟩, e⟩; exact ⟨⟨⟨a1, a2⟩, b1, b2⟩, ⟨⟨c1, d1⟩, d2⟩, e⟩
theorem of_line {s d b w : Int} (h : ofB s d b w = true) : lineB s 253 (max s d) (min (b * 1000 / w) 1000000000) = true := by
 have := ofB_true.1 h
 rw [lineB_true]; omega
theorem of_f (s d b w : Int) : curve_Of.f s d b w = some (if ofB s d b w then (C (2 * s) (2 * 253), C (2 * max s d) (2 * min (b * 1000 / w) 1000000000), 0) else (C 0 0, C 0 0, 1)) := by
 unfold curve_Of.f
 rw [rate_f, ← C_zero]
 simp only [Option.bind_some]
 cases h : ofB s d b w
 ·rw [if_neg (show ¬ (false = true) by decide)]
  have hn : ¬ _ := fun e => Bool.noConfusion (h.symm.trans (ofB_true.2 e))
  by_cases h1 : s ≥ 0
  ·rw [if_pos h1]
   by_cases h2 : s ≤ 1000000
   ·rw [if_pos h2]
    by_cases h3 : d ≥ 0
    ·rw [if_pos h3]
     by_cases h4 : d ≤ 1000000
     ·rw [if_pos h4]
      by_cases h5 : w > 4000000
      ·rw [if_pos h5]
      ·rw [if_neg h5]
       unfold rateS
       by_cases h6 : okA b = true ∧ 1 ≤ w ∧ w ≤ 4000000
       ·rw [if_pos h6]
        have := okA_true.1 h6.1
        rw [if_pos (show ((min (b * 1000 / w) 1000000000, (0 : Int)) : Int × Int).2 = 0 from rfl), if_pos (show min (b * 1000 / w) 1000000000 < 253 by omega)]
       ·rw [if_neg h6, if_neg (by decide)]
     ·rw [if_neg h4]
    ·rw [if_neg h3]
   ·rw [if_neg h2]
  ·rw [if_neg h1]
 ·have hb := ofB_true.1 h
  have hl := of_line h
  have hr : rateS b w = (min (b * 1000 / w) 1000000000, 0) := by
   unfold rateS; rw [if_pos ⟨okA_true.2 hb.2.2.1, hb.2.2.2.1.1, hb.2.2.2.1.2⟩]
  rw [if_pos rfl, if_pos hb.1.1, if_pos hb.1.2, if_pos hb.2.1.1, if_pos hb.2.1.2, if_neg (by omega), hr]
  generalize min (b * 1000 / w) 1000000000 = m at *
  have hm := lineB_true.1 hl
  rw [if_pos rfl, if_neg (by omega), mx_max, cm', i_f s (by omega) (by omega), i_f (max s d) (by omega) (by omega), i_f m (by omega) (by omega)]
  have hC1 : (⟨G (2 * s), G (2 * 253)⟩ : C128) = C (2 * s) (2 * 253) := rfl
  have hC2 : (⟨G (2 * max s d), G (2 * m)⟩ : C128) = C (2 * max s d) (2 * m) := rfl
  rw [hC1, hC2, line_in hl]; rfl
theorem held_f (a : Int) (b : Bool) : amount_held.f a b = some (if b && okA a then (a, 0) else (0, 11)) := by
 unfold amount_held.f
 rw [valid_f]
 cases b <;> cases okA a <;> simp
def up (n : Int) : Int := (n + 999) / 1000
def feeS (w r : Int) : Int × Int := if 0 ≤ w ∧ w ≤ 4000000 ∧ 0 ≤ r ∧ r ≤ 1000000000 ∧ up (w * r) ≤ 2100000000000000 then (up (w * r), 0) else (0, 11)
theorem prod_bound {w r : Int} (h0 : 0 ≤ w) (h1 : w ≤ 4000000) (h2 : 0 ≤ r) (h3 : r ≤ 1000000000) : 0 ≤ w * r ∧ w * r ≤ 4000000000000000 :=
 ⟨Int.mul_nonneg h0 h2, Int.le_trans (Int.mul_le_mul h1 h3 h2 (by omega)) (by decide)⟩
theorem fee_f (w r : Int) : amount_Fee.f w r = some (feeS w r) := by
 unfold amount_Fee.f feeS
 rw [within_f, within_f]
 simp only [Option.bind_some]
 by_cases h1 : 0 ≤ w ∧ w ≤ 4000000
 ·rw [if_pos (by simp [h1])]
  by_cases h2 : 0 ≤ r ∧ r ≤ 1000000000
  ·rw [if_pos (by simp [h2])]
   have hp := prod_bound h1.1 h1.2 h2.1 h2.2
   rw [w64 (n := w * r) (by omega) (by omega)]
   generalize hg : w * r = p at *
   have e : wrap64 (Int.tdiv (wrap64 (wrap64 (p + 1000) - 1)) 1000) = up p := by
    rw [w64 (n := p + 1000) (by omega) (by omega), w64 (n := p + 1000 - 1) (by omega) (by omega), Int.tdiv_eq_ediv_of_nonneg (by omega)]
    unfold up
    rw [w64 (by omega) (by omega)]; congr 1; omega
   have hu : 0 ≤ up p := by unfold up; omega
   rw [e, held_f]
   by_cases h3 : up p ≤ 2100000000000000
   ·simp [okA, hu, h3, h1, h2]
   ·simp [okA, h3]
  ·rw [if_neg (by simp; omega), if_neg (by omega)]
 ·rw [if_neg (by simp; omega), if_neg (by omega)]
def witV (k : Int) : Int := if k = 1 then 74 else if k = 2 then 107 else if k = 3 then 76 else if k = 4 then 1 else 0
theorem witV_bounds (k : Int) : 0 ≤ witV k ∧ witV k ≤ 107 := by unfold witV; (repeat' split) <;> omega
theorem wit_f (k : Int) : tx_Wit.f k = some (witV k) := by
 unfold tx_Wit.f witV
 repeat' split
 all_goals rfl
def wits : List S79 → Int
 | [] => 0
 | x :: l => witV x.f2.f0 + wits l
theorem wits_bounds : ∀ l : List S79, 0 ≤ wits l ∧ wits l ≤ 107 * (l.length : Int)
 | [] => by simp [wits]
 | x :: l => by
  have h1 := witV_bounds x.f2.f0
  have h2 := wits_bounds l
  simp only [wits, List.length_cons]
  omega
theorem weight_l (l : List S79) (hl : (l.length : Int) ≤ 1000000000) (d : Nat) : ∀ (k i : Nat) (n : Int), i + d = l.length → d < k → 0 ≤ n → n ≤ 1000000000000 - 107 * (d : Int) → tx_Weight.l0 k n l (l.length : Int) (i : Int) = some (n + wits (l.drop i)) := by
 induction d with
 | zero =>
  intro k i n he hk h0 h1
  obtain ⟨k, rfl⟩ : ∃ k', k = k' + 1 := ⟨k - 1, by omega⟩
  rw [tx_Weight.l0, if_neg (by omega), List.drop_of_length_le (by omega)]
  simp [wits]
 | succ d ih =>
  intro k i n he hk h0 h1
  obtain ⟨k, rfl⟩ : ∃ k', k = k' + 1 := ⟨k - 1, by omega⟩
  have hi : i < l.length := by omega
  have hw := witV_bounds l[i].f2.f0
  rw [tx_Weight.l0, if_pos (by omega), if_pos (by omega), if_pos (by omega), wit_f, show rd_T79 l (i : Int) = l[i] by simp [rd_T79, hi]]
  simp only [Option.bind_some]
  rw [w64 (n := n + witV l[i].f2.f0) (by omega) (by omega), w64 (n := (i : Int) + 1) (by omega) (by omega)]
  have := ih k (i + 1) (n + witV l[i].f2.f0) (by omega) (by omega) (by omega) (by omega)
  rw [show ((i + 1 : Nat) : Int) = (i : Int) + 1 by omega] at this
  rw [this, List.drop_eq_getElem_cons hi, wits]
  congr 1
  omega
def weightV (ins : List S79) (m : Nat) : Int := 4 * (10 + 41 * (ins.length : Int) + 34 * (m : Int)) + wits ins
theorem weight_f (ins : List S79) (outs : List S90) (lock : Int) (k : Nat) (h1 : ins.length < 1000000) (h2 : outs.length < 1000000) (hk : ins.length < k) : tx_Weight.f k ins outs lock = some (weightV ins outs.length) := by
 unfold tx_Weight.f
 rw [w64 (n := 41 * (ins.length : Int)) (by omega) (by omega), w64 (n := 34 * (outs.length : Int)) (by omega) (by omega), w64 (n := 10 + 41 * (ins.length : Int)) (by omega) (by omega), w64 (n := 10 + 41 * (ins.length : Int) + 34 * (outs.length : Int)) (by omega) (by omega), w64 (by omega) (by omega)]
 exact weight_l ins (by omega) ins.length k 0 _ (by omega) hk (by omega) (by omega)
def witB (kind key : Int) (pre : ByteArray) : Bool := decide (1 ≤ kind) && decide (kind ≤ 4) && (decide (0 ≤ key) && decide (key ≤ 1073741824)) && decide ((pre.size : Int) ≤ 64) && (decide (kind = 2) == !pre.toList.isEmpty)
theorem txwithin_f (a b c : Int) : tx_within.f a b c = some (decide (b ≤ a) && decide (a ≤ c)) := by
 unfold tx_within.f
 by_cases h : a ≥ b
 ·rw [if_pos h]; simp [h]
 ·rw [if_neg h]; simp; omega
theorem witness_f (kind key : Int) (pre : ByteArray) : tx_Witness.f kind key pre = some (witB kind key pre) := by
 unfold tx_Witness.f witB
 rw [txwithin_f, txwithin_f]
 simp only [Option.bind_some]
 cases (decide (1 ≤ kind) && decide (kind ≤ 4))
 ·simp
 ·cases (decide (0 ≤ key) && decide (key ≤ 1073741824))
  ·simp
  ·by_cases h3 : (pre.size : Int) ≤ 64
   ·by_cases h4 : kind = 2 <;> simp [h3, h4]
   ·simp [h3]
end Go.Proofs.YtiodebjjbgcbhaaGreat.LefL
