import GoSem.Core.Float
namespace Go.Proofs.YtiodebjjbgcbhaaGreat.Flt
open Ieee
theorem log2_of {n k : Nat} (h0 : 2 ^ k ≤ n) (h1 : n < 2 ^ (k + 1)) : n.log2 = k := by
 have hn : n ≠ 0 := by have := Nat.two_pow_pos k; omega
 have a : k < n.log2 + 1 := by
  have := Nat.lt_log2_self (n := n)
  exact (Nat.pow_lt_pow_iff_right (by omega : 1 < 2)).1 (Nat.lt_of_le_of_lt h0 this)
 have b : n.log2 < k + 1 := by
  have := Nat.log2_self_le hn
  exact (Nat.pow_lt_pow_iff_right (by omega : 1 < 2)).1 (Nat.lt_of_le_of_lt this h1)
 omega
theorem log2_mul_pow {n : Nat} (hn : n ≠ 0) (k : Nat) : (n * 2 ^ k).log2 = n.log2 + k := by
 refine log2_of ?_ ?_
 ·rw [Nat.pow_add]; exact Nat.mul_le_mul_right _ (Nat.log2_self_le hn)
 ·have := Nat.lt_log2_self (n := n)
  have e : 2 ^ (n.log2 + k + 1) = 2 ^ (n.log2 + 1) * 2 ^ k := by rw [← Nat.pow_add]; congr 1; omega
  rw [e]
  exact (Nat.mul_lt_mul_right (Nat.two_pow_pos k)).2 this
theorem cut_exact (way : Toward) (s : Bool) (q d : Nat) (hq : q ≠ 0) : way.cut s (q * 2 ^ d) d = q := by
 unfold Toward.cut
 have hd : d ≤ (q * 2 ^ d).log2 + 2 := by rw [log2_mul_pow hq]; omega
 rw [Nat.min_eq_left hd, Nat.one_shiftLeft]
 have hp := Nat.two_pow_pos d
 have e1 : q * 2 ^ d / 2 ^ d = q := Nat.mul_div_cancel _ hp
 have e2 : q * 2 ^ d % 2 ^ d = 0 := Nat.mul_mod_left _ _
 simp only [e1, e2]
 have h1 : decide (2 ^ d < 2 * 0) = false := by simp
 have h2 : ((2 ^ d : Nat) == 2 * 0) = false := by simp
 cases way <;> simp [h2]
def G (h : Int) : Nat := double.nearest (decide (h < 0)) h.natAbs (-1)
def Is (k m : Nat) (p : Int) (v : Nat) : Prop := 0 ≤ p + k ∧ m * 2 ^ (p + k).toNat = v
theorem nearest_exact (s : Bool) (k m : Nat) (p : Int) (a : Nat) (hk : 1 ≤ k) (ha : a < 2 ^ 53) (h : Is k m p (a * 2 ^ (k - 1))) : double.nearest s m p = double.nearest s a (-1) := by
 obtain ⟨h0, h1⟩ := h
 by_cases hz : a = 0
 ·subst hz
  have : m = 0 := by
   have hp := Nat.two_pow_pos (p + k).toNat
   simp only [Nat.zero_mul] at h1
   rcases Nat.mul_eq_zero.1 h1 with h | h
   ·exact h
   ·omega
  subst this; simp [Format.nearest]
 ·have hm : m ≠ 0 := by
   rintro rfl
   have := Nat.two_pow_pos (k - 1)
   simp only [Nat.zero_mul] at h1
   rcases Nat.mul_eq_zero.1 h1.symm with h | h <;> omega
  have hL : (m.log2 : Int) + p = a.log2 - 1 := by
   have e := congrArg Nat.log2 h1
   rw [log2_mul_pow hm, log2_mul_pow hz] at e
   omega
  have hLa : a.log2 ≤ 52 := by
   have := Nat.log2_self_le hz
   have := Nat.lt_of_le_of_lt this ha
   have := (Nat.pow_lt_pow_iff_right (by omega : 1 < 2)).1 this
   omega
  have lp : double.leastPlace = -1074 := by decide
  have fb : (double.fractionBits : Int) = 52 := rfl
  unfold Format.nearest
  rw [if_neg hm, if_neg hz, lp, fb]
  have l1 : max (p + (m.log2 : Int) - 52) (-1074) = (a.log2 : Int) - 53 := by omega
  have l2 : max (-1 + (a.log2 : Int) - 52) (-1074) = (a.log2 : Int) - 53 := by omega
  simp only [l1, l2]
  have c2 : Toward.even.cut s (a <<< (-1 - ((a.log2 : Int) - 53)).toNat) (((a.log2 : Int) - 53) - -1).toNat = a * 2 ^ (52 - a.log2) := by
   have e1 : (-1 - ((a.log2 : Int) - 53)).toNat = 52 - a.log2 := by omega
   have e2 : (((a.log2 : Int) - 53) - -1).toNat = 0 := by omega
   rw [e1, e2, Nat.shiftLeft_eq]
   have := cut_exact .even s (a * 2 ^ (52 - a.log2)) 0 (by have := Nat.two_pow_pos (52 - a.log2); exact Nat.mul_ne_zero hz (by omega))
   simpa using this
  have c1 : Toward.even.cut s (m <<< (p - ((a.log2 : Int) - 53)).toNat) (((a.log2 : Int) - 53) - p).toNat = a * 2 ^ (52 - a.log2) := by
   have hq : a * 2 ^ (52 - a.log2) ≠ 0 := by have := Nat.two_pow_pos (52 - a.log2); exact Nat.mul_ne_zero hz (by omega)
   by_cases hc : (a.log2 : Int) - 53 ≤ p
   ·have e2 : (((a.log2 : Int) - 53) - p).toNat = 0 := by omega
    rw [e2, Nat.shiftLeft_eq]
    have key : m * 2 ^ (p - ((a.log2 : Int) - 53)).toNat = a * 2 ^ (52 - a.log2) := by
     by_cases hk2 : 0 ≤ (a.log2 : Int) - 53 + k
     ·have hp := Nat.two_pow_pos ((a.log2 : Int) - 53 + k).toNat
      refine Nat.eq_of_mul_eq_mul_right hp ?_
      rw [Nat.mul_assoc, ← Nat.pow_add, Nat.mul_assoc, ← Nat.pow_add]
      have e3 : (p - ((a.log2 : Int) - 53)).toNat + ((a.log2 : Int) - 53 + k).toNat = (p + k).toNat := by omega
      have e4 : 52 - a.log2 + ((a.log2 : Int) - 53 + k).toNat = k - 1 := by omega
      rw [e3, e4, h1]
     ·have e3 : (p - ((a.log2 : Int) - 53)).toNat = (p + k).toNat + (53 - a.log2 - k) := by omega
      have e4 : 52 - a.log2 = (k - 1) + (53 - a.log2 - k) := by omega
      rw [e3, e4, Nat.pow_add, Nat.pow_add, ← Nat.mul_assoc, ← Nat.mul_assoc, h1]
    rw [key]
    have := cut_exact .even s (a * 2 ^ (52 - a.log2)) 0 hq
    simpa using this
   ·have e1 : (p - ((a.log2 : Int) - 53)).toNat = 0 := by omega
    rw [e1, Nat.shiftLeft_zero]
    have key : m = a * 2 ^ (52 - a.log2) * 2 ^ (((a.log2 : Int) - 53) - p).toNat := by
     have hp := Nat.two_pow_pos (p + k).toNat
     refine Nat.eq_of_mul_eq_mul_right hp ?_
     rw [h1, Nat.mul_assoc, Nat.mul_assoc, ← Nat.pow_add, ← Nat.pow_add]
     congr 2; omega
    rw [key]
    exact cut_exact .even s _ _ hq
  rw [c1, c2]
theorem read_zero (s : Bool) : double.read (double.nearest s 0 (-1)) = .number s 0 (-1074) := by
 cases s <;> decide
theorem read_nearest (s : Bool) (a : Nat) (hz : a ≠ 0) (ha : a < 2 ^ 53) : double.read (double.nearest s a (-1)) = .number s (a * 2 ^ (52 - a.log2)) ((a.log2 : Int) - 53) := by
 have hLa : a.log2 ≤ 52 := by
  have := Nat.log2_self_le hz
  have := Nat.lt_of_le_of_lt this ha
  have := (Nat.pow_lt_pow_iff_right (by omega : 1 < 2)).1 this
  omega
 have lp : double.leastPlace = -1074 := by decide
 have fb : (double.fractionBits : Int) = 52 := rfl
 have hw : double.nearest s a (-1) = double.word s (min (((a.log2 : Int) - 53 + 1074).toNat * 2 ^ 52 + a * 2 ^ (52 - a.log2)) double.infRung) := by
  unfold Format.nearest
  rw [if_neg hz, lp, fb]
  have l2 : max (-1 + (a.log2 : Int) - 52) (-1074) = (a.log2 : Int) - 53 := by omega
  simp only [l2]
  have e1 : (-1 - ((a.log2 : Int) - 53)).toNat = 52 - a.log2 := by omega
  have e2 : (((a.log2 : Int) - 53) - -1).toNat = 0 := by omega
  rw [e1, e2, Nat.shiftLeft_eq]
  have := cut_exact .even s (a * 2 ^ (52 - a.log2)) 0 (by have := Nat.two_pow_pos (52 - a.log2); exact Nat.mul_ne_zero hz (by omega))
  rw [Nat.pow_zero, Nat.mul_one] at this
  rw [this]
  have e3 : ((a.log2 : Int) - 53 - -1074).toNat = ((a.log2 : Int) - 53 + 1074).toNat := by omega
  rw [e3]; rfl
 have k0 : 2 ^ 52 ≤ a * 2 ^ (52 - a.log2) := by
  have := Nat.mul_le_mul_right (2 ^ (52 - a.log2)) (Nat.log2_self_le hz)
  rw [← Nat.pow_add] at this
  have e : a.log2 + (52 - a.log2) = 52 := by omega
  rwa [e] at this
 have k1 : a * 2 ^ (52 - a.log2) < 2 ^ 53 := by
  have := (Nat.mul_lt_mul_right (Nat.two_pow_pos (52 - a.log2))).2 (Nat.lt_log2_self (n := a))
  rw [← Nat.pow_add] at this
  have e : a.log2 + 1 + (52 - a.log2) = 53 := by omega
  rwa [e] at this
 rw [hw]
 generalize a * 2 ^ (52 - a.log2) = K at *
 have e4 : ((a.log2 : Int) - 53 + 1074).toNat = a.log2 + 1021 := by omega
 rw [e4]
 generalize a.log2 = L at *
 have ir : double.infRung = 2047 * 2 ^ 52 := by decide
 have hr : min ((L + 1021) * 2 ^ 52 + K) double.infRung = (L + 1021) * 2 ^ 52 + K := by rw [ir]; omega
 rw [hr]
 have sw : double.signWeight = 2 ^ 63 := by decide
 have bn : double.binade = 2 ^ 52 := by decide
 have hneg : (double.word s ((L + 1021) * 2 ^ 52 + K) / 2 ^ 63 % 2 == 1) = s := by
  unfold Format.word
  rw [sw]
  cases s
  ·simp only [Bool.false_eq_true, if_false]
   have : ((L + 1021) * 2 ^ 52 + K) / 2 ^ 63 = 0 := by omega
   rw [this]; rfl
  ·simp only [if_true]
   have : (2 ^ 63 + ((L + 1021) * 2 ^ 52 + K)) / 2 ^ 63 = 1 := by omega
   rw [this]; rfl
 have hrung : double.word s ((L + 1021) * 2 ^ 52 + K) % 2 ^ 63 = (L + 1021) * 2 ^ 52 + K := by
  unfold Format.word
  rw [sw]
  cases s
  ·simp only [Bool.false_eq_true, if_false]; omega
  ·simp only [if_true]; omega
 unfold Format.read
 simp only [sw, bn, ir, hneg, hrung, lp]
 rw [if_neg (by omega), if_pos (by omega)]
 have d1 : ((L + 1021) * 2 ^ 52 + K) % 2 ^ 52 = K - 2 ^ 52 := by omega
 have d2 : ((L + 1021) * 2 ^ 52 + K) / 2 ^ 52 = L + 1022 := by omega
 have m1 : 2 ^ 52 + (K - 2 ^ 52) = K := by omega
 have m2 : (-1074 : Int) + ((L + 1022 - 1 : Nat) : Int) = (L : Int) - 53 := by omega
 rw [d1, d2, m1, m2]
theorem read_G (h : Int) (hb : h.natAbs < 2 ^ 53) : ∃ m p, double.read (G h) = .number (decide (h < 0)) m p ∧ -1074 ≤ p ∧ ∀ k, 1074 ≤ k → Is k m p (h.natAbs * 2 ^ (k - 1)) := by
 by_cases hz : h.natAbs = 0
 ·refine ⟨0, -1074, ?_, Int.le_refl _, fun k hk => ⟨by omega, by rw [hz]; simp⟩⟩
  unfold G; rw [hz]; exact read_zero _
 ·have hLa : h.natAbs.log2 ≤ 52 := by
   have := Nat.log2_self_le hz
   have := Nat.lt_of_le_of_lt this hb
   have := (Nat.pow_lt_pow_iff_right (by omega : 1 < 2)).1 this
   omega
  refine ⟨_, _, read_nearest _ _ hz hb, by omega, fun k hk => ⟨by omega, ?_⟩⟩
  rw [Nat.mul_assoc, ← Nat.pow_add]
  congr 2; omega
theorem write_G (h : Int) (k m : Nat) (p : Int) (hk : 1 ≤ k) (hb : h.natAbs < 2 ^ 53) (hv : Is k m p (h.natAbs * 2 ^ (k - 1))) : double.write (.number (decide (h < 0)) m p) = G h :=
 nearest_exact _ k m p _ hk hb hv
theorem signed_units {h : Int} {m : Nat} {p : Int} {k : Nat} (base : Int) (hp : base ≤ p) (hkb : 0 ≤ base + k) (hv : Is k m p (h.natAbs * 2 ^ (k - 1))) :
 signed (decide (h < 0)) m (p - base).toNat * ((2 ^ (base + k).toNat : Nat) : Int) = h * ((2 ^ (k - 1) : Nat) : Int) := by
 obtain ⟨_, h1⟩ := hv
 have e : m * 2 ^ (p - base).toNat * 2 ^ (base + k).toNat = h.natAbs * 2 ^ (k - 1) := by
  rw [Nat.mul_assoc, ← Nat.pow_add, ← h1]; congr 2; omega
 have e' : ((m * 2 ^ (p - base).toNat : Nat) : Int) * ((2 ^ (base + k).toNat : Nat) : Int) = (h.natAbs : Int) * ((2 ^ (k - 1) : Nat) : Int) := by
  rw [← Int.natCast_mul, e, Int.natCast_mul]
 unfold signed
 rw [Nat.shiftLeft_eq]
 by_cases hn : h < 0
 ·have ha : (h.natAbs : Int) = -h := by omega
  rw [ha] at e'
  simp only [hn, decide_true, if_true]
  rw [Int.neg_mul, e', Int.neg_mul, Int.neg_neg]
 ·have ha : (h.natAbs : Int) = h := by omega
  rw [ha] at e'
  simp only [hn, decide_false, Bool.false_eq_true, if_false]
  exact e'
theorem write_sum (h : Int) (k : Nat) (base t : Int) (z : Bool) (hk : 1 ≤ k) (hb : h.natAbs < 2 ^ 53) (h0 : 0 ≤ base + k) (hz : h = 0 → z = false)
 (ht : t * ((2 ^ (base + k).toNat : Nat) : Int) = h * ((2 ^ (k - 1) : Nat) : Int)) : double.write (.number (if t = 0 then z else decide (t < 0)) t.natAbs base) = G h := by
 have p1 : (0 : Int) < ((2 ^ (base + k).toNat : Nat) : Int) := by have := Nat.two_pow_pos (base + k).toNat; omega
 have p2 : (0 : Int) < ((2 ^ (k - 1) : Nat) : Int) := by have := Nat.two_pow_pos (k - 1); omega
 have hs : (if t = 0 then z else decide (t < 0)) = decide (h < 0) := by
  by_cases c : t = 0
  ·subst c
   have : h = 0 := by
    rcases Int.mul_eq_zero.1 (ht.symm.trans (Int.zero_mul _)) with h | h <;> omega
   subst this; simp [hz rfl]
  ·rw [if_neg c]
   by_cases d : t < 0
   ·have : t * ((2 ^ (base + k).toNat : Nat) : Int) < 0 := Int.mul_neg_of_neg_of_pos d p1
    rw [ht] at this
    have hh : h < 0 := by
     rcases Int.lt_or_le h 0 with h1 | h1
     ·exact h1
     ·have := Int.mul_nonneg h1 (Int.le_of_lt p2); omega
    simp [d, hh]
   ·have : 0 < t * ((2 ^ (base + k).toNat : Nat) : Int) := Int.mul_pos (by omega) p1
    rw [ht] at this
    have hh : ¬ h < 0 := by
     intro h1
     have := Int.mul_neg_of_neg_of_pos h1 p2; omega
    simp [d, hh]
 rw [hs]
 refine write_G h k _ _ hk hb ⟨h0, ?_⟩
 have e := congrArg Int.natAbs ht
 rwa [Int.natAbs_mul, Int.natAbs_mul, Int.natAbs_natCast, Int.natAbs_natCast] at e
theorem add_G (a b : Int) (ha : a.natAbs < 2 ^ 53) (hb : b.natAbs < 2 ^ 53) (hc : (a + b).natAbs < 2 ^ 53) : double.add (G a) (G b) = some (G (a + b)) := by
 obtain ⟨m, i, r1, i0, v1⟩ := read_G a ha
 obtain ⟨n, j, r2, j0, v2⟩ := read_G b hb
 unfold Format.add
 rw [r1, r2]
 simp only [Datum.sum, Option.map_some]
 refine congrArg some (write_sum (a + b) 1075 _ _ _ (by omega) hc (by omega) (fun h => ?_) ?_)
 ·by_cases c : a < 0
  ·have : ¬ b < 0 := by omega
   simp [this]
  ·simp [c]
 ·rw [Int.add_mul, signed_units _ (by omega) (by omega) (v1 1075 (by omega)), signed_units _ (by omega) (by omega) (v2 1075 (by omega)), Int.add_mul]
theorem signed_not (s : Bool) (m k : Nat) : signed (!s) m k = - signed s m k := by
 unfold signed; cases s <;> simp
theorem sub_G (a b : Int) (ha : a.natAbs < 2 ^ 53) (hb : b.natAbs < 2 ^ 53) (hc : (a - b).natAbs < 2 ^ 53) : double.sub (G a) (G b) = some (G (a - b)) := by
 obtain ⟨m, i, r1, i0, v1⟩ := read_G a ha
 obtain ⟨n, j, r2, j0, v2⟩ := read_G b hb
 unfold Format.sub
 rw [r1, r2]
 simp only [Datum.opposite, Datum.sum, Option.map_some]
 refine congrArg some (write_sum (a - b) 1075 _ _ _ (by omega) hc (by omega) (fun h => ?_) ?_)
 ·have : a = b := by omega
  subst this; simp
 ·rw [signed_not, Int.add_mul, Int.neg_mul, signed_units _ (by omega) (by omega) (v1 1075 (by omega)), signed_units _ (by omega) (by omega) (v2 1075 (by omega)), Int.sub_mul, Int.sub_eq_add_neg]
theorem order_G (a b : Int) (ha : a.natAbs < 2 ^ 53) (hb : b.natAbs < 2 ^ 53) : double.order (G a) (G b) = some (compare a b) := by
 obtain ⟨m, i, r1, i0, v1⟩ := read_G a ha
 obtain ⟨n, j, r2, j0, v2⟩ := read_G b hb
 unfold Format.order
 rw [r1, r2]
 simp only [Datum.order]
 refine congrArg some ?_
 have u1 := signed_units (k := 1075) (min i j) (by omega) (by omega) (v1 1075 (by omega))
 have u2 := signed_units (k := 1075) (min i j) (by omega) (by omega) (v2 1075 (by omega))
 have p1 : (0 : Int) < ((2 ^ (min i j + ((1075 : Nat) : Int)).toNat : Nat) : Int) := by have := Nat.two_pow_pos (min i j + ((1075 : Nat) : Int)).toNat; omega
 have p2 : (0 : Int) < ((2 ^ (1075 - 1) : Nat) : Int) := by have := Nat.two_pow_pos (1075 - 1); omega
 generalize ((2 ^ (min i j + ((1075 : Nat) : Int)).toNat : Nat) : Int) = X at *
 generalize ((2 ^ (1075 - 1) : Nat) : Int) = Y at *
 generalize signed (decide (a < 0)) m (i - min i j).toNat = S at *
 generalize signed (decide (b < 0)) n (j - min i j).toNat = T at *
 have lt : S < T ↔ a < b := by
  constructor
  ·intro h
   have := Int.mul_lt_mul_of_pos_right h p1
   rw [u1, u2] at this
   exact Int.lt_of_mul_lt_mul_right this (Int.le_of_lt p2)
  ·intro h
   have := Int.mul_lt_mul_of_pos_right h p2
   rw [← u1, ← u2] at this
   exact Int.lt_of_mul_lt_mul_right this (Int.le_of_lt p1)
 have eq : S = T ↔ a = b := by
  constructor
  ·rintro rfl
   exact Int.eq_of_mul_eq_mul_right (by omega) (u1.symm.trans u2)
  ·rintro rfl
   exact Int.eq_of_mul_eq_mul_right (by omega) (u1.trans u2.symm)
 simp only [compare, compareOfLessAndEq, lt, eq]
theorem whole_of (h : Int) (hb : h.natAbs < 2 ^ 53) : (double.read (G h)).integral .zero = .number (decide (h < 0)) (h.natAbs / 2) 0 := by
 by_cases hz : h.natAbs = 0
 ·have : h = 0 := by omega
  subst this; decide
 ·have hLa : h.natAbs.log2 ≤ 52 := by
   have := Nat.log2_self_le hz
   have := Nat.lt_of_le_of_lt this hb
   have := (Nat.pow_lt_pow_iff_right (by omega : 1 < 2)).1 this
   omega
  unfold G
  rw [read_nearest _ _ hz hb]
  simp only [Datum.integral]
  congr 1
  have e1 : ((h.natAbs.log2 : Int) - 53).toNat = 0 := by omega
  have e2 : (-((h.natAbs.log2 : Int) - 53)).toNat = 53 - h.natAbs.log2 := by omega
  rw [e1, e2, Nat.shiftLeft_zero]
  unfold Toward.cut
  have l : (h.natAbs * 2 ^ (52 - h.natAbs.log2)).log2 = 52 := by rw [log2_mul_pow hz]; omega
  rw [l, Nat.min_eq_left (by omega), Nat.one_shiftLeft]
  have e3 : 2 ^ (53 - h.natAbs.log2) = 2 ^ (52 - h.natAbs.log2) * 2 := by rw [← Nat.pow_succ]; congr 1; omega
  have e4 : h.natAbs * 2 ^ (52 - h.natAbs.log2) / (2 ^ (52 - h.natAbs.log2) * 2) = h.natAbs / 2 := by
   rw [← Nat.div_div_eq_div_mul, Nat.mul_div_cancel _ (Nat.two_pow_pos _)]
  simp only [e3, e4]
  simp
theorem int_G (h : Int) (hb : h.natAbs < 2 ^ 53) : (double.read (G h)).toInt .zero = some (h.tdiv 2) := by
 unfold Datum.toInt
 rw [whole_of h hb]
 simp only [signed, Nat.shiftLeft_zero]
 refine congrArg some ?_
 by_cases c : h < 0
 ·simp only [c, decide_true, if_true]
  rw [show h = -(h.natAbs : Int) by omega, Int.neg_tdiv]; simp
 ·simp only [c, decide_false, Bool.false_eq_true, if_false]
  rw [show h.tdiv 2 = ((h.natAbs : Int)).tdiv 2 by congr 1; omega]; rfl
theorem tdiv2 (h : Int) : (0 ≤ h ∧ h.tdiv 2 = h / 2) ∨ (h < 0 ∧ h.tdiv 2 = -((-h) / 2)) := by
 by_cases c : 0 ≤ h
 ·exact .inl ⟨c, Int.tdiv_eq_ediv_of_nonneg c⟩
 ·refine .inr ⟨by omega, ?_⟩
  rw [show h = -(-h) by omega, Int.neg_tdiv, Int.tdiv_eq_ediv_of_nonneg (by omega), Int.neg_neg]
theorem trunc_G (h : Int) (hb : h.natAbs < 2 ^ 53) : double.order (G h) (double.write ((double.read (G h)).integral .zero)) = some .eq ↔ h % 2 = 0 := by
 rw [whole_of h hb]
 have td := tdiv2 h
 by_cases c : h = -1
 ·subst c
  have : double.order (G (-1)) (double.write (.number (decide ((-1 : Int) < 0)) ((-1 : Int).natAbs / 2) 0)) = some .lt := by decide
  rw [this]; decide
 ·have e : double.write (.number (decide (h < 0)) (h.natAbs / 2) 0) = G (2 * h.tdiv 2) := by
   have hs : decide (h < 0) = decide (2 * h.tdiv 2 < 0) := by
    rw [decide_eq_decide]; constructor <;> intro _ <;> omega
   rw [hs]
   refine write_G _ 1 _ _ (Nat.le_refl _) ?_ ⟨by omega, ?_⟩
   ·omega
   ·show _ * 2 ^ 1 = _ * 2 ^ 0
    omega
  rw [e, order_G _ _ hb (by omega)]
  constructor
  ·intro h1
   have h2 := Option.some.inj h1
   rw [Int.compare_eq_eq] at h2
   omega
  ·intro h1
   have : 2 * h.tdiv 2 = h := by omega
   rw [this]
   simp
theorem of_int (n : Int) (hb : (2 * n).natAbs < 2 ^ 53) : FloatKind.f64.nearest n = G (2 * n) := by
 show double.write (.number (decide (n < 0)) n.natAbs 0) = _
 have hs : decide (n < 0) = decide (2 * n < 0) := by rw [decide_eq_decide]; omega
 rw [hs]
 refine write_G _ 1 _ _ (Nat.le_refl _) hb ⟨by omega, ?_⟩
 show _ * 2 ^ 1 = _ * 2 ^ 0
 omega
end Go.Proofs.YtiodebjjbgcbhaaGreat.Flt
