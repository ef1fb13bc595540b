import Derived.Test.YtiodebjjbgcbhaaGreatTrunc
import Derived.Test.YtiodebjjbgcbhaaGreatFlt
namespace Go.Proofs.YtiodebjjbgcbhaaGreat.FltL
open Go Go.RowKit Go.Proofs YtiodebjjbgcbhaaGreatW.PrintWords YtiodebjjbgcbhaaGreatW.PrintMore YtiodebjjbgcbhaaGreat Hand Flt
set_option linter.unusedSimpArgs false
theorem w64 {n : Int} (h0 : -9223372036854775808 ≤ n) (h1 : n ≤ 9223372036854775807) : wrap64 n = n := by unfold wrap64; omega
theorem wu64 (n : Int) (h0 : 0 ≤ n) (h1 : n < 18446744073709551616) : IntKind.u64.wrap n = n := by
 simp [IntKind.wrap, IntKind.bits, IntKind.signed]; omega
theorem and_low (z : Int) (h0 : 0 ≤ z) (h1 : z < 18446744073709551616) : Go.bits .and .u64 z 4294967295 = z % 4294967296 :=
 bits_mask .u64 64 (by decide) (fun n a b => wu64 n a b) 32 (by decide) z h0 h1
def Sm (h : Int) : Prop := h.natAbs < 2 ^ 53
instance (h : Int) : Decidable (Sm h) := inferInstanceAs (Decidable (h.natAbs < 2 ^ 53))
theorem Sm.of {h : Int} (h0 : -9007199254740992 < h) (h1 : h < 9007199254740992) : Sm h := by unfold Sm; omega
theorem fmt : FloatKind.f64.format = Ieee.double := rfl
theorem f_int (n : Int) (h0 : -4503599627370496 < n) (h1 : n < 4503599627370496) : fint n = G (2 * n) := of_int n (by omega)
theorem f_le {a b : Int} (ha : Sm a) (hb : Sm b) : fle (G a) (G b) = decide (a ≤ b) := by
 unfold fle
 rw [fmt, order_G a b ha hb]
 cases hc : compare a b
 ·have := Int.compare_eq_lt.1 hc; simp; omega
 ·have := Int.compare_eq_eq.1 hc; simp; omega
 ·have := Int.compare_eq_gt.1 hc; simp; omega
theorem f_ge {a b : Int} (ha : Sm a) (hb : Sm b) : fge (G a) (G b) = decide (b ≤ a) := by
 unfold fge
 rw [fmt, order_G a b ha hb]
 cases hc : compare a b
 ·have := Int.compare_eq_lt.1 hc; simp; omega
 ·have := Int.compare_eq_eq.1 hc; simp; omega
 ·have := Int.compare_eq_gt.1 hc; simp; omega
theorem f_lt {a b : Int} (ha : Sm a) (hb : Sm b) : flt (G a) (G b) = decide (a < b) := by
 unfold flt
 rw [fmt, order_G a b ha hb]
 cases hc : compare a b
 ·have := Int.compare_eq_lt.1 hc; simp; omega
 ·have := Int.compare_eq_eq.1 hc; simp; omega
 ·have := Int.compare_eq_gt.1 hc; simp; omega
theorem G_zero : G 0 = 0 := by decide
theorem f_trunc {a : Int} (ha : Sm a) : math_Trunc.f (G a) = some (ftrunc (G a)) ∧ feq (G a) (ftrunc (G a)) = decide (a % 2 = 0) := by
 constructor
 ·unfold math_Trunc.f fnan
  obtain ⟨m, p, h, _⟩ := read_G a ha
  have : FloatKind.f64.decode (G a) = .number (decide (a < 0)) m p := h
  rw [this]; rfl
 ·unfold feq ftrunc
  have := trunc_G a ha
  rw [fmt]
  by_cases h : a % 2 = 0
  ·have e := this.2 h
   simp only [h, decide_true, beq_iff_eq]
   exact e
  ·have e : ¬ _ := fun e => h (this.1 e)
   simp only [h, decide_false, beq_eq_false_iff_ne]
   exact e
theorem f_toi {a : Int} (ha : Sm a) : toki (G a) = true ∧ toi (G a) = a.tdiv 2 := by
 have hv : tovi (G a) = some (a.tdiv 2) := by
  unfold tovi
  have := int_G a ha
  rw [show FloatKind.f64.decode (G a) = Ieee.double.read (G a) from rfl, this]
  simp only
  have hd := tdiv2 a
  unfold Sm at ha
  rw [if_pos]
  show -9223372036854775808 ≤ a.tdiv 2 ∧ a.tdiv 2 ≤ 9223372036854775807
  omega
 unfold toki toi
 rw [hv]; exact ⟨rfl, rfl⟩
def C (a b : Int) : C128 := ⟨G a, G b⟩
theorem C_zero : C 0 0 = ⟨0, 0⟩ := by unfold C; rw [G_zero]
theorem fsub {a b : Int} (ha : Sm a) (hb : Sm b) (hc : Sm (a - b)) : fval .sub (G a) (G b) = some (G (a - b)) := sub_G a b ha hb hc
theorem c_sub {a b c d : Int} (ha : Sm a) (hb : Sm b) (hc : Sm c) (hd : Sm d) (h1 : Sm (a - c)) (h2 : Sm (b - d)) :
 cok .sub (C a b).re (C a b).im (C c d).re (C c d).im = true ∧ (⟨cre .sub (C a b).re (C a b).im (C c d).re (C c d).im, cim .sub (C a b).re (C a b).im (C c d).re (C c d).im⟩ : C128) = C (a - c) (b - d) := by
 have h : cval .sub (C a b).re (C a b).im (C c d).re (C c d).im = some (G (a - c), G (b - d)) := by
  unfold cval C
  simp only [fsub ha hc h1, fsub hb hd h2, Option.bind_some]
 unfold cok cre cim
 rw [h]; exact ⟨rfl, rfl⟩
end Go.Proofs.YtiodebjjbgcbhaaGreat.FltL
