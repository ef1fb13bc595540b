/- Functions of the program as plain Lean functions, and that its calls come to what these tell: written by a program of this session; Lean checks it. -/
import Derived.Test.YtfoahgdaigfhoaaQVecx0
import Derived.Test.YtfoahgdaigfhoaaQVecx1
import Derived.Test.YtfoahgdaigfhoaaQVecx2
namespace Go.Proofs.Ytfoahgdaigfhoaa.QVec
open Go.RowKit Go.Proofs.Ytfoahgdaigfhoaa.Hand Go.Proofs.YtfoahgdaigfhoaaW.PrintWords Go.Proofs.YtfoahgdaigfhoaaW.PrintLast Go.Proofs.YtfoahgdaigfhoaaW.PrintMore
attribute [local go_sem] max2_int min2_int max_two min_two max_three min_three max_four min_four run_fop run_feq run_fne run_flt run_fle run_fgt run_fge run_fint run_toi run_real' run_imag' run_complex' run_ceq run_cne run_cadd run_csub run_cmul
set_option linter.unusedVariables false
set_option linter.unusedSimpArgs false

/-! ### coraclelaw15_VecAsks: function 8 -/
mutual
def coraclelaw15_VecAsks.j0 : Nat → Int → Int → Int → Int → Int → C128 → Bool → Option (Bool)
  | 0, _, _, _, _, _, _, _ => none
  | k + 1, x0, x1, x2, x3, x4, x11, x53 => if x53 = true then (some false) else ((coraclelaw15_in.f x0 x1).bind fun t191 => (if t191 = true then ((coraclelaw15_in.f x2 x3).bind fun t192 => (coraclelaw15_VecAsks.j1 k x0 x1 x2 x3 x4 x11 (!t192))) else (coraclelaw15_VecAsks.j1 k x0 x1 x2 x3 x4 x11 true)))
def coraclelaw15_VecAsks.j1 : Nat → Int → Int → Int → Int → Int → C128 → Bool → Option (Bool)
  | 0, _, _, _, _, _, _, _ => none
  | k + 1, x0, x1, x2, x3, x4, x11, x63 => if x63 = true then ((coraclelaw15_awake.f k).bind fun t193 => (some t193)) else ((vec_Parts.f x11).bind fun bt194 => ((coraclelaw15_pair.f x2 x3).bind fun t197 => (((some (wrap64 ((wrap64 ((wrap64 (Int.tdiv x0 1048576)) * x3)) - (wrap64 ((wrap64 (Int.tdiv x2 1048576)) * x1)))))).bind fun t198 => (((some (wrap64 ((wrap64 ((Int.tmod x0 1048576) * x3)) - (wrap64 ((Int.tmod x2 1048576) * x1)))))).bind fun t199 => (if (wrap64 (t198 + (wrap64 (Int.tdiv t199 1048576)))) > 0 then (coraclelaw15_VecAsks.j2 k x0 x1 x4 x11 bt194.1 bt194.2.1 bt194.2.2 t197 0 (wrap64 (t198 + (wrap64 (Int.tdiv t199 1048576)))) (Int.tmod t199 1048576) true) else (if (wrap64 (t198 + (wrap64 (Int.tdiv t199 1048576)))) = 0 then (coraclelaw15_VecAsks.j2 k x0 x1 x4 x11 bt194.1 bt194.2.1 bt194.2.2 t197 0 (wrap64 (t198 + (wrap64 (Int.tdiv t199 1048576)))) (Int.tmod t199 1048576) (decide ((Int.tmod t199 1048576) > 0))) else (coraclelaw15_VecAsks.j2 k x0 x1 x4 x11 bt194.1 bt194.2.1 bt194.2.2 t197 0 (wrap64 (t198 + (wrap64 (Int.tdiv t199 1048576)))) (Int.tmod t199 1048576) false)))))))
def coraclelaw15_VecAsks.j3 : Nat → Int → Int → Int → C128 → Int → Int → Bool → C128 → Int → Int → Int → Option (Bool)
  | 0, _, _, _, _, _, _, _, _, _, _, _ => none
  | k + 1, x0, x1, x4, x11, x13, x14, x15, x16, x21, x22, x23 => if x22 > 0 then (coraclelaw15_VecAsks.j4 k x0 x1 x4 x11 x13 x14 x15 x16 x21 x22 x23 (decide (x23 < 0))) else (coraclelaw15_VecAsks.j4 k x0 x1 x4 x11 x13 x14 x15 x16 x21 x22 x23 false)
def coraclelaw15_VecAsks.j4 : Nat → Int → Int → Int → C128 → Int → Int → Bool → C128 → Int → Int → Int → Bool → Option (Bool)
  | 0, _, _, _, _, _, _, _, _, _, _, _, _ => none
  | k + 1, x0, x1, x4, x11, x13, x14, x15, x16, x21, x22, x23, x125 => if x125 = true then (coraclelaw15_VecAsks.j5 k x0 x1 x4 x11 x13 x14 x15 x16 1 x22 x23) else (coraclelaw15_VecAsks.j5 k x0 x1 x4 x11 x13 x14 x15 x16 x21 x22 x23)
def coraclelaw15_VecAsks.j5 : Nat → Int → Int → Int → C128 → Int → Int → Bool → C128 → Int → Int → Int → Option (Bool)
  | 0, _, _, _, _, _, _, _, _, _, _, _ => none
  | k + 1, x0, x1, x4, x11, x13, x14, x15, x16, x21, x22, x23 => if x22 < 0 then (coraclelaw15_VecAsks.j6 k x0 x1 x4 x11 x13 x14 x15 x16 x21 (decide (x23 > 0))) else (coraclelaw15_VecAsks.j6 k x0 x1 x4 x11 x13 x14 x15 x16 x21 false)
def coraclelaw15_VecAsks.j6 : Nat → Int → Int → Int → C128 → Int → Int → Bool → C128 → Int → Bool → Option (Bool)
  | 0, _, _, _, _, _, _, _, _, _, _ => none
  | k + 1, x0, x1, x4, x11, x13, x14, x15, x16, x21, x131 => if x131 = true then (coraclelaw15_VecAsks.j7 k x0 x1 x4 x11 x13 x14 x15 x16 (-1)) else (coraclelaw15_VecAsks.j7 k x0 x1 x4 x11 x13 x14 x15 x16 x21)
def coraclelaw15_VecAsks.j7 : Nat → Int → Int → Int → C128 → Int → Int → Bool → C128 → Int → Option (Bool)
  | 0, _, _, _, _, _, _, _, _, _ => none
  | k + 1, x0, x1, x4, x11, x13, x14, x15, x16, x21 => (vec_Scale.f x11 x4).bind fun bt200 => (if x4 ≥ 0 then (if x4 ≤ 10000 then (if x4 = 0 then (coraclelaw15_VecAsks.j8 k x0 x1 x4 x11 x13 x14 x15 x16 x21 bt200.1 bt200.2 true) else (if x0 ≤ (wrap64 (Int.tdiv (2100000000000000 : Int) x4)) then (coraclelaw15_VecAsks.j8 k x0 x1 x4 x11 x13 x14 x15 x16 x21 bt200.1 bt200.2 (decide (x1 ≤ (wrap64 (Int.tdiv (4000000 : Int) x4))))) else (coraclelaw15_VecAsks.j8 k x0 x1 x4 x11 x13 x14 x15 x16 x21 bt200.1 bt200.2 false))) else (coraclelaw15_VecAsks.j8 k x0 x1 x4 x11 x13 x14 x15 x16 x21 bt200.1 bt200.2 false)) else (coraclelaw15_VecAsks.j8 k x0 x1 x4 x11 x13 x14 x15 x16 x21 bt200.1 bt200.2 false))
def coraclelaw15_VecAsks.j8 : Nat → Int → Int → Int → C128 → Int → Int → Bool → C128 → Int → C128 → Int → Bool → Option (Bool)
  | 0, _, _, _, _, _, _, _, _, _, _, _, _ => none
  | k + 1, x0, x1, x4, x11, x13, x14, x15, x16, x21, x24, x25, x26 => if x26 = true then (if x25 = 0 then (coraclelaw15_VecAsks.j9 k x0 x1 x4 x11 x13 x14 x15 x16 x21 x24 x26 false) else (coraclelaw15_VecAsks.j9 k x0 x1 x4 x11 x13 x14 x15 x16 x21 x24 x26 true)) else (if x25 = 0 then (coraclelaw15_VecAsks.j9 k x0 x1 x4 x11 x13 x14 x15 x16 x21 x24 x26 true) else (coraclelaw15_VecAsks.j9 k x0 x1 x4 x11 x13 x14 x15 x16 x21 x24 x26 (x25 != 11)))
def coraclelaw15_VecAsks.j9 : Nat → Int → Int → Int → C128 → Int → Int → Bool → C128 → Int → C128 → Bool → Bool → Option (Bool)
  | 0, _, _, _, _, _, _, _, _, _, _, _, _ => none
  | k + 1, x0, x1, x4, x11, x13, x14, x15, x16, x21, x24, x26, x171 => if x171 = true then (some false) else ((vec_Parts.f x24).bind fun bt202 => (if x15 = true then (if x13 = x0 then (if x14 = x1 then ((vec_Cross.f k x11 x16).bind fun t205 => (if t205 = x21 then ((vec_Cross.f k x16 x11).bind fun t206 => (if t206 = (wrap64 (-x21)) then ((vec_Steeper.f k x11 x16).bind fun t207 => (if t207 = true then (if x21 = 1 then (if x26 = true then (if bt202.2.2 = true then (if bt202.1 = (wrap64 (x4 * x0)) then (if bt202.2.1 = (wrap64 (x4 * x1)) then ((coraclelaw15_awake.f k).bind fun t208 => (some t208)) else (some false)) else (some false)) else (some false)) else ((coraclelaw15_awake.f k).bind fun t209 => (some t209))) else (some false)) else (if x21 = 1 then (some false) else (if x26 = true then (if bt202.2.2 = true then (if bt202.1 = (wrap64 (x4 * x0)) then (if bt202.2.1 = (wrap64 (x4 * x1)) then ((coraclelaw15_awake.f k).bind fun t210 => (some t210)) else (some false)) else (some false)) else (some false)) else ((coraclelaw15_awake.f k).bind fun t211 => (some t211)))))) else (some false))) else (some false))) else (some false)) else (some false)) else (some false)))
def coraclelaw15_VecAsks.j2 : Nat → Int → Int → Int → C128 → Int → Int → Bool → C128 → Int → Int → Int → Bool → Option (Bool)
  | 0, _, _, _, _, _, _, _, _, _, _, _, _ => none
  | k + 1, x0, x1, x4, x11, x13, x14, x15, x16, x21, x22, x23, x102 => if x102 = true then (coraclelaw15_VecAsks.j3 k x0 x1 x4 x11 x13 x14 x15 x16 1 x22 x23) else (if x22 < 0 then (coraclelaw15_VecAsks.j3 k x0 x1 x4 x11 x13 x14 x15 x16 (-1) x22 x23) else (if x23 < 0 then (coraclelaw15_VecAsks.j3 k x0 x1 x4 x11 x13 x14 x15 x16 (-1) x22 x23) else (coraclelaw15_VecAsks.j3 k x0 x1 x4 x11 x13 x14 x15 x16 x21 x22 x23)))
end
def coraclelaw15_VecAsks.f (k : Nat) (a0 : Int) (a1 : Int) (a2 : Int) (a3 : Int) (a4 : Int) : Option (Bool) := (vec_Of.f a0 a1).bind fun bt188 => ((coraclelaw15_in.f a0 a1).bind fun t190 => (if bt188.2 = 0 then (if t190 = true then (coraclelaw15_VecAsks.j0 k a0 a1 a2 a3 a4 bt188.1 false) else (coraclelaw15_VecAsks.j0 k a0 a1 a2 a3 a4 bt188.1 true)) else (if t190 = true then (coraclelaw15_VecAsks.j0 k a0 a1 a2 a3 a4 bt188.1 true) else (if bt188.2 = 11 then (coraclelaw15_VecAsks.j0 k a0 a1 a2 a3 a4 bt188.1 (!(ceq bt188.1.re bt188.1.im 0 0))) else (coraclelaw15_VecAsks.j0 k a0 a1 a2 a3 a4 bt188.1 true)))))
theorem coraclelaw15_VecAsks.mono_l : ∀ k, (∀ y0 y1 y2 y3 y4 y5 y6, LeO (coraclelaw15_VecAsks.j0 k y0 y1 y2 y3 y4 y5 y6) (coraclelaw15_VecAsks.j0 (k + 1) y0 y1 y2 y3 y4 y5 y6)) ∧ (∀ y0 y1 y2 y3 y4 y5 y6, LeO (coraclelaw15_VecAsks.j1 k y0 y1 y2 y3 y4 y5 y6) (coraclelaw15_VecAsks.j1 (k + 1) y0 y1 y2 y3 y4 y5 y6)) ∧ (∀ y0 y1 y2 y3 y4 y5 y6 y7 y8 y9 y10, LeO (coraclelaw15_VecAsks.j3 k y0 y1 y2 y3 y4 y5 y6 y7 y8 y9 y10) (coraclelaw15_VecAsks.j3 (k + 1) y0 y1 y2 y3 y4 y5 y6 y7 y8 y9 y10)) ∧ (∀ y0 y1 y2 y3 y4 y5 y6 y7 y8 y9 y10 y11, LeO (coraclelaw15_VecAsks.j4 k y0 y1 y2 y3 y4 y5 y6 y7 y8 y9 y10 y11) (coraclelaw15_VecAsks.j4 (k + 1) y0 y1 y2 y3 y4 y5 y6 y7 y8 y9 y10 y11)) ∧ (∀ y0 y1 y2 y3 y4 y5 y6 y7 y8 y9 y10, LeO (coraclelaw15_VecAsks.j5 k y0 y1 y2 y3 y4 y5 y6 y7 y8 y9 y10) (coraclelaw15_VecAsks.j5 (k + 1) y0 y1 y2 y3 y4 y5 y6 y7 y8 y9 y10)) ∧ (∀ y0 y1 y2 y3 y4 y5 y6 y7 y8 y9, LeO (coraclelaw15_VecAsks.j6 k y0 y1 y2 y3 y4 y5 y6 y7 y8 y9) (coraclelaw15_VecAsks.j6 (k + 1) y0 y1 y2 y3 y4 y5 y6 y7 y8 y9)) ∧ (∀ y0 y1 y2 y3 y4 y5 y6 y7 y8, LeO (coraclelaw15_VecAsks.j7 k y0 y1 y2 y3 y4 y5 y6 y7 y8) (coraclelaw15_VecAsks.j7 (k + 1) y0 y1 y2 y3 y4 y5 y6 y7 y8)) ∧ (∀ y0 y1 y2 y3 y4 y5 y6 y7 y8 y9 y10 y11, LeO (coraclelaw15_VecAsks.j8 k y0 y1 y2 y3 y4 y5 y6 y7 y8 y9 y10 y11) (coraclelaw15_VecAsks.j8 (k + 1) y0 y1 y2 y3 y4 y5 y6 y7 y8 y9 y10 y11)) ∧ (∀ y0 y1 y2 y3 y4 y5 y6 y7 y8 y9 y10 y11, LeO (coraclelaw15_VecAsks.j9 k y0 y1 y2 y3 y4 y5 y6 y7 y8 y9 y10 y11) (coraclelaw15_VecAsks.j9 (k + 1) y0 y1 y2 y3 y4 y5 y6 y7 y8 y9 y10 y11)) ∧ (∀ y0 y1 y2 y3 y4 y5 y6 y7 y8 y9 y10 y11, LeO (coraclelaw15_VecAsks.j2 k y0 y1 y2 y3 y4 y5 y6 y7 y8 y9 y10 y11) (coraclelaw15_VecAsks.j2 (k + 1) y0 y1 y2 y3 y4 y5 y6 y7 y8 y9 y10 y11))
  | 0 => ⟨fun _ _ _ _ _ _ _ r h => by simp [coraclelaw15_VecAsks.j0] at h, fun _ _ _ _ _ _ _ r h => by simp [coraclelaw15_VecAsks.j1] at h, fun _ _ _ _ _ _ _ _ _ _ _ r h => by simp [coraclelaw15_VecAsks.j3] at h, fun _ _ _ _ _ _ _ _ _ _ _ _ r h => by simp [coraclelaw15_VecAsks.j4] at h, fun _ _ _ _ _ _ _ _ _ _ _ r h => by simp [coraclelaw15_VecAsks.j5] at h, fun _ _ _ _ _ _ _ _ _ _ r h => by simp [coraclelaw15_VecAsks.j6] at h, fun _ _ _ _ _ _ _ _ _ r h => by simp [coraclelaw15_VecAsks.j7] at h, fun _ _ _ _ _ _ _ _ _ _ _ _ r h => by simp [coraclelaw15_VecAsks.j8] at h, fun _ _ _ _ _ _ _ _ _ _ _ _ r h => by simp [coraclelaw15_VecAsks.j9] at h, fun _ _ _ _ _ _ _ _ _ _ _ _ r h => by simp [coraclelaw15_VecAsks.j2] at h⟩
  | k + 1 => by
    obtain ⟨ih0, ih1, ih2, ih3, ih4, ih5, ih6, ih7, ih8, ih9⟩ := coraclelaw15_VecAsks.mono_l k
    refine ⟨?_, ?_, ?_, ?_, ?_, ?_, ?_, ?_, ?_, ?_⟩
    · intro y0 y1 y2 y3 y4 y5 y6
      unfold coraclelaw15_VecAsks.j0
      repeat' first
      | (with_reducible exact ih0 _ _ _ _ _ _ _)
      | (with_reducible exact ih1 _ _ _ _ _ _ _)
      | (with_reducible exact ih2 _ _ _ _ _ _ _ _ _ _ _)
      | (with_reducible exact ih3 _ _ _ _ _ _ _ _ _ _ _ _)
      | (with_reducible exact ih4 _ _ _ _ _ _ _ _ _ _ _)
      | (with_reducible exact ih5 _ _ _ _ _ _ _ _ _ _)
      | (with_reducible exact ih6 _ _ _ _ _ _ _ _ _)
      | (with_reducible exact ih7 _ _ _ _ _ _ _ _ _ _ _ _)
      | (with_reducible exact ih8 _ _ _ _ _ _ _ _ _ _ _ _)
      | (with_reducible exact ih9 _ _ _ _ _ _ _ _ _ _ _ _)
      | (with_reducible exact coraclelaw15_awake.mono _)
      | (with_reducible exact vec_Cross.mono _ _ _)
      | (with_reducible exact vec_Steeper.mono _ _ _)
      | (with_reducible exact LeO.refl _)
      | (with_reducible exact LeO.none _)
      | (with_reducible refine LeO.ite ?_ ?_)
      | (with_reducible refine LeO.bind ?_ (fun _ => ?_))
      | exact ih0 _ _ _ _ _ _ _
      | exact ih1 _ _ _ _ _ _ _
      | exact ih2 _ _ _ _ _ _ _ _ _ _ _
      | exact ih3 _ _ _ _ _ _ _ _ _ _ _ _
      | exact ih4 _ _ _ _ _ _ _ _ _ _ _
      | exact ih5 _ _ _ _ _ _ _ _ _ _
      | exact ih6 _ _ _ _ _ _ _ _ _
      | exact ih7 _ _ _ _ _ _ _ _ _ _ _ _
      | exact ih8 _ _ _ _ _ _ _ _ _ _ _ _
      | exact ih9 _ _ _ _ _ _ _ _ _ _ _ _
      | exact coraclelaw15_awake.mono _
      | exact vec_Cross.mono _ _ _
      | exact vec_Steeper.mono _ _ _
      | exact LeO.none _
      | refine LeO.ite ?_ ?_
      | refine LeO.bind ?_ (fun _ => ?_)
    · intro y0 y1 y2 y3 y4 y5 y6
      unfold coraclelaw15_VecAsks.j1
      repeat' first
      | (with_reducible exact ih0 _ _ _ _ _ _ _)
      | (with_reducible exact ih1 _ _ _ _ _ _ _)
      | (with_reducible exact ih2 _ _ _ _ _ _ _ _ _ _ _)
      | (with_reducible exact ih3 _ _ _ _ _ _ _ _ _ _ _ _)
      | (with_reducible exact ih4 _ _ _ _ _ _ _ _ _ _ _)
      | (with_reducible exact ih5 _ _ _ _ _ _ _ _ _ _)
      | (with_reducible exact ih6 _ _ _ _ _ _ _ _ _)
      | (with_reducible exact ih7 _ _ _ _ _ _ _ _ _ _ _ _)
      | (with_reducible exact ih8 _ _ _ _ _ _ _ _ _ _ _ _)
      | (with_reducible exact ih9 _ _ _ _ _ _ _ _ _ _ _ _)
      | (with_reducible exact coraclelaw15_awake.mono _)
      | (with_reducible exact vec_Cross.mono _ _ _)
      | (with_reducible exact vec_Steeper.mono _ _ _)
      | (with_reducible exact LeO.refl _)
      | (with_reducible exact LeO.none _)
      | (with_reducible refine LeO.ite ?_ ?_)
      | (with_reducible refine LeO.bind ?_ (fun _ => ?_))
      | exact ih0 _ _ _ _ _ _ _
      | exact ih1 _ _ _ _ _ _ _
      | exact ih2 _ _ _ _ _ _ _ _ _ _ _
      | exact ih3 _ _ _ _ _ _ _ _ _ _ _ _
      | exact ih4 _ _ _ _ _ _ _ _ _ _ _
      | exact ih5 _ _ _ _ _ _ _ _ _ _
      | exact ih6 _ _ _ _ _ _ _ _ _
      | exact ih7 _ _ _ _ _ _ _ _ _ _ _ _
      | exact ih8 _ _ _ _ _ _ _ _ _ _ _ _
      | exact ih9 _ _ _ _ _ _ _ _ _ _ _ _
      | exact coraclelaw15_awake.mono _
      | exact vec_Cross.mono _ _ _
      | exact vec_Steeper.mono _ _ _
      | exact LeO.none _
      | refine LeO.ite ?_ ?_
      | refine LeO.bind ?_ (fun _ => ?_)
    · intro y0 y1 y2 y3 y4 y5 y6 y7 y8 y9 y10
      unfold coraclelaw15_VecAsks.j3
      repeat' first
      | (with_reducible exact ih0 _ _ _ _ _ _ _)
      | (with_reducible exact ih1 _ _ _ _ _ _ _)
      | (with_reducible exact ih2 _ _ _ _ _ _ _ _ _ _ _)
      | (with_reducible exact ih3 _ _ _ _ _ _ _ _ _ _ _ _)
      | (with_reducible exact ih4 _ _ _ _ _ _ _ _ _ _ _)
      | (with_reducible exact ih5 _ _ _ _ _ _ _ _ _ _)
      | (with_reducible exact ih6 _ _ _ _ _ _ _ _ _)
      | (with_reducible exact ih7 _ _ _ _ _ _ _ _ _ _ _ _)
      | (with_reducible exact ih8 _ _ _ _ _ _ _ _ _ _ _ _)
      | (with_reducible exact ih9 _ _ _ _ _ _ _ _ _ _ _ _)
      | (with_reducible exact coraclelaw15_awake.mono _)
      | (with_reducible exact vec_Cross.mono _ _ _)
      | (with_reducible exact vec_Steeper.mono _ _ _)
      | (with_reducible exact LeO.refl _)
      | (with_reducible exact LeO.none _)
      | (with_reducible refine LeO.ite ?_ ?_)
      | (with_reducible refine LeO.bind ?_ (fun _ => ?_))
      | exact ih0 _ _ _ _ _ _ _
      | exact ih1 _ _ _ _ _ _ _
      | exact ih2 _ _ _ _ _ _ _ _ _ _ _
      | exact ih3 _ _ _ _ _ _ _ _ _ _ _ _
      | exact ih4 _ _ _ _ _ _ _ _ _ _ _
      | exact ih5 _ _ _ _ _ _ _ _ _ _
      | exact ih6 _ _ _ _ _ _ _ _ _
      | exact ih7 _ _ _ _ _ _ _ _ _ _ _ _
      | exact ih8 _ _ _ _ _ _ _ _ _ _ _ _
      | exact ih9 _ _ _ _ _ _ _ _ _ _ _ _
      | exact coraclelaw15_awake.mono _
      | exact vec_Cross.mono _ _ _
      | exact vec_Steeper.mono _ _ _
      | exact LeO.none _
      | refine LeO.ite ?_ ?_
      | refine LeO.bind ?_ (fun _ => ?_)
    · intro y0 y1 y2 y3 y4 y5 y6 y7 y8 y9 y10 y11
      unfold coraclelaw15_VecAsks.j4
      repeat' first
      | (with_reducible exact ih0 _ _ _ _ _ _ _)
      | (with_reducible exact ih1 _ _ _ _ _ _ _)
      | (with_reducible exact ih2 _ _ _ _ _ _ _ _ _ _ _)
      | (with_reducible exact ih3 _ _ _ _ _ _ _ _ _ _ _ _)
      | (with_reducible exact ih4 _ _ _ _ _ _ _ _ _ _ _)
      | (with_reducible exact ih5 _ _ _ _ _ _ _ _ _ _)
      | (with_reducible exact ih6 _ _ _ _ _ _ _ _ _)
      | (with_reducible exact ih7 _ _ _ _ _ _ _ _ _ _ _ _)
      | (with_reducible exact ih8 _ _ _ _ _ _ _ _ _ _ _ _)
      | (with_reducible exact ih9 _ _ _ _ _ _ _ _ _ _ _ _)
      | (with_reducible exact coraclelaw15_awake.mono _)
      | (with_reducible exact vec_Cross.mono _ _ _)
      | (with_reducible exact vec_Steeper.mono _ _ _)
      | (with_reducible exact LeO.refl _)
      | (with_reducible exact LeO.none _)
      | (with_reducible refine LeO.ite ?_ ?_)
      | (with_reducible refine LeO.bind ?_ (fun _ => ?_))
      | exact ih0 _ _ _ _ _ _ _
      | exact ih1 _ _ _ _ _ _ _
      | exact ih2 _ _ _ _ _ _ _ _ _ _ _
      | exact ih3 _ _ _ _ _ _ _ _ _ _ _ _
      | exact ih4 _ _ _ _ _ _ _ _ _ _ _
      | exact ih5 _ _ _ _ _ _ _ _ _ _
      | exact ih6 _ _ _ _ _ _ _ _ _
      | exact ih7 _ _ _ _ _ _ _ _ _ _ _ _
      | exact ih8 _ _ _ _ _ _ _ _ _ _ _ _
      | exact ih9 _ _ _ _ _ _ _ _ _ _ _ _
      | exact coraclelaw15_awake.mono _
      | exact vec_Cross.mono _ _ _
      | exact vec_Steeper.mono _ _ _
      | exact LeO.none _
      | refine LeO.ite ?_ ?_
      | refine LeO.bind ?_ (fun _ => ?_)
    · intro y0 y1 y2 y3 y4 y5 y6 y7 y8 y9 y10
      unfold coraclelaw15_VecAsks.j5
      repeat' first
      | (with_reducible exact ih0 _ _ _ _ _ _ _)
      | (with_reducible exact ih1 _ _ _ _ _ _ _)
      | (with_reducible exact ih2 _ _ _ _ _ _ _ _ _ _ _)
      | (with_reducible exact ih3 _ _ _ _ _ _ _ _ _ _ _ _)
      | (with_reducible exact ih4 _ _ _ _ _ _ _ _ _ _ _)
      | (with_reducible exact ih5 _ _ _ _ _ _ _ _ _ _)
      | (with_reducible exact ih6 _ _ _ _ _ _ _ _ _)
      | (with_reducible exact ih7 _ _ _ _ _ _ _ _ _ _ _ _)
      | (with_reducible exact ih8 _ _ _ _ _ _ _ _ _ _ _ _)
      | (with_reducible exact ih9 _ _ _ _ _ _ _ _ _ _ _ _)
      | (with_reducible exact coraclelaw15_awake.mono _)
      | (with_reducible exact vec_Cross.mono _ _ _)
      | (with_reducible exact vec_Steeper.mono _ _ _)
      | (with_reducible exact LeO.refl _)
      | (with_reducible exact LeO.none _)
      | (with_reducible refine LeO.ite ?_ ?_)
      | (with_reducible refine LeO.bind ?_ (fun _ => ?_))
      | exact ih0 _ _ _ _ _ _ _
      | exact ih1 _ _ _ _ _ _ _
      | exact ih2 _ _ _ _ _ _ _ _ _ _ _
      | exact ih3 _ _ _ _ _ _ _ _ _ _ _ _
      | exact ih4 _ _ _ _ _ _ _ _ _ _ _
      | exact ih5 _ _ _ _ _ _ _ _ _ _
      | exact ih6 _ _ _ _ _ _ _ _ _
      | exact ih7 _ _ _ _ _ _ _ _ _ _ _ _
      | exact ih8 _ _ _ _ _ _ _ _ _ _ _ _
      | exact ih9 _ _ _ _ _ _ _ _ _ _ _ _
      | exact coraclelaw15_awake.mono _
      | exact vec_Cross.mono _ _ _
      | exact vec_Steeper.mono _ _ _
      | exact LeO.none _
      | refine LeO.ite ?_ ?_
      | refine LeO.bind ?_ (fun _ => ?_)
    · intro y0 y1 y2 y3 y4 y5 y6 y7 y8 y9
      unfold coraclelaw15_VecAsks.j6
      repeat' first
      | (with_reducible exact ih0 _ _ _ _ _ _ _)
      | (with_reducible exact ih1 _ _ _ _ _ _ _)
      | (with_reducible exact ih2 _ _ _ _ _ _ _ _ _ _ _)
      | (with_reducible exact ih3 _ _ _ _ _ _ _ _ _ _ _ _)
      | (with_reducible exact ih4 _ _ _ _ _ _ _ _ _ _ _)
      | (with_reducible exact ih5 _ _ _ _ _ _ _ _ _ _)
      | (with_reducible exact ih6 _ _ _ _ _ _ _ _ _)
      | (with_reducible exact ih7 _ _ _ _ _ _ _ _ _ _ _ _)
      | (with_reducible exact ih8 _ _ _ _ _ _ _ _ _ _ _ _)
      | (with_reducible exact ih9 _ _ _ _ _ _ _ _ _ _ _ _)
      | (with_reducible exact coraclelaw15_awake.mono _)
      | (with_reducible exact vec_Cross.mono _ _ _)
      | (with_reducible exact vec_Steeper.mono _ _ _)
      | (with_reducible exact LeO.refl _)
      | (with_reducible exact LeO.none _)
      | (with_reducible refine LeO.ite ?_ ?_)
      | (with_reducible refine LeO.bind ?_ (fun _ => ?_))
      | exact ih0 _ _ _ _ _ _ _
      | exact ih1 _ _ _ _ _ _ _
      | exact ih2 _ _ _ _ _ _ _ _ _ _ _
      | exact ih3 _ _ _ _ _ _ _ _ _ _ _ _
      | exact ih4 _ _ _ _ _ _ _ _ _ _ _
      | exact ih5 _ _ _ _ _ _ _ _ _ _
      | exact ih6 _ _ _ _ _ _ _ _ _
      | exact ih7 _ _ _ _ _ _ _ _ _ _ _ _
      | exact ih8 _ _ _ _ _ _ _ _ _ _ _ _
      | exact ih9 _ _ _ _ _ _ _ _ _ _ _ _
      | exact coraclelaw15_awake.mono _
      | exact vec_Cross.mono _ _ _
      | exact vec_Steeper.mono _ _ _
      | exact LeO.none _
      | refine LeO.ite ?_ ?_
      | refine LeO.bind ?_ (fun _ => ?_)
    · intro y0 y1 y2 y3 y4 y5 y6 y7 y8
      unfold coraclelaw15_VecAsks.j7
      repeat' first
      | (with_reducible exact ih0 _ _ _ _ _ _ _)
      | (with_reducible exact ih1 _ _ _ _ _ _ _)
      | (with_reducible exact ih2 _ _ _ _ _ _ _ _ _ _ _)
      | (with_reducible exact ih3 _ _ _ _ _ _ _ _ _ _ _ _)
      | (with_reducible exact ih4 _ _ _ _ _ _ _ _ _ _ _)
      | (with_reducible exact ih5 _ _ _ _ _ _ _ _ _ _)
      | (with_reducible exact ih6 _ _ _ _ _ _ _ _ _)
      | (with_reducible exact ih7 _ _ _ _ _ _ _ _ _ _ _ _)
      | (with_reducible exact ih8 _ _ _ _ _ _ _ _ _ _ _ _)
      | (with_reducible exact ih9 _ _ _ _ _ _ _ _ _ _ _ _)
      | (with_reducible exact coraclelaw15_awake.mono _)
      | (with_reducible exact vec_Cross.mono _ _ _)
      | (with_reducible exact vec_Steeper.mono _ _ _)
      | (with_reducible exact LeO.refl _)
      | (with_reducible exact LeO.none _)
      | (with_reducible refine LeO.ite ?_ ?_)
      | (with_reducible refine LeO.bind ?_ (fun _ => ?_))
      | exact ih0 _ _ _ _ _ _ _
      | exact ih1 _ _ _ _ _ _ _
      | exact ih2 _ _ _ _ _ _ _ _ _ _ _
      | exact ih3 _ _ _ _ _ _ _ _ _ _ _ _
      | exact ih4 _ _ _ _ _ _ _ _ _ _ _
      | exact ih5 _ _ _ _ _ _ _ _ _ _
      | exact ih6 _ _ _ _ _ _ _ _ _
      | exact ih7 _ _ _ _ _ _ _ _ _ _ _ _
      | exact ih8 _ _ _ _ _ _ _ _ _ _ _ _
      | exact ih9 _ _ _ _ _ _ _ _ _ _ _ _
      | exact coraclelaw15_awake.mono _
      | exact vec_Cross.mono _ _ _
      | exact vec_Steeper.mono _ _ _
      | exact LeO.none _
      | refine LeO.ite ?_ ?_
      | refine LeO.bind ?_ (fun _ => ?_)
    · intro y0 y1 y2 y3 y4 y5 y6 y7 y8 y9 y10 y11
      unfold coraclelaw15_VecAsks.j8
      repeat' first
      | (with_reducible exact ih0 _ _ _ _ _ _ _)
      | (with_reducible exact ih1 _ _ _ _ _ _ _)
      | (with_reducible exact ih2 _ _ _ _ _ _ _ _ _ _ _)
      | (with_reducible exact ih3 _ _ _ _ _ _ _ _ _ _ _ _)
      | (with_reducible exact ih4 _ _ _ _ _ _ _ _ _ _ _)
      | (with_reducible exact ih5 _ _ _ _ _ _ _ _ _ _)
      | (with_reducible exact ih6 _ _ _ _ _ _ _ _ _)
      | (with_reducible exact ih7 _ _ _ _ _ _ _ _ _ _ _ _)
      | (with_reducible exact ih8 _ _ _ _ _ _ _ _ _ _ _ _)
      | (with_reducible exact ih9 _ _ _ _ _ _ _ _ _ _ _ _)
      | (with_reducible exact coraclelaw15_awake.mono _)
      | (with_reducible exact vec_Cross.mono _ _ _)
      | (with_reducible exact vec_Steeper.mono _ _ _)
      | (with_reducible exact LeO.refl _)
      | (with_reducible exact LeO.none _)
      | (with_reducible refine LeO.ite ?_ ?_)
      | (with_reducible refine LeO.bind ?_ (fun _ => ?_))
      | exact ih0 _ _ _ _ _ _ _
      | exact ih1 _ _ _ _ _ _ _
      | exact ih2 _ _ _ _ _ _ _ _ _ _ _
      | exact ih3 _ _ _ _ _ _ _ _ _ _ _ _
      | exact ih4 _ _ _ _ _ _ _ _ _ _ _
      | exact ih5 _ _ _ _ _ _ _ _ _ _
      | exact ih6 _ _ _ _ _ _ _ _ _
      | exact ih7 _ _ _ _ _ _ _ _ _ _ _ _
      | exact ih8 _ _ _ _ _ _ _ _ _ _ _ _
      | exact ih9 _ _ _ _ _ _ _ _ _ _ _ _
      | exact coraclelaw15_awake.mono _
      | exact vec_Cross.mono _ _ _
      | exact vec_Steeper.mono _ _ _
      | exact LeO.none _
      | refine LeO.ite ?_ ?_
      | refine LeO.bind ?_ (fun _ => ?_)
    · intro y0 y1 y2 y3 y4 y5 y6 y7 y8 y9 y10 y11
      unfold coraclelaw15_VecAsks.j9
      repeat' first
      | (with_reducible exact ih0 _ _ _ _ _ _ _)
      | (with_reducible exact ih1 _ _ _ _ _ _ _)
      | (with_reducible exact ih2 _ _ _ _ _ _ _ _ _ _ _)
      | (with_reducible exact ih3 _ _ _ _ _ _ _ _ _ _ _ _)
      | (with_reducible exact ih4 _ _ _ _ _ _ _ _ _ _ _)
      | (with_reducible exact ih5 _ _ _ _ _ _ _ _ _ _)
      | (with_reducible exact ih6 _ _ _ _ _ _ _ _ _)
      | (with_reducible exact ih7 _ _ _ _ _ _ _ _ _ _ _ _)
      | (with_reducible exact ih8 _ _ _ _ _ _ _ _ _ _ _ _)
      | (with_reducible exact ih9 _ _ _ _ _ _ _ _ _ _ _ _)
      | (with_reducible exact coraclelaw15_awake.mono _)
      | (with_reducible exact vec_Cross.mono _ _ _)
      | (with_reducible exact vec_Steeper.mono _ _ _)
      | (with_reducible exact LeO.refl _)
      | (with_reducible exact LeO.none _)
      | (with_reducible refine LeO.ite ?_ ?_)
      | (with_reducible refine LeO.bind ?_ (fun _ => ?_))
      | exact ih0 _ _ _ _ _ _ _
      | exact ih1 _ _ _ _ _ _ _
      | exact ih2 _ _ _ _ _ _ _ _ _ _ _
      | exact ih3 _ _ _ _ _ _ _ _ _ _ _ _
      | exact ih4 _ _ _ _ _ _ _ _ _ _ _
      | exact ih5 _ _ _ _ _ _ _ _ _ _
      | exact ih6 _ _ _ _ _ _ _ _ _
      | exact ih7 _ _ _ _ _ _ _ _ _ _ _ _
      | exact ih8 _ _ _ _ _ _ _ _ _ _ _ _
      | exact ih9 _ _ _ _ _ _ _ _ _ _ _ _
      | exact coraclelaw15_awake.mono _
      | exact vec_Cross.mono _ _ _
      | exact vec_Steeper.mono _ _ _
      | exact LeO.none _
      | refine LeO.ite ?_ ?_
      | refine LeO.bind ?_ (fun _ => ?_)
    · intro y0 y1 y2 y3 y4 y5 y6 y7 y8 y9 y10 y11
      unfold coraclelaw15_VecAsks.j2
      repeat' first
      | (with_reducible exact ih0 _ _ _ _ _ _ _)
      | (with_reducible exact ih1 _ _ _ _ _ _ _)
      | (with_reducible exact ih2 _ _ _ _ _ _ _ _ _ _ _)
      | (with_reducible exact ih3 _ _ _ _ _ _ _ _ _ _ _ _)
      | (with_reducible exact ih4 _ _ _ _ _ _ _ _ _ _ _)
      | (with_reducible exact ih5 _ _ _ _ _ _ _ _ _ _)
      | (with_reducible exact ih6 _ _ _ _ _ _ _ _ _)
      | (with_reducible exact ih7 _ _ _ _ _ _ _ _ _ _ _ _)
      | (with_reducible exact ih8 _ _ _ _ _ _ _ _ _ _ _ _)
      | (with_reducible exact ih9 _ _ _ _ _ _ _ _ _ _ _ _)
      | (with_reducible exact coraclelaw15_awake.mono _)
      | (with_reducible exact vec_Cross.mono _ _ _)
      | (with_reducible exact vec_Steeper.mono _ _ _)
      | (with_reducible exact LeO.refl _)
      | (with_reducible exact LeO.none _)
      | (with_reducible refine LeO.ite ?_ ?_)
      | (with_reducible refine LeO.bind ?_ (fun _ => ?_))
      | exact ih0 _ _ _ _ _ _ _
      | exact ih1 _ _ _ _ _ _ _
      | exact ih2 _ _ _ _ _ _ _ _ _ _ _
      | exact ih3 _ _ _ _ _ _ _ _ _ _ _ _
      | exact ih4 _ _ _ _ _ _ _ _ _ _ _
      | exact ih5 _ _ _ _ _ _ _ _ _ _
      | exact ih6 _ _ _ _ _ _ _ _ _
      | exact ih7 _ _ _ _ _ _ _ _ _ _ _ _
      | exact ih8 _ _ _ _ _ _ _ _ _ _ _ _
      | exact ih9 _ _ _ _ _ _ _ _ _ _ _ _
      | exact coraclelaw15_awake.mono _
      | exact vec_Cross.mono _ _ _
      | exact vec_Steeper.mono _ _ _
      | exact LeO.none _
      | refine LeO.ite ?_ ?_
      | refine LeO.bind ?_ (fun _ => ?_)
theorem coraclelaw15_VecAsks.mono : ∀ a0 a1 a2 a3 a4 k, LeO (coraclelaw15_VecAsks.f k a0 a1 a2 a3 a4) (coraclelaw15_VecAsks.f (k + 1) a0 a1 a2 a3 a4) := by
  intro a0 a1 a2 a3 a4 k
  obtain ⟨ih0, ih1, ih2, ih3, ih4, ih5, ih6, ih7, ih8, ih9⟩ := coraclelaw15_VecAsks.mono_l k
  unfold coraclelaw15_VecAsks.f
  repeat' first
      | (with_reducible exact ih0 _ _ _ _ _ _ _)
      | (with_reducible exact ih1 _ _ _ _ _ _ _)
      | (with_reducible exact ih2 _ _ _ _ _ _ _ _ _ _ _)
      | (with_reducible exact ih3 _ _ _ _ _ _ _ _ _ _ _ _)
      | (with_reducible exact ih4 _ _ _ _ _ _ _ _ _ _ _)
      | (with_reducible exact ih5 _ _ _ _ _ _ _ _ _ _)
      | (with_reducible exact ih6 _ _ _ _ _ _ _ _ _)
      | (with_reducible exact ih7 _ _ _ _ _ _ _ _ _ _ _ _)
      | (with_reducible exact ih8 _ _ _ _ _ _ _ _ _ _ _ _)
      | (with_reducible exact ih9 _ _ _ _ _ _ _ _ _ _ _ _)
      | (with_reducible exact coraclelaw15_awake.mono _)
      | (with_reducible exact vec_Cross.mono _ _ _)
      | (with_reducible exact vec_Steeper.mono _ _ _)
      | (with_reducible exact LeO.refl _)
      | (with_reducible exact LeO.none _)
      | (with_reducible refine LeO.ite ?_ ?_)
      | (with_reducible refine LeO.bind ?_ (fun _ => ?_))
      | exact ih0 _ _ _ _ _ _ _
      | exact ih1 _ _ _ _ _ _ _
      | exact ih2 _ _ _ _ _ _ _ _ _ _ _
      | exact ih3 _ _ _ _ _ _ _ _ _ _ _ _
      | exact ih4 _ _ _ _ _ _ _ _ _ _ _
      | exact ih5 _ _ _ _ _ _ _ _ _ _
      | exact ih6 _ _ _ _ _ _ _ _ _
      | exact ih7 _ _ _ _ _ _ _ _ _ _ _ _
      | exact ih8 _ _ _ _ _ _ _ _ _ _ _ _
      | exact ih9 _ _ _ _ _ _ _ _ _ _ _ _
      | exact coraclelaw15_awake.mono _
      | exact vec_Cross.mono _ _ _
      | exact vec_Steeper.mono _ _ _
      | exact LeO.none _
      | refine LeO.ite ?_ ?_
      | refine LeO.bind ?_ (fun _ => ?_)
set_option maxHeartbeats 8000000 in
set_option maxRecDepth 100000 in
theorem coraclelaw15_VecAsks.calls (k : Nat) (a0 : Int) (a1 : Int) (a2 : Int) (a3 : Int) (a4 : Int) (r : Bool) (w : World) (h : coraclelaw15_VecAsks.f k a0 a1 a2 a3 a4 = some r) :
    Calls Try.prog 8 #[.int .i64 a0, .int .i64 a1, .int .i64 a2, .int .i64 a3, .int .i64 a4] w fun e w' => e = .returned (.bool r) ∧ Below w.heap.size w w' := by
  have HB := Aside0.mk (Below.refl w.heap.size w)
  have H : ((vec_Of.f a0 a1).bind fun bt188 => ((coraclelaw15_in.f a0 a1).bind fun t190 => (if bt188.2 = 0 then (if t190 = true then (coraclelaw15_VecAsks.j0 k a0 a1 a2 a3 a4 bt188.1 false) else (coraclelaw15_VecAsks.j0 k a0 a1 a2 a3 a4 bt188.1 true)) else (if t190 = true then (coraclelaw15_VecAsks.j0 k a0 a1 a2 a3 a4 bt188.1 true) else (if bt188.2 = 11 then (coraclelaw15_VecAsks.j0 k a0 a1 a2 a3 a4 bt188.1 (!(ceq bt188.1.re bt188.1.im 0 0))) else (coraclelaw15_VecAsks.j0 k a0 a1 a2 a3 a4 bt188.1 true)))))) = some r := h
  clear h
  replace H := Option.bind_eq_some_iff.mp H
  obtain ⟨⟨t188, t189⟩, A60, H⟩ := H
  replace H : ((coraclelaw15_in.f a0 a1).bind fun t190 => (if t189 = 0 then (if t190 = true then (coraclelaw15_VecAsks.j0 k a0 a1 a2 a3 a4 t188 false) else (coraclelaw15_VecAsks.j0 k a0 a1 a2 a3 a4 t188 true)) else (if t190 = true then (coraclelaw15_VecAsks.j0 k a0 a1 a2 a3 a4 t188 true) else (if t189 = 11 then (coraclelaw15_VecAsks.j0 k a0 a1 a2 a3 a4 t188 (!(ceq t188.re t188.im 0 0))) else (coraclelaw15_VecAsks.j0 k a0 a1 a2 a3 a4 t188 true))))) = some r := H
  have A6 := Aside0.mk A60
  clear A60
  have HC7 := Aside0.mk H
  clear H
  go_enter Try.func8, Try.ntmps8
  go_upto_region 2 with (first | ((with_reducible refine gate_callee (f := 33) rfl ?_); refine goesL_ (some 33) rfl rfl Try.func33 (by kernel_rfl) rfl #[.int .i64 a0, .int .i64 a1] rfl (by (try simp only [List.map_toArray, List.map_cons, List.map_nil]); first | done | rfl | (simp only [List.length_drop, List.length_take]; rfl)) ?_; (with_reducible refine (vec_Of.calls a0 a1 t188 t189 _ A6.out).mono ?_); rintro e w8 ⟨rfl, hb⟩; refine ⟨_, rfl, ?_⟩; have n0_ := Aside0.mk (below_step (by repeat (first | (with_reducible first | exact HB.out | apply below_alloc | apply pw_below_drewN | apply below_drew1) | exact HB.out)) hb); clear HB; have HB := n0_; clear n0_; (try clear hb); (try clear hb2); (try clear hk); (try clear hi)))
  (try simp only [Act.put, List.setIfInBounds_toArray, List.set_cons_zero, List.set_cons_succ])
  go_cut [53] (fun v53 wc => ∃ (kq : Nat) (x53_6 : Bool), v53 = .bool x53_6 ∧ Aside0 (coraclelaw15_VecAsks.j0 kq a0 a1 a2 a3 a4 t188 x53_6 = some r) ∧ Aside0 (kq ≤ k) ∧ Aside0 (Below w.heap.size w wc))
  case first =>
    have H := HC7.out
    clear HC7
    replace H := Option.bind_eq_some_iff.mp H
    obtain ⟨t190, A90, H⟩ := H
    replace H : (if t189 = 0 then (if t190 = true then (coraclelaw15_VecAsks.j0 k a0 a1 a2 a3 a4 t188 false) else (coraclelaw15_VecAsks.j0 k a0 a1 a2 a3 a4 t188 true)) else (if t190 = true then (coraclelaw15_VecAsks.j0 k a0 a1 a2 a3 a4 t188 true) else (if t189 = 11 then (coraclelaw15_VecAsks.j0 k a0 a1 a2 a3 a4 t188 (!(ceq t188.re t188.im 0 0))) else (coraclelaw15_VecAsks.j0 k a0 a1 a2 a3 a4 t188 true)))) = some r := H
    have A9 := Aside0.mk A90
    clear A90
    by_cases c10 : t189 = 0
    · rw [if_pos c10] at H
      have c10b0 : (t189 == 0) = true := beq_iff_eq.mpr c10
      have c10b1 : (t189 != 0) = false := bne_eq_false_iff_eq.mpr c10
      clear c10
      (first | rw [c10b0] | (simp only [i64_w, i32_w]; rw [c10b0]) | skip)
      by_cases c11 : t190 = true
      · subst c11
        have H1 : (coraclelaw15_VecAsks.j0 k a0 a1 a2 a3 a4 t188 false) = some r := by rw [if_pos rfl] at H; exact H
        clear H
        have H := H1
        clear H1
        as_aux_lemma =>
          have H' := Aside0.mk H
          clear H
          go_wp2_with (first | ((with_reducible refine gate_callee (f := 29) rfl ?_); refine goesL_ (some 40) rfl rfl Try.func29 (by kernel_rfl) rfl #[.int .i64 a0, .int .i64 a1] rfl (by (try simp only [List.map_toArray, List.map_cons, List.map_nil]); first | done | rfl | (simp only [List.length_drop, List.length_take]; rfl)) ?_; (with_reducible refine (coraclelaw15_in.calls a0 a1 true _ A9.out).mono ?_); rintro e w' ⟨rfl, ⟨nd, rfl⟩⟩; refine ⟨_, rfl, ?_⟩))
          go_meet
          case rel => exact ⟨_, (false), (by first | rfl | (simp; done) | (simp [*]; done)), H', ⟨by first | omega | exact Nat.le_refl _⟩, ⟨by repeat (first | (with_reducible first | exact HB.out | apply below_alloc | apply pw_below_drewN | apply below_drew1) | exact HB.out)⟩⟩
      · replace c11 := Bool.eq_false_iff.mpr c11
        subst c11
        have H1 : (coraclelaw15_VecAsks.j0 k a0 a1 a2 a3 a4 t188 true) = some r := by rw [if_neg (show ¬ (false = true) by decide)] at H; exact H
        clear H
        have H := H1
        clear H1
        as_aux_lemma =>
          have H' := Aside0.mk H
          clear H
          go_wp2_with (first | ((with_reducible refine gate_callee (f := 29) rfl ?_); refine goesL_ (some 40) rfl rfl Try.func29 (by kernel_rfl) rfl #[.int .i64 a0, .int .i64 a1] rfl (by (try simp only [List.map_toArray, List.map_cons, List.map_nil]); first | done | rfl | (simp only [List.length_drop, List.length_take]; rfl)) ?_; (with_reducible refine (coraclelaw15_in.calls a0 a1 false _ A9.out).mono ?_); rintro e w' ⟨rfl, ⟨nd, rfl⟩⟩; refine ⟨_, rfl, ?_⟩))
          go_meet
          case rel => exact ⟨_, (true), (by first | rfl | (simp; done) | (simp [*]; done)), H', ⟨by first | omega | exact Nat.le_refl _⟩, ⟨by repeat (first | (with_reducible first | exact HB.out | apply below_alloc | apply pw_below_drewN | apply below_drew1) | exact HB.out)⟩⟩
    · rw [if_neg c10] at H
      have c10b0 : (t189 == 0) = false := beq_eq_false_iff_ne.mpr c10
      have c10b1 : (t189 != 0) = true := bne_iff_ne.mpr c10
      (first | rw [c10b0] | (simp only [i64_w, i32_w]; rw [c10b0]) | skip)
      by_cases c12 : t190 = true
      · subst c12
        have H1 : (coraclelaw15_VecAsks.j0 k a0 a1 a2 a3 a4 t188 true) = some r := by rw [if_pos rfl] at H; exact H
        clear H
        have H := H1
        clear H1
        as_aux_lemma =>
          have H' := Aside0.mk H
          clear H
          go_wp2_with (first | ((with_reducible refine gate_callee (f := 29) rfl ?_); refine goesL_ (some 40) rfl rfl Try.func29 (by kernel_rfl) rfl #[.int .i64 a0, .int .i64 a1] rfl (by (try simp only [List.map_toArray, List.map_cons, List.map_nil]); first | done | rfl | (simp only [List.length_drop, List.length_take]; rfl)) ?_; (with_reducible refine (coraclelaw15_in.calls a0 a1 true _ A9.out).mono ?_); rintro e w' ⟨rfl, ⟨nd, rfl⟩⟩; refine ⟨_, rfl, ?_⟩))
          go_meet
          case rel => exact ⟨_, (true), (by first | rfl | (simp; done) | (simp [*]; done)), H', ⟨by first | omega | exact Nat.le_refl _⟩, ⟨by repeat (first | (with_reducible first | exact HB.out | apply below_alloc | apply pw_below_drewN | apply below_drew1) | exact HB.out)⟩⟩
      · replace c12 := Bool.eq_false_iff.mpr c12
        subst c12
        have H1 : (if t189 = 11 then (coraclelaw15_VecAsks.j0 k a0 a1 a2 a3 a4 t188 (!(ceq t188.re t188.im 0 0))) else (coraclelaw15_VecAsks.j0 k a0 a1 a2 a3 a4 t188 true)) = some r := by rw [if_neg (show ¬ (false = true) by decide)] at H; exact H
        clear H
        have H := H1
        clear H1
        by_cases c13 : t189 = 11
        · rw [if_pos c13] at H
          have c13b0 : (t189 == 11) = true := beq_iff_eq.mpr c13
          have c13b1 : (t189 != 11) = false := bne_eq_false_iff_eq.mpr c13
          clear c13
          as_aux_lemma =>
            have H' := Aside0.mk H
            clear H
            go_wp2_with (first | ((with_reducible refine gate_callee (f := 29) rfl ?_); refine goesL_ (some 40) rfl rfl Try.func29 (by kernel_rfl) rfl #[.int .i64 a0, .int .i64 a1] rfl (by (try simp only [List.map_toArray, List.map_cons, List.map_nil]); first | done | rfl | (simp only [List.length_drop, List.length_take]; rfl)) ?_; (with_reducible refine (coraclelaw15_in.calls a0 a1 false _ A9.out).mono ?_); rintro e w' ⟨rfl, ⟨nd, rfl⟩⟩; refine ⟨_, rfl, ?_⟩))
            go_meet
            case rel => exact ⟨_, (!(ceq t188.re t188.im 0 0)), (by first | rfl | (simp; done) | (simp [*]; done)), H', ⟨by first | omega | exact Nat.le_refl _⟩, ⟨by repeat (first | (with_reducible first | exact HB.out | apply below_alloc | apply pw_below_drewN | apply below_drew1) | exact HB.out)⟩⟩
        · rw [if_neg c13] at H
          have c13b0 : (t189 == 11) = false := beq_eq_false_iff_ne.mpr c13
          have c13b1 : (t189 != 11) = true := bne_iff_ne.mpr c13
          as_aux_lemma =>
            have H' := Aside0.mk H
            clear H
            go_wp2_with (first | ((with_reducible refine gate_callee (f := 29) rfl ?_); refine goesL_ (some 40) rfl rfl Try.func29 (by kernel_rfl) rfl #[.int .i64 a0, .int .i64 a1] rfl (by (try simp only [List.map_toArray, List.map_cons, List.map_nil]); first | done | rfl | (simp only [List.length_drop, List.length_take]; rfl)) ?_; (with_reducible refine (coraclelaw15_in.calls a0 a1 false _ A9.out).mono ?_); rintro e w' ⟨rfl, ⟨nd, rfl⟩⟩; refine ⟨_, rfl, ?_⟩))
            go_meet
            case rel => exact ⟨_, (true), (by first | rfl | (simp; done) | (simp [*]; done)), H', ⟨by first | omega | exact Nat.le_refl _⟩, ⟨by repeat (first | (with_reducible first | exact HB.out | apply below_alloc | apply pw_below_drewN | apply below_drew1) | exact HB.out)⟩⟩
  case rest =>
    clear HC7
    try clear c1
    try clear c2
    try clear p2
    try clear c3
    try clear c8
    try clear c10
    try clear c10b0
    try clear c10b1
    try clear c11
    try clear c12
    try clear c13
    try clear c13b0
    try clear c13b1
    obtain ⟨kq, x53_6, rfl, HA, HJ6, HB⟩ := hcut
    cases kq with
    | zero => exact absurd HA.out (by simp [coraclelaw15_VecAsks.j0])
    | succ kj6 =>
      have H := HA.out
      clear HA
      simp only [coraclelaw15_VecAsks.j0] at H
      by_cases c14 : x53_6 = true
      · subst c14
        have H1 : (some false) = some r := by rw [if_pos rfl] at H; exact H
        clear H
        have H := H1
        clear H1
        as_aux_lemma =>
          obtain rfl := Option.some.inj H
          go_wp2
          go_ret
          exact ⟨by first | rfl | (simp [errW_none, errW_some] <;> rfl) | (simp [*, errW_none, errW_some] <;> rfl), by repeat (first | (with_reducible first | exact HB.out | apply below_alloc | apply pw_below_drewN | apply below_drew1) | exact HB.out)⟩
      · replace c14 := Bool.eq_false_iff.mpr c14
        subst c14
        have H1 : ((coraclelaw15_in.f a0 a1).bind fun t191 => (if t191 = true then ((coraclelaw15_in.f a2 a3).bind fun t192 => (coraclelaw15_VecAsks.j1 kj6 a0 a1 a2 a3 a4 t188 (!t192))) else (coraclelaw15_VecAsks.j1 kj6 a0 a1 a2 a3 a4 t188 true))) = some r := by rw [if_neg (show ¬ (false = true) by decide)] at H; exact H
        clear H
        have H := H1
        clear H1
        have HC15 := Aside0.mk H
        clear H
        go_upto_region 4 with (fail)
        go_cut [63] (fun v63 wc => ∃ (kq : Nat) (x63_14 : Bool), v63 = .bool x63_14 ∧ Aside0 (coraclelaw15_VecAsks.j1 kq a0 a1 a2 a3 a4 t188 x63_14 = some r) ∧ Aside0 (kq ≤ kj6) ∧ Aside0 (Below w.heap.size w wc))
        case first =>
          have H := HC15.out
          clear HC15
          replace H := Option.bind_eq_some_iff.mp H
          obtain ⟨t191, A160, H⟩ := H
          replace H : (if t191 = true then ((coraclelaw15_in.f a2 a3).bind fun t192 => (coraclelaw15_VecAsks.j1 kj6 a0 a1 a2 a3 a4 t188 (!t192))) else (coraclelaw15_VecAsks.j1 kj6 a0 a1 a2 a3 a4 t188 true)) = some r := H
          have A16 := Aside0.mk A160
          clear A160
          by_cases c17 : t191 = true
          · subst c17
            have H1 : ((coraclelaw15_in.f a2 a3).bind fun t192 => (coraclelaw15_VecAsks.j1 kj6 a0 a1 a2 a3 a4 t188 (!t192))) = some r := by rw [if_pos rfl] at H; exact H
            clear H
            have H := H1
            clear H1
            replace H := Option.bind_eq_some_iff.mp H
            obtain ⟨t192, A180, H⟩ := H
            replace H : (coraclelaw15_VecAsks.j1 kj6 a0 a1 a2 a3 a4 t188 (!t192)) = some r := H
            have A18 := Aside0.mk A180
            clear A180
            as_aux_lemma =>
              have H' := Aside0.mk H
              clear H
              go_wp2_with (first | ((with_reducible refine gate_callee (f := 29) rfl ?_); refine goesL_ (some 56) rfl rfl Try.func29 (by kernel_rfl) rfl #[.int .i64 a0, .int .i64 a1] rfl (by (try simp only [List.map_toArray, List.map_cons, List.map_nil]); first | done | rfl | (simp only [List.length_drop, List.length_take]; rfl)) ?_; (with_reducible refine (coraclelaw15_in.calls a0 a1 true _ A16.out).mono ?_); rintro e w' ⟨rfl, ⟨nd, rfl⟩⟩; refine ⟨_, rfl, ?_⟩) | (go_at_call 29; (with_reducible refine (coraclelaw15_in.calls a2 a3 t192 _ A18.out).mono ?_); rintro e w' ⟨rfl, ⟨nd, rfl⟩⟩))
              go_meet
              case rel => exact ⟨_, (!t192), (by first | rfl | (simp; done) | (simp [*]; done)), H', ⟨by have := HJ6.out; first | omega | exact Nat.le_refl _⟩, ⟨by repeat (first | (with_reducible first | exact HB.out | apply below_alloc | apply pw_below_drewN | apply below_drew1) | exact HB.out)⟩⟩
          · replace c17 := Bool.eq_false_iff.mpr c17
            subst c17
            have H1 : (coraclelaw15_VecAsks.j1 kj6 a0 a1 a2 a3 a4 t188 true) = some r := by rw [if_neg (show ¬ (false = true) by decide)] at H; exact H
            clear H
            have H := H1
            clear H1
            as_aux_lemma =>
              have H' := Aside0.mk H
              clear H
              go_wp2_with (first | ((with_reducible refine gate_callee (f := 29) rfl ?_); refine goesL_ (some 56) rfl rfl Try.func29 (by kernel_rfl) rfl #[.int .i64 a0, .int .i64 a1] rfl (by (try simp only [List.map_toArray, List.map_cons, List.map_nil]); first | done | rfl | (simp only [List.length_drop, List.length_take]; rfl)) ?_; (with_reducible refine (coraclelaw15_in.calls a0 a1 false _ A16.out).mono ?_); rintro e w' ⟨rfl, ⟨nd, rfl⟩⟩; refine ⟨_, rfl, ?_⟩))
              go_meet
              case rel => exact ⟨_, (true), (by first | rfl | (simp; done) | (simp [*]; done)), H', ⟨by have := HJ6.out; first | omega | exact Nat.le_refl _⟩, ⟨by repeat (first | (with_reducible first | exact HB.out | apply below_alloc | apply pw_below_drewN | apply below_drew1) | exact HB.out)⟩⟩
        case rest =>
          clear HC15
          try clear c1
          try clear c2
          try clear p2
          try clear c3
          try clear c8
          try clear c10
          try clear c10b0
          try clear c10b1
          try clear c11
          try clear c12
          try clear c13
          try clear c13b0
          try clear c13b1
          try clear c14
          try clear c17
          try clear p2
          obtain ⟨kq, x63_14, rfl, HA, HJ14, HB⟩ := hcut
          cases kq with
          | zero => exact absurd HA.out (by simp [coraclelaw15_VecAsks.j1])
          | succ kj14 =>
            have H := HA.out
            clear HA
            simp only [coraclelaw15_VecAsks.j1] at H
            by_cases c19 : x63_14 = true
            · subst c19
              have H1 : ((coraclelaw15_awake.f kj14).bind fun t193 => (some t193)) = some r := by rw [if_pos rfl] at H; exact H
              clear H
              have H := H1
              clear H1
              replace H := Option.bind_eq_some_iff.mp H
              obtain ⟨t193, A200, H⟩ := H
              replace H : (some t193) = some r := H
              have A20 := Aside0.mk A200
              clear A200
              as_aux_lemma =>
                obtain rfl := Option.some.inj H
                go_wp2_with (first | ((with_reducible refine gate_callee (f := 28) rfl ?_); refine goesL_ (some 64) rfl rfl Try.func28 (by kernel_rfl) rfl #[] rfl (by (try simp only [List.map_toArray, List.map_cons, List.map_nil]); first | done | rfl | (simp only [List.length_drop, List.length_take]; rfl)) ?_; (with_reducible refine (coraclelaw15_awake.calls kj14  t193 _ A20.out).mono ?_); rintro e w21 ⟨rfl, hb⟩; refine ⟨_, rfl, ?_⟩; have n0_ := Aside0.mk (below_step (by repeat (first | (with_reducible first | exact HB.out | apply below_alloc | apply pw_below_drewN | apply below_drew1) | exact HB.out)) hb); clear HB; have HB := n0_; clear n0_; (try clear hb); (try clear hb2); (try clear hk); (try clear hi)))
                go_ret
                exact ⟨by first | rfl | (simp [errW_none, errW_some] <;> rfl) | (simp [*, errW_none, errW_some] <;> rfl), by repeat (first | (with_reducible first | exact HB.out | apply below_alloc | apply pw_below_drewN | apply below_drew1) | exact HB.out)⟩
            · replace c19 := Bool.eq_false_iff.mpr c19
              subst c19
              have H1 : ((vec_Parts.f t188).bind fun bt194 => ((coraclelaw15_pair.f a2 a3).bind fun t197 => (((some (wrap64 ((wrap64 ((wrap64 (Int.tdiv a0 1048576)) * a3)) - (wrap64 ((wrap64 (Int.tdiv a2 1048576)) * a1)))))).bind fun t198 => (((some (wrap64 ((wrap64 ((Int.tmod a0 1048576) * a3)) - (wrap64 ((Int.tmod a2 1048576) * a1)))))).bind fun t199 => (if (wrap64 (t198 + (wrap64 (Int.tdiv t199 1048576)))) > 0 then (coraclelaw15_VecAsks.j2 kj14 a0 a1 a4 t188 bt194.1 bt194.2.1 bt194.2.2 t197 0 (wrap64 (t198 + (wrap64 (Int.tdiv t199 1048576)))) (Int.tmod t199 1048576) true) else (if (wrap64 (t198 + (wrap64 (Int.tdiv t199 1048576)))) = 0 then (coraclelaw15_VecAsks.j2 kj14 a0 a1 a4 t188 bt194.1 bt194.2.1 bt194.2.2 t197 0 (wrap64 (t198 + (wrap64 (Int.tdiv t199 1048576)))) (Int.tmod t199 1048576) (decide ((Int.tmod t199 1048576) > 0))) else (coraclelaw15_VecAsks.j2 kj14 a0 a1 a4 t188 bt194.1 bt194.2.1 bt194.2.2 t197 0 (wrap64 (t198 + (wrap64 (Int.tdiv t199 1048576)))) (Int.tmod t199 1048576) false))))))) = some r := by rw [if_neg (show ¬ (false = true) by decide)] at H; exact H
              clear H
              have H := H1
              clear H1
              replace H := Option.bind_eq_some_iff.mp H
              obtain ⟨⟨t194, t195, t196⟩, A220, H⟩ := H
              replace H : ((coraclelaw15_pair.f a2 a3).bind fun t197 => (((some (wrap64 ((wrap64 ((wrap64 (Int.tdiv a0 1048576)) * a3)) - (wrap64 ((wrap64 (Int.tdiv a2 1048576)) * a1)))))).bind fun t198 => (((some (wrap64 ((wrap64 ((Int.tmod a0 1048576) * a3)) - (wrap64 ((Int.tmod a2 1048576) * a1)))))).bind fun t199 => (if (wrap64 (t198 + (wrap64 (Int.tdiv t199 1048576)))) > 0 then (coraclelaw15_VecAsks.j2 kj14 a0 a1 a4 t188 t194 t195 t196 t197 0 (wrap64 (t198 + (wrap64 (Int.tdiv t199 1048576)))) (Int.tmod t199 1048576) true) else (if (wrap64 (t198 + (wrap64 (Int.tdiv t199 1048576)))) = 0 then (coraclelaw15_VecAsks.j2 kj14 a0 a1 a4 t188 t194 t195 t196 t197 0 (wrap64 (t198 + (wrap64 (Int.tdiv t199 1048576)))) (Int.tmod t199 1048576) (decide ((Int.tmod t199 1048576) > 0))) else (coraclelaw15_VecAsks.j2 kj14 a0 a1 a4 t188 t194 t195 t196 t197 0 (wrap64 (t198 + (wrap64 (Int.tdiv t199 1048576)))) (Int.tmod t199 1048576) false)))))) = some r := H
              have A22 := Aside0.mk A220
              clear A220
              replace H := Option.bind_eq_some_iff.mp H
              obtain ⟨t197, A230, H⟩ := H
              replace H : (((some (wrap64 ((wrap64 ((wrap64 (Int.tdiv a0 1048576)) * a3)) - (wrap64 ((wrap64 (Int.tdiv a2 1048576)) * a1)))))).bind fun t198 => (((some (wrap64 ((wrap64 ((Int.tmod a0 1048576) * a3)) - (wrap64 ((Int.tmod a2 1048576) * a1)))))).bind fun t199 => (if (wrap64 (t198 + (wrap64 (Int.tdiv t199 1048576)))) > 0 then (coraclelaw15_VecAsks.j2 kj14 a0 a1 a4 t188 t194 t195 t196 t197 0 (wrap64 (t198 + (wrap64 (Int.tdiv t199 1048576)))) (Int.tmod t199 1048576) true) else (if (wrap64 (t198 + (wrap64 (Int.tdiv t199 1048576)))) = 0 then (coraclelaw15_VecAsks.j2 kj14 a0 a1 a4 t188 t194 t195 t196 t197 0 (wrap64 (t198 + (wrap64 (Int.tdiv t199 1048576)))) (Int.tmod t199 1048576) (decide ((Int.tmod t199 1048576) > 0))) else (coraclelaw15_VecAsks.j2 kj14 a0 a1 a4 t188 t194 t195 t196 t197 0 (wrap64 (t198 + (wrap64 (Int.tdiv t199 1048576)))) (Int.tmod t199 1048576) false))))) = some r := H
              have A23 := Aside0.mk A230
              clear A230
              replace H := Option.bind_eq_some_iff.mp H
              obtain ⟨t198, A240, H⟩ := H
              replace H : (((some (wrap64 ((wrap64 ((Int.tmod a0 1048576) * a3)) - (wrap64 ((Int.tmod a2 1048576) * a1)))))).bind fun t199 => (if (wrap64 (t198 + (wrap64 (Int.tdiv t199 1048576)))) > 0 then (coraclelaw15_VecAsks.j2 kj14 a0 a1 a4 t188 t194 t195 t196 t197 0 (wrap64 (t198 + (wrap64 (Int.tdiv t199 1048576)))) (Int.tmod t199 1048576) true) else (if (wrap64 (t198 + (wrap64 (Int.tdiv t199 1048576)))) = 0 then (coraclelaw15_VecAsks.j2 kj14 a0 a1 a4 t188 t194 t195 t196 t197 0 (wrap64 (t198 + (wrap64 (Int.tdiv t199 1048576)))) (Int.tmod t199 1048576) (decide ((Int.tmod t199 1048576) > 0))) else (coraclelaw15_VecAsks.j2 kj14 a0 a1 a4 t188 t194 t195 t196 t197 0 (wrap64 (t198 + (wrap64 (Int.tdiv t199 1048576)))) (Int.tmod t199 1048576) false)))) = some r := H
              have A24 := Option.some.inj A240
              clear A240
              replace H := Option.bind_eq_some_iff.mp H
              obtain ⟨t199, A250, H⟩ := H
              replace H : (if (wrap64 (t198 + (wrap64 (Int.tdiv t199 1048576)))) > 0 then (coraclelaw15_VecAsks.j2 kj14 a0 a1 a4 t188 t194 t195 t196 t197 0 (wrap64 (t198 + (wrap64 (Int.tdiv t199 1048576)))) (Int.tmod t199 1048576) true) else (if (wrap64 (t198 + (wrap64 (Int.tdiv t199 1048576)))) = 0 then (coraclelaw15_VecAsks.j2 kj14 a0 a1 a4 t188 t194 t195 t196 t197 0 (wrap64 (t198 + (wrap64 (Int.tdiv t199 1048576)))) (Int.tmod t199 1048576) (decide ((Int.tmod t199 1048576) > 0))) else (coraclelaw15_VecAsks.j2 kj14 a0 a1 a4 t188 t194 t195 t196 t197 0 (wrap64 (t198 + (wrap64 (Int.tdiv t199 1048576)))) (Int.tmod t199 1048576) false))) = some r := H
              have A25 := Option.some.inj A250
              clear A250
              have HC26 := Aside0.mk H
              clear H
              go_upto_block 0 with (first | ((with_reducible refine gate_callee (f := 32) rfl ?_); refine goesL_ (some 67) rfl rfl Try.func32 (by kernel_rfl) rfl #[.complex .f64 t188.re t188.im] rfl (by (try simp only [List.map_toArray, List.map_cons, List.map_nil]); first | done | rfl | (simp only [List.length_drop, List.length_take]; rfl)) ?_; (with_reducible refine (vec_Parts.calls t188 t194 t195 t196 _ A22.out).mono ?_); rintro e w27 ⟨rfl, hb⟩; refine ⟨_, rfl, ?_⟩; have n0_ := Aside0.mk (below_step (by repeat (first | (with_reducible first | exact HB.out | apply below_alloc | apply pw_below_drewN | apply below_drew1) | exact HB.out)) hb); clear HB; have HB := n0_; clear n0_; (try clear hb); (try clear hb2); (try clear hk); (try clear hi)) | ((with_reducible refine gate_callee (f := 30) rfl ?_); refine goesL_ (some 73) rfl rfl Try.func30 (by kernel_rfl) rfl #[.int .i64 a2, .int .i64 a3] rfl (by (try simp only [List.map_toArray, List.map_cons, List.map_nil]); first | done | rfl | (simp only [List.length_drop, List.length_take]; rfl)) ?_; (with_reducible refine (coraclelaw15_pair.calls a2 a3 t197 _ A23.out).mono ?_); rintro e w28 ⟨rfl, hb⟩; refine ⟨_, rfl, ?_⟩; have n0_ := Aside0.mk (below_step (by repeat (first | (with_reducible first | exact HB.out | apply below_alloc | apply pw_below_drewN | apply below_drew1) | exact HB.out)) hb); clear HB; have HB := n0_; clear n0_; (try clear hb); (try clear hb2); (try clear hk); (try clear hi)))
              (try simp only [Act.put, List.setIfInBounds_toArray, List.set_cons_zero, List.set_cons_succ])
              go_cut [21] (fun v21 wc => ∃ (kq : Nat) (x21_25 : Int), v21 = .int .i64 x21_25 ∧ Aside0 (coraclelaw15_VecAsks.j3 kq a0 a1 a4 t188 t194 t195 t196 t197 x21_25 (wrap64 (t198 + (wrap64 (Int.tdiv t199 1048576)))) (Int.tmod t199 1048576) = some r) ∧ Aside0 (kq ≤ kj14) ∧ Aside0 (Below w.heap.size w wc))
              case first =>
                have H := HC26.out
                clear HC26
                have HC29 := Aside0.mk H
                clear H
                go_upto_region 14 with (fail)
                go_cut [102] (fun v102 wc => ∃ (kq : Nat) (x102_28 : Bool), v102 = .bool x102_28 ∧ Aside0 (coraclelaw15_VecAsks.j2 kq a0 a1 a4 t188 t194 t195 t196 t197 0 (wrap64 (t198 + (wrap64 (Int.tdiv t199 1048576)))) (Int.tmod t199 1048576) x102_28 = some r) ∧ Aside0 (kq ≤ kj14) ∧ Aside0 (Below w.heap.size w wc))
                case first =>
                  have H := HC29.out
                  clear HC29
                  by_cases c30 : (wrap64 (t198 + (wrap64 (Int.tdiv t199 1048576)))) > 0
                  · rw [if_pos c30] at H
                    have c30b0 : decide (0 < (wrap64 (t198 + (wrap64 (Int.tdiv t199 1048576))))) = true := decide_eq_true c30
                    clear c30
                    (first | rw [c30b0] | (simp only [i64_w, i32_w]; rw [c30b0]) | skip)
                    as_aux_lemma =>
                      have H' := Aside0.mk H
                      clear H
                      go_wp2
                      go_meet
                      case rel => exact ⟨_, (true), (by first | rfl | (simp; done) | (simp [*]; done)), H', ⟨by have := HJ6.out; have := HJ14.out; first | omega | exact Nat.le_refl _⟩, ⟨by repeat (first | (with_reducible first | exact HB.out | apply below_alloc | apply pw_below_drewN | apply below_drew1) | exact HB.out)⟩⟩
                  · rw [if_neg c30] at H
                    have c30b0 : decide (0 < (wrap64 (t198 + (wrap64 (Int.tdiv t199 1048576))))) = false := decide_eq_false c30
                    clear c30
                    (first | rw [c30b0] | (simp only [i64_w, i32_w]; rw [c30b0]) | skip)
                    by_cases c31 : (wrap64 (t198 + (wrap64 (Int.tdiv t199 1048576)))) = 0
                    · rw [if_pos c31] at H
                      have c31b0 : ((wrap64 (t198 + (wrap64 (Int.tdiv t199 1048576)))) == 0) = true := beq_iff_eq.mpr c31
                      have c31b1 : ((wrap64 (t198 + (wrap64 (Int.tdiv t199 1048576)))) != 0) = false := bne_eq_false_iff_eq.mpr c31
                      clear c31
                      as_aux_lemma =>
                        have H' := Aside0.mk H
                        clear H
                        go_wp2
                        go_meet
                        case rel => exact ⟨_, (decide ((Int.tmod t199 1048576) > 0)), (by first | rfl | (simp; done) | (simp [*]; done)), H', ⟨by have := HJ6.out; have := HJ14.out; first | omega | exact Nat.le_refl _⟩, ⟨by repeat (first | (with_reducible first | exact HB.out | apply below_alloc | apply pw_below_drewN | apply below_drew1) | exact HB.out)⟩⟩
                    · rw [if_neg c31] at H
                      have c31b0 : ((wrap64 (t198 + (wrap64 (Int.tdiv t199 1048576)))) == 0) = false := beq_eq_false_iff_ne.mpr c31
                      have c31b1 : ((wrap64 (t198 + (wrap64 (Int.tdiv t199 1048576)))) != 0) = true := bne_iff_ne.mpr c31
                      as_aux_lemma =>
                        have H' := Aside0.mk H
                        clear H
                        go_wp2
                        go_meet
                        case rel => exact ⟨_, (false), (by first | rfl | (simp; done) | (simp [*]; done)), H', ⟨by have := HJ6.out; have := HJ14.out; first | omega | exact Nat.le_refl _⟩, ⟨by repeat (first | (with_reducible first | exact HB.out | apply below_alloc | apply pw_below_drewN | apply below_drew1) | exact HB.out)⟩⟩
                case rest =>
                  clear HC29
                  try clear c1
                  try clear c2
                  try clear p2
                  try clear c3
                  try clear p6
                  try clear c8
                  try clear c10
                  try clear c10b0
                  try clear c10b1
                  try clear c11
                  try clear c12
                  try clear c13
                  try clear c13b0
                  try clear c13b1
                  try clear c14
                  try clear c17
                  try clear c19
                  try clear c28
                  try clear c29
                  try clear c30
                  try clear c30b0
                  try clear c31
                  try clear c31b0
                  try clear c31b1
                  try clear p2
                  obtain ⟨kq, x102_28, rfl, HA, HJ28, HB⟩ := hcut
                  cases kq with
                  | zero => exact absurd HA.out (by simp [coraclelaw15_VecAsks.j2])
                  | succ kj28 =>
                    have H := HA.out
                    clear HA
                    simp only [coraclelaw15_VecAsks.j2] at H
                    by_cases c32 : x102_28 = true
                    · subst c32
                      have H1 : (coraclelaw15_VecAsks.j3 kj28 a0 a1 a4 t188 t194 t195 t196 t197 1 (wrap64 (t198 + (wrap64 (Int.tdiv t199 1048576)))) (Int.tmod t199 1048576)) = some r := by rw [if_pos rfl] at H; exact H
                      clear H
                      have H := H1
                      clear H1
                      as_aux_lemma =>
                        have H' := Aside0.mk H
                        clear H
                        go_wp2
                        go_meet
                        case rel => exact ⟨_, (1), (by first | rfl | (simp; done) | (simp [*]; done)), H', ⟨by have := HJ6.out; have := HJ14.out; have := HJ28.out; first | omega | exact Nat.le_refl _⟩, ⟨by repeat (first | (with_reducible first | exact HB.out | apply below_alloc | apply pw_below_drewN | apply below_drew1) | exact HB.out)⟩⟩
                    · replace c32 := Bool.eq_false_iff.mpr c32
                      subst c32
                      have H1 : (if (wrap64 (t198 + (wrap64 (Int.tdiv t199 1048576)))) < 0 then (coraclelaw15_VecAsks.j3 kj28 a0 a1 a4 t188 t194 t195 t196 t197 (-1) (wrap64 (t198 + (wrap64 (Int.tdiv t199 1048576)))) (Int.tmod t199 1048576)) else (if (Int.tmod t199 1048576) < 0 then (coraclelaw15_VecAsks.j3 kj28 a0 a1 a4 t188 t194 t195 t196 t197 (-1) (wrap64 (t198 + (wrap64 (Int.tdiv t199 1048576)))) (Int.tmod t199 1048576)) else (coraclelaw15_VecAsks.j3 kj28 a0 a1 a4 t188 t194 t195 t196 t197 0 (wrap64 (t198 + (wrap64 (Int.tdiv t199 1048576)))) (Int.tmod t199 1048576)))) = some r := by rw [if_neg (show ¬ (false = true) by decide)] at H; exact H
                      clear H
                      have H := H1
                      clear H1
                      by_cases c33 : (wrap64 (t198 + (wrap64 (Int.tdiv t199 1048576)))) < 0
                      · rw [if_pos c33] at H
                        have c33b0 : decide ((wrap64 (t198 + (wrap64 (Int.tdiv t199 1048576)))) < 0) = true := decide_eq_true c33
                        clear c33
                        as_aux_lemma =>
                          have H' := Aside0.mk H
                          clear H
                          go_wp2
                          go_meet
                          case rel => exact ⟨_, ((-1)), (by first | rfl | (simp; done) | (simp [*]; done)), H', ⟨by have := HJ6.out; have := HJ14.out; have := HJ28.out; first | omega | exact Nat.le_refl _⟩, ⟨by repeat (first | (with_reducible first | exact HB.out | apply below_alloc | apply pw_below_drewN | apply below_drew1) | exact HB.out)⟩⟩
                      · rw [if_neg c33] at H
                        have c33b0 : decide ((wrap64 (t198 + (wrap64 (Int.tdiv t199 1048576)))) < 0) = false := decide_eq_false c33
                        clear c33
                        by_cases c34 : (Int.tmod t199 1048576) < 0
                        · rw [if_pos c34] at H
                          have c34b0 : decide ((Int.tmod t199 1048576) < 0) = true := decide_eq_true c34
                          clear c34
                          as_aux_lemma =>
                            have H' := Aside0.mk H
                            clear H
                            go_wp2
                            go_meet
                            case rel => exact ⟨_, ((-1)), (by first | rfl | (simp; done) | (simp [*]; done)), H', ⟨by have := HJ6.out; have := HJ14.out; have := HJ28.out; first | omega | exact Nat.le_refl _⟩, ⟨by repeat (first | (with_reducible first | exact HB.out | apply below_alloc | apply pw_below_drewN | apply below_drew1) | exact HB.out)⟩⟩
                        · rw [if_neg c34] at H
                          have c34b0 : decide ((Int.tmod t199 1048576) < 0) = false := decide_eq_false c34
                          clear c34
                          as_aux_lemma =>
                            have H' := Aside0.mk H
                            clear H
                            go_wp2
                            go_meet
                            case rel => exact ⟨_, (0), (by first | rfl | (simp; done) | (simp [*]; done)), H', ⟨by have := HJ6.out; have := HJ14.out; have := HJ28.out; first | omega | exact Nat.le_refl _⟩, ⟨by repeat (first | (with_reducible first | exact HB.out | apply below_alloc | apply pw_below_drewN | apply below_drew1) | exact HB.out)⟩⟩
              case rest =>
                clear HC26
                try clear c1
                try clear c2
                try clear p2
                try clear c3
                try clear p6
                try clear c8
                try clear c10
                try clear c10b0
                try clear c10b1
                try clear c11
                try clear c12
                try clear c13
                try clear c13b0
                try clear c13b1
                try clear c14
                try clear c17
                try clear c19
                try clear c28
                try clear c29
                try clear c30
                try clear c30b0
                try clear c31
                try clear c31b0
                try clear c31b1
                try clear c32
                try clear c33
                try clear c33b0
                try clear c34
                try clear c34b0
                try clear p2
                try clear p6
                obtain ⟨kq, x21_25, rfl, HA, HJ25, HB⟩ := hcut
                cases kq with
                | zero => exact absurd HA.out (by simp [coraclelaw15_VecAsks.j3])
                | succ kj25 =>
                  have H := HA.out
                  clear HA
                  simp only [coraclelaw15_VecAsks.j3] at H
                  have HC35 := Aside0.mk H
                  clear H
                  go_upto_region 18 with (fail)
                  go_cut [125] (fun v125 wc => ∃ (kq : Nat) (x125_34 : Bool), v125 = .bool x125_34 ∧ Aside0 (coraclelaw15_VecAsks.j4 kq a0 a1 a4 t188 t194 t195 t196 t197 x21_25 (wrap64 (t198 + (wrap64 (Int.tdiv t199 1048576)))) (Int.tmod t199 1048576) x125_34 = some r) ∧ Aside0 (kq ≤ kj25) ∧ Aside0 (Below w.heap.size w wc))
                  case first =>
                    have H := HC35.out
                    clear HC35
                    by_cases c36 : (wrap64 (t198 + (wrap64 (Int.tdiv t199 1048576)))) > 0
                    · rw [if_pos c36] at H
                      have c36b0 : decide (0 < (wrap64 (t198 + (wrap64 (Int.tdiv t199 1048576))))) = true := decide_eq_true c36
                      clear c36
                      (first | rw [c36b0] | (simp only [i64_w, i32_w]; rw [c36b0]) | skip)
                      as_aux_lemma =>
                        have H' := Aside0.mk H
                        clear H
                        go_wp2
                        go_meet
                        case rel => exact ⟨_, (decide ((Int.tmod t199 1048576) < 0)), (by first | rfl | (simp; done) | (simp [*]; done)), H', ⟨by have := HJ6.out; have := HJ14.out; have := HJ25.out; first | omega | exact Nat.le_refl _⟩, ⟨by repeat (first | (with_reducible first | exact HB.out | apply below_alloc | apply pw_below_drewN | apply below_drew1) | exact HB.out)⟩⟩
                    · rw [if_neg c36] at H
                      have c36b0 : decide (0 < (wrap64 (t198 + (wrap64 (Int.tdiv t199 1048576))))) = false := decide_eq_false c36
                      clear c36
                      (first | rw [c36b0] | (simp only [i64_w, i32_w]; rw [c36b0]) | skip)
                      as_aux_lemma =>
                        have H' := Aside0.mk H
                        clear H
                        go_wp2
                        go_meet
                        case rel => exact ⟨_, (false), (by first | rfl | (simp; done) | (simp [*]; done)), H', ⟨by have := HJ6.out; have := HJ14.out; have := HJ25.out; first | omega | exact Nat.le_refl _⟩, ⟨by repeat (first | (with_reducible first | exact HB.out | apply below_alloc | apply pw_below_drewN | apply below_drew1) | exact HB.out)⟩⟩
                  case rest =>
                    clear HC35
                    try clear c1
                    try clear c2
                    try clear p2
                    try clear c3
                    try clear p6
                    try clear c8
                    try clear c10
                    try clear c10b0
                    try clear c10b1
                    try clear c11
                    try clear c12
                    try clear c13
                    try clear c13b0
                    try clear c13b1
                    try clear c14
                    try clear c17
                    try clear c19
                    try clear c28
                    try clear c29
                    try clear c30
                    try clear c30b0
                    try clear c31
                    try clear c31b0
                    try clear c31b1
                    try clear c32
                    try clear c33
                    try clear c33b0
                    try clear c34
                    try clear c34b0
                    try clear c36
                    try clear c36b0
                    try clear p2
                    try clear p6
                    obtain ⟨kq, x125_34, rfl, HA, HJ34, HB⟩ := hcut
                    cases kq with
                    | zero => exact absurd HA.out (by simp [coraclelaw15_VecAsks.j4])
                    | succ kj34 =>
                      have H := HA.out
                      clear HA
                      simp only [coraclelaw15_VecAsks.j4] at H
                      have HC37 := Aside0.mk H
                      clear H
                      go_upto_if 125 with (fail)
                      go_cut [21] (fun v21 wc => ∃ (kq : Nat) (x21_36 : Int), v21 = .int .i64 x21_36 ∧ Aside0 (coraclelaw15_VecAsks.j5 kq a0 a1 a4 t188 t194 t195 t196 t197 x21_36 (wrap64 (t198 + (wrap64 (Int.tdiv t199 1048576)))) (Int.tmod t199 1048576) = some r) ∧ Aside0 (kq ≤ kj34) ∧ Aside0 (Below w.heap.size w wc))
                      case first =>
                        have H := HC37.out
                        clear HC37
                        by_cases c38 : x125_34 = true
                        · subst c38
                          have H1 : (coraclelaw15_VecAsks.j5 kj34 a0 a1 a4 t188 t194 t195 t196 t197 1 (wrap64 (t198 + (wrap64 (Int.tdiv t199 1048576)))) (Int.tmod t199 1048576)) = some r := by rw [if_pos rfl] at H; exact H
                          clear H
                          have H := H1
                          clear H1
                          as_aux_lemma =>
                            have H' := Aside0.mk H
                            clear H
                            go_wp2
                            go_meet
                            case rel => exact ⟨_, (1), (by first | rfl | (simp; done) | (simp [*]; done)), H', ⟨by have := HJ6.out; have := HJ14.out; have := HJ25.out; have := HJ34.out; first | omega | exact Nat.le_refl _⟩, ⟨by repeat (first | (with_reducible first | exact HB.out | apply below_alloc | apply pw_below_drewN | apply below_drew1) | exact HB.out)⟩⟩
                        · replace c38 := Bool.eq_false_iff.mpr c38
                          subst c38
                          have H1 : (coraclelaw15_VecAsks.j5 kj34 a0 a1 a4 t188 t194 t195 t196 t197 x21_25 (wrap64 (t198 + (wrap64 (Int.tdiv t199 1048576)))) (Int.tmod t199 1048576)) = some r := by rw [if_neg (show ¬ (false = true) by decide)] at H; exact H
                          clear H
                          have H := H1
                          clear H1
                          as_aux_lemma =>
                            have H' := Aside0.mk H
                            clear H
                            go_wp2
                            go_meet
                            case rel => exact ⟨_, (x21_25), (by first | rfl | (simp; done) | (simp [*]; done)), H', ⟨by have := HJ6.out; have := HJ14.out; have := HJ25.out; have := HJ34.out; first | omega | exact Nat.le_refl _⟩, ⟨by repeat (first | (with_reducible first | exact HB.out | apply below_alloc | apply pw_below_drewN | apply below_drew1) | exact HB.out)⟩⟩
                      case rest =>
                        clear HC37
                        try clear c1
                        try clear c2
                        try clear p2
                        try clear c3
                        try clear p6
                        try clear c8
                        try clear c10
                        try clear c10b0
                        try clear c10b1
                        try clear c11
                        try clear c12
                        try clear c13
                        try clear c13b0
                        try clear c13b1
                        try clear c14
                        try clear c17
                        try clear c19
                        try clear c28
                        try clear c29
                        try clear c30
                        try clear c30b0
                        try clear c31
                        try clear c31b0
                        try clear c31b1
                        try clear c32
                        try clear c33
                        try clear c33b0
                        try clear c34
                        try clear c34b0
                        try clear c36
                        try clear c36b0
                        try clear c38
                        try clear p2
                        try clear p6
                        obtain ⟨kq, x21_36, rfl, HA, HJ36, HB⟩ := hcut
                        cases kq with
                        | zero => exact absurd HA.out (by simp [coraclelaw15_VecAsks.j5])
                        | succ kj36 =>
                          have H := HA.out
                          clear HA
                          simp only [coraclelaw15_VecAsks.j5] at H
                          have HC39 := Aside0.mk H
                          clear H
                          go_upto_region 20 with (fail)
                          go_cut [131] (fun v131 wc => ∃ (kq : Nat) (x131_38 : Bool), v131 = .bool x131_38 ∧ Aside0 (coraclelaw15_VecAsks.j6 kq a0 a1 a4 t188 t194 t195 t196 t197 x21_36 x131_38 = some r) ∧ Aside0 (kq ≤ kj36) ∧ Aside0 (Below w.heap.size w wc))
                          case first =>
                            have H := HC39.out
                            clear HC39
                            by_cases c40 : (wrap64 (t198 + (wrap64 (Int.tdiv t199 1048576)))) < 0
                            · rw [if_pos c40] at H
                              have c40b0 : decide ((wrap64 (t198 + (wrap64 (Int.tdiv t199 1048576)))) < 0) = true := decide_eq_true c40
                              clear c40
                              (first | rw [c40b0] | (simp only [i64_w, i32_w]; rw [c40b0]) | skip)
                              as_aux_lemma =>
                                have H' := Aside0.mk H
                                clear H
                                go_wp2
                                go_meet
                                case rel => exact ⟨_, (decide ((Int.tmod t199 1048576) > 0)), (by first | rfl | (simp; done) | (simp [*]; done)), H', ⟨by have := HJ6.out; have := HJ14.out; have := HJ25.out; have := HJ34.out; have := HJ36.out; first | omega | exact Nat.le_refl _⟩, ⟨by repeat (first | (with_reducible first | exact HB.out | apply below_alloc | apply pw_below_drewN | apply below_drew1) | exact HB.out)⟩⟩
                            · rw [if_neg c40] at H
                              have c40b0 : decide ((wrap64 (t198 + (wrap64 (Int.tdiv t199 1048576)))) < 0) = false := decide_eq_false c40
                              clear c40
                              (first | rw [c40b0] | (simp only [i64_w, i32_w]; rw [c40b0]) | skip)
                              as_aux_lemma =>
                                have H' := Aside0.mk H
                                clear H
                                go_wp2
                                go_meet
                                case rel => exact ⟨_, (false), (by first | rfl | (simp; done) | (simp [*]; done)), H', ⟨by have := HJ6.out; have := HJ14.out; have := HJ25.out; have := HJ34.out; have := HJ36.out; first | omega | exact Nat.le_refl _⟩, ⟨by repeat (first | (with_reducible first | exact HB.out | apply below_alloc | apply pw_below_drewN | apply below_drew1) | exact HB.out)⟩⟩
                          case rest =>
                            clear HC39
                            try clear c1
                            try clear c2
                            try clear p2
                            try clear c3
                            try clear c4
                            try clear p6
                            try clear c8
                            try clear c10
                            try clear c10b0
                            try clear c10b1
                            try clear c11
                            try clear c12
                            try clear c13
                            try clear c13b0
                            try clear c13b1
                            try clear c14
                            try clear c17
                            try clear c19
                            try clear c28
                            try clear c29
                            try clear c30
                            try clear c30b0
                            try clear c31
                            try clear c31b0
                            try clear c31b1
                            try clear c32
                            try clear c33
                            try clear c33b0
                            try clear c34
                            try clear c34b0
                            try clear c36
                            try clear c36b0
                            try clear c38
                            try clear c40
                            try clear c40b0
                            try clear p2
                            try clear p6
                            obtain ⟨kq, x131_38, rfl, HA, HJ38, HB⟩ := hcut
                            cases kq with
                            | zero => exact absurd HA.out (by simp [coraclelaw15_VecAsks.j6])
                            | succ kj38 =>
                              have H := HA.out
                              clear HA
                              simp only [coraclelaw15_VecAsks.j6] at H
                              have HC41 := Aside0.mk H
                              clear H
                              go_upto_if 131 with (fail)
                              go_cut [21] (fun v21 wc => ∃ (kq : Nat) (x21_40 : Int), v21 = .int .i64 x21_40 ∧ Aside0 (coraclelaw15_VecAsks.j7 kq a0 a1 a4 t188 t194 t195 t196 t197 x21_40 = some r) ∧ Aside0 (kq ≤ kj38) ∧ Aside0 (Below w.heap.size w wc))
                              case first =>
                                have H := HC41.out
                                clear HC41
                                by_cases c42 : x131_38 = true
                                · subst c42
                                  have H1 : (coraclelaw15_VecAsks.j7 kj38 a0 a1 a4 t188 t194 t195 t196 t197 (-1)) = some r := by rw [if_pos rfl] at H; exact H
                                  clear H
                                  have H := H1
                                  clear H1
                                  as_aux_lemma =>
                                    have H' := Aside0.mk H
                                    clear H
                                    go_wp2
                                    go_meet
                                    case rel => exact ⟨_, ((-1)), (by first | rfl | (simp; done) | (simp [*]; done)), H', ⟨by have := HJ6.out; have := HJ14.out; have := HJ25.out; have := HJ34.out; have := HJ36.out; have := HJ38.out; first | omega | exact Nat.le_refl _⟩, ⟨by repeat (first | (with_reducible first | exact HB.out | apply below_alloc | apply pw_below_drewN | apply below_drew1) | exact HB.out)⟩⟩
                                · replace c42 := Bool.eq_false_iff.mpr c42
                                  subst c42
                                  have H1 : (coraclelaw15_VecAsks.j7 kj38 a0 a1 a4 t188 t194 t195 t196 t197 x21_36) = some r := by rw [if_neg (show ¬ (false = true) by decide)] at H; exact H
                                  clear H
                                  have H := H1
                                  clear H1
                                  as_aux_lemma =>
                                    have H' := Aside0.mk H
                                    clear H
                                    go_wp2
                                    go_meet
                                    case rel => exact ⟨_, (x21_36), (by first | rfl | (simp; done) | (simp [*]; done)), H', ⟨by have := HJ6.out; have := HJ14.out; have := HJ25.out; have := HJ34.out; have := HJ36.out; have := HJ38.out; first | omega | exact Nat.le_refl _⟩, ⟨by repeat (first | (with_reducible first | exact HB.out | apply below_alloc | apply pw_below_drewN | apply below_drew1) | exact HB.out)⟩⟩
                              case rest =>
                                clear HC41
                                try clear c1
                                try clear c2
                                try clear p2
                                try clear c3
                                try clear c4
                                try clear p6
                                try clear c8
                                try clear c10
                                try clear c10b0
                                try clear c10b1
                                try clear c11
                                try clear c12
                                try clear c13
                                try clear c13b0
                                try clear c13b1
                                try clear c14
                                try clear c17
                                try clear c19
                                try clear c28
                                try clear c29
                                try clear c30
                                try clear c30b0
                                try clear c31
                                try clear c31b0
                                try clear c31b1
                                try clear c32
                                try clear c33
                                try clear c33b0
                                try clear c34
                                try clear c34b0
                                try clear c36
                                try clear c36b0
                                try clear c38
                                try clear c40
                                try clear c40b0
                                try clear c42
                                try clear p2
                                try clear p6
                                obtain ⟨kq, x21_40, rfl, HA, HJ40, HB⟩ := hcut
                                cases kq with
                                | zero => exact absurd HA.out (by simp [coraclelaw15_VecAsks.j7])
                                | succ kj40 =>
                                  have H := HA.out
                                  clear HA
                                  simp only [coraclelaw15_VecAsks.j7] at H
                                  replace H := Option.bind_eq_some_iff.mp H
                                  obtain ⟨⟨t200, t201⟩, A430, H⟩ := H
                                  replace H : (if a4 ≥ 0 then (if a4 ≤ 10000 then (if a4 = 0 then (coraclelaw15_VecAsks.j8 kj40 a0 a1 a4 t188 t194 t195 t196 t197 x21_40 t200 t201 true) else (if a0 ≤ (wrap64 (Int.tdiv (2100000000000000 : Int) a4)) then (coraclelaw15_VecAsks.j8 kj40 a0 a1 a4 t188 t194 t195 t196 t197 x21_40 t200 t201 (decide (a1 ≤ (wrap64 (Int.tdiv (4000000 : Int) a4))))) else (coraclelaw15_VecAsks.j8 kj40 a0 a1 a4 t188 t194 t195 t196 t197 x21_40 t200 t201 false))) else (coraclelaw15_VecAsks.j8 kj40 a0 a1 a4 t188 t194 t195 t196 t197 x21_40 t200 t201 false)) else (coraclelaw15_VecAsks.j8 kj40 a0 a1 a4 t188 t194 t195 t196 t197 x21_40 t200 t201 false)) = some r := H
                                  have A43 := Aside0.mk A430
                                  clear A430
                                  have HC44 := Aside0.mk H
                                  clear H
                                  go_upto_region 23 with (first | ((with_reducible refine gate_callee (f := 34) rfl ?_); refine goesL_ (some 135) rfl rfl Try.func34 (by kernel_rfl) rfl #[.complex .f64 t188.re t188.im, .int .i64 a4] rfl (by (try simp only [List.map_toArray, List.map_cons, List.map_nil]); first | done | rfl | (simp only [List.length_drop, List.length_take]; rfl)) ?_; (with_reducible refine (vec_Scale.calls t188 a4 t200 t201 _ A43.out).mono ?_); rintro e w45 ⟨rfl, hb⟩; refine ⟨_, rfl, ?_⟩; have n0_ := Aside0.mk (below_step (by repeat (first | (with_reducible first | exact HB.out | apply below_alloc | apply pw_below_drewN | apply below_drew1) | exact HB.out)) hb); clear HB; have HB := n0_; clear n0_; (try clear hb); (try clear hb2); (try clear hk); (try clear hi)))
                                  (try simp only [Act.put, List.setIfInBounds_toArray, List.set_cons_zero, List.set_cons_succ])
                                  go_cut [26] (fun v26 wc => ∃ (kq : Nat) (x26_43 : Bool), v26 = .bool x26_43 ∧ Aside0 (coraclelaw15_VecAsks.j8 kq a0 a1 a4 t188 t194 t195 t196 t197 x21_40 t200 t201 x26_43 = some r) ∧ Aside0 (kq ≤ kj40) ∧ Aside0 (Below w.heap.size w wc))
                                  case first =>
                                    have H := HC44.out
                                    clear HC44
                                    by_cases c46 : a4 ≥ 0
                                    · rw [if_pos c46] at H
                                      have c46b0 : decide (0 ≤ a4) = true := decide_eq_true c46
                                      clear c46
                                      (first | rw [c46b0] | (simp only [i64_w, i32_w]; rw [c46b0]) | skip)
                                      by_cases c47 : a4 ≤ 10000
                                      · rw [if_pos c47] at H
                                        have c47b0 : decide (a4 ≤ 10000) = true := decide_eq_true c47
                                        clear c47
                                        by_cases c48 : a4 = 0
                                        · rw [if_pos c48] at H
                                          have c48b0 : (a4 == 0) = true := beq_iff_eq.mpr c48
                                          have c48b1 : (a4 != 0) = false := bne_eq_false_iff_eq.mpr c48
                                          clear c48
                                          as_aux_lemma =>
                                            have H' := Aside0.mk H
                                            clear H
                                            go_wp2
                                            go_meet
                                            case rel => exact ⟨_, (true), (by first | rfl | (simp; done) | (simp [*]; done)), H', ⟨by have := HJ6.out; have := HJ14.out; have := HJ25.out; have := HJ34.out; have := HJ36.out; have := HJ38.out; have := HJ40.out; first | omega | exact Nat.le_refl _⟩, ⟨by repeat (first | (with_reducible first | exact HB.out | apply below_alloc | apply pw_below_drewN | apply below_drew1) | exact HB.out)⟩⟩
                                        · rw [if_neg c48] at H
                                          have c48b0 : (a4 == 0) = false := beq_eq_false_iff_ne.mpr c48
                                          have c48b1 : (a4 != 0) = true := bne_iff_ne.mpr c48
                                          by_cases c49 : a0 ≤ (wrap64 (Int.tdiv (2100000000000000 : Int) a4))
                                          · rw [if_pos c49] at H
                                            have c49b0 : decide (a0 ≤ (wrap64 (Int.tdiv (2100000000000000 : Int) a4))) = true := decide_eq_true c49
                                            clear c49
                                            as_aux_lemma =>
                                              have H' := Aside0.mk H
                                              clear H
                                              go_wp2
                                              go_meet
                                              case rel => exact ⟨_, (decide (a1 ≤ (wrap64 (Int.tdiv (4000000 : Int) a4)))), (by first | rfl | (simp; done) | (simp [*]; done)), H', ⟨by have := HJ6.out; have := HJ14.out; have := HJ25.out; have := HJ34.out; have := HJ36.out; have := HJ38.out; have := HJ40.out; first | omega | exact Nat.le_refl _⟩, ⟨by repeat (first | (with_reducible first | exact HB.out | apply below_alloc | apply pw_below_drewN | apply below_drew1) | exact HB.out)⟩⟩
                                          · rw [if_neg c49] at H
                                            have c49b0 : decide (a0 ≤ (wrap64 (Int.tdiv (2100000000000000 : Int) a4))) = false := decide_eq_false c49
                                            clear c49
                                            as_aux_lemma =>
                                              have H' := Aside0.mk H
                                              clear H
                                              go_wp2
                                              go_meet
                                              case rel => exact ⟨_, (false), (by first | rfl | (simp; done) | (simp [*]; done)), H', ⟨by have := HJ6.out; have := HJ14.out; have := HJ25.out; have := HJ34.out; have := HJ36.out; have := HJ38.out; have := HJ40.out; first | omega | exact Nat.le_refl _⟩, ⟨by repeat (first | (with_reducible first | exact HB.out | apply below_alloc | apply pw_below_drewN | apply below_drew1) | exact HB.out)⟩⟩
                                      · rw [if_neg c47] at H
                                        have c47b0 : decide (a4 ≤ 10000) = false := decide_eq_false c47
                                        clear c47
                                        as_aux_lemma =>
                                          have H' := Aside0.mk H
                                          clear H
                                          go_wp2
                                          go_meet
                                          case rel => exact ⟨_, (false), (by first | rfl | (simp; done) | (simp [*]; done)), H', ⟨by have := HJ6.out; have := HJ14.out; have := HJ25.out; have := HJ34.out; have := HJ36.out; have := HJ38.out; have := HJ40.out; first | omega | exact Nat.le_refl _⟩, ⟨by repeat (first | (with_reducible first | exact HB.out | apply below_alloc | apply pw_below_drewN | apply below_drew1) | exact HB.out)⟩⟩
                                    · rw [if_neg c46] at H
                                      have c46b0 : decide (0 ≤ a4) = false := decide_eq_false c46
                                      clear c46
                                      (first | rw [c46b0] | (simp only [i64_w, i32_w]; rw [c46b0]) | skip)
                                      as_aux_lemma =>
                                        have H' := Aside0.mk H
                                        clear H
                                        go_wp2
                                        go_meet
                                        case rel => exact ⟨_, (false), (by first | rfl | (simp; done) | (simp [*]; done)), H', ⟨by have := HJ6.out; have := HJ14.out; have := HJ25.out; have := HJ34.out; have := HJ36.out; have := HJ38.out; have := HJ40.out; first | omega | exact Nat.le_refl _⟩, ⟨by repeat (first | (with_reducible first | exact HB.out | apply below_alloc | apply pw_below_drewN | apply below_drew1) | exact HB.out)⟩⟩
                                  case rest =>
                                    clear HC44
                                    try clear c1
                                    try clear c2
                                    try clear p2
                                    try clear c3
                                    try clear c4
                                    try clear p6
                                    try clear c8
                                    try clear c10
                                    try clear c10b0
                                    try clear c10b1
                                    try clear c11
                                    try clear c12
                                    try clear c13
                                    try clear c13b0
                                    try clear c13b1
                                    try clear c14
                                    try clear c17
                                    try clear c19
                                    try clear c28
                                    try clear c29
                                    try clear c30
                                    try clear c30b0
                                    try clear c31
                                    try clear c31b0
                                    try clear c31b1
                                    try clear c32
                                    try clear c33
                                    try clear c33b0
                                    try clear c34
                                    try clear c34b0
                                    try clear c36
                                    try clear c36b0
                                    try clear c38
                                    try clear c40
                                    try clear c40b0
                                    try clear c42
                                    try clear c46
                                    try clear c46b0
                                    try clear c47
                                    try clear c47b0
                                    try clear c48
                                    try clear c48b0
                                    try clear c48b1
                                    try clear c49
                                    try clear c49b0
                                    try clear p2
                                    try clear p6
                                    obtain ⟨kq, x26_43, rfl, HA, HJ43, HB⟩ := hcut
                                    cases kq with
                                    | zero => exact absurd HA.out (by simp [coraclelaw15_VecAsks.j8])
                                    | succ kj43 =>
                                      have H := HA.out
                                      clear HA
                                      simp only [coraclelaw15_VecAsks.j8] at H
                                      have HC50 := Aside0.mk H
                                      clear H
                                      go_upto_region 24 with (fail)
                                      go_cut [171] (fun v171 wc => ∃ (kq : Nat) (x171_49 : Bool), v171 = .bool x171_49 ∧ Aside0 (coraclelaw15_VecAsks.j9 kq a0 a1 a4 t188 t194 t195 t196 t197 x21_40 t200 x26_43 x171_49 = some r) ∧ Aside0 (kq ≤ kj43) ∧ Aside0 (Below w.heap.size w wc))
                                      case first =>
                                        have H := HC50.out
                                        clear HC50
                                        by_cases c51 : x26_43 = true
                                        · subst c51
                                          have H1 : (if t201 = 0 then (coraclelaw15_VecAsks.j9 kj43 a0 a1 a4 t188 t194 t195 t196 t197 x21_40 t200 true false) else (coraclelaw15_VecAsks.j9 kj43 a0 a1 a4 t188 t194 t195 t196 t197 x21_40 t200 true true)) = some r := by rw [if_pos rfl] at H; exact H
                                          clear H
                                          have H := H1
                                          clear H1
                                          by_cases c52 : t201 = 0
                                          · rw [if_pos c52] at H
                                            have c52b0 : (t201 == 0) = true := beq_iff_eq.mpr c52
                                            have c52b1 : (t201 != 0) = false := bne_eq_false_iff_eq.mpr c52
                                            clear c52
                                            (first | rw [c52b0] | (simp only [i64_w, i32_w]; rw [c52b0]) | skip)
                                            as_aux_lemma =>
                                              have H' := Aside0.mk H
                                              clear H
                                              go_wp2
                                              go_meet
                                              case rel => exact ⟨_, (false), (by first | rfl | (simp; done) | (simp [*]; done)), H', ⟨by have := HJ6.out; have := HJ14.out; have := HJ25.out; have := HJ34.out; have := HJ36.out; have := HJ38.out; have := HJ40.out; have := HJ43.out; first | omega | exact Nat.le_refl _⟩, ⟨by repeat (first | (with_reducible first | exact HB.out | apply below_alloc | apply pw_below_drewN | apply below_drew1) | exact HB.out)⟩⟩
                                          · rw [if_neg c52] at H
                                            have c52b0 : (t201 == 0) = false := beq_eq_false_iff_ne.mpr c52
                                            have c52b1 : (t201 != 0) = true := bne_iff_ne.mpr c52
                                            (first | rw [c52b0] | (simp only [i64_w, i32_w]; rw [c52b0]) | skip)
                                            as_aux_lemma =>
                                              have H' := Aside0.mk H
                                              clear H
                                              go_wp2
                                              go_meet
                                              case rel => exact ⟨_, (true), (by first | rfl | (simp; done) | (simp [*]; done)), H', ⟨by have := HJ6.out; have := HJ14.out; have := HJ25.out; have := HJ34.out; have := HJ36.out; have := HJ38.out; have := HJ40.out; have := HJ43.out; first | omega | exact Nat.le_refl _⟩, ⟨by repeat (first | (with_reducible first | exact HB.out | apply below_alloc | apply pw_below_drewN | apply below_drew1) | exact HB.out)⟩⟩
                                        · replace c51 := Bool.eq_false_iff.mpr c51
                                          subst c51
                                          have H1 : (if t201 = 0 then (coraclelaw15_VecAsks.j9 kj43 a0 a1 a4 t188 t194 t195 t196 t197 x21_40 t200 false true) else (coraclelaw15_VecAsks.j9 kj43 a0 a1 a4 t188 t194 t195 t196 t197 x21_40 t200 false (t201 != 11))) = some r := by rw [if_neg (show ¬ (false = true) by decide)] at H; exact H
                                          clear H
                                          have H := H1
                                          clear H1
                                          by_cases c53 : t201 = 0
                                          · rw [if_pos c53] at H
                                            have c53b0 : (t201 == 0) = true := beq_iff_eq.mpr c53
                                            have c53b1 : (t201 != 0) = false := bne_eq_false_iff_eq.mpr c53
                                            clear c53
                                            as_aux_lemma =>
                                              have H' := Aside0.mk H
                                              clear H
                                              go_wp2
                                              go_meet
                                              case rel => exact ⟨_, (true), (by first | rfl | (simp; done) | (simp [*]; done)), H', ⟨by have := HJ6.out; have := HJ14.out; have := HJ25.out; have := HJ34.out; have := HJ36.out; have := HJ38.out; have := HJ40.out; have := HJ43.out; first | omega | exact Nat.le_refl _⟩, ⟨by repeat (first | (with_reducible first | exact HB.out | apply below_alloc | apply pw_below_drewN | apply below_drew1) | exact HB.out)⟩⟩
                                          · rw [if_neg c53] at H
                                            have c53b0 : (t201 == 0) = false := beq_eq_false_iff_ne.mpr c53
                                            have c53b1 : (t201 != 0) = true := bne_iff_ne.mpr c53
                                            as_aux_lemma =>
                                              have H' := Aside0.mk H
                                              clear H
                                              go_wp2
                                              go_meet
                                              case rel => exact ⟨_, ((t201 != 11)), (by first | rfl | (simp; done) | (simp [*]; done)), H', ⟨by have := HJ6.out; have := HJ14.out; have := HJ25.out; have := HJ34.out; have := HJ36.out; have := HJ38.out; have := HJ40.out; have := HJ43.out; first | omega | exact Nat.le_refl _⟩, ⟨by repeat (first | (with_reducible first | exact HB.out | apply below_alloc | apply pw_below_drewN | apply below_drew1) | exact HB.out)⟩⟩
                                      case rest =>
                                        clear HC50
                                        try clear c1
                                        try clear c2
                                        try clear p2
                                        try clear c3
                                        try clear c4
                                        try clear c5
                                        try clear p6
                                        try clear c8
                                        try clear c10
                                        try clear c10b0
                                        try clear c10b1
                                        try clear c11
                                        try clear c12
                                        try clear c13
                                        try clear c13b0
                                        try clear c13b1
                                        try clear c14
                                        try clear c17
                                        try clear c19
                                        try clear c28
                                        try clear c29
                                        try clear c30
                                        try clear c30b0
                                        try clear c31
                                        try clear c31b0
                                        try clear c31b1
                                        try clear c32
                                        try clear c33
                                        try clear c33b0
                                        try clear c34
                                        try clear c34b0
                                        try clear c36
                                        try clear c36b0
                                        try clear c38
                                        try clear c40
                                        try clear c40b0
                                        try clear c42
                                        try clear c46
                                        try clear c46b0
                                        try clear c47
                                        try clear c47b0
                                        try clear c48
                                        try clear c48b0
                                        try clear c48b1
                                        try clear c49
                                        try clear c49b0
                                        try clear c51
                                        try clear c52
                                        try clear c52b0
                                        try clear c52b1
                                        try clear c53
                                        try clear c53b0
                                        try clear c53b1
                                        try clear p2
                                        try clear p6
                                        obtain ⟨kq, x171_49, rfl, HA, HJ49, HB⟩ := hcut
                                        cases kq with
                                        | zero => exact absurd HA.out (by simp [coraclelaw15_VecAsks.j9])
                                        | succ kj49 =>
                                          have H := HA.out
                                          clear HA
                                          simp only [coraclelaw15_VecAsks.j9] at H
                                          by_cases c54 : x171_49 = true
                                          · subst c54
                                            have H1 : (some false) = some r := by rw [if_pos rfl] at H; exact H
                                            clear H
                                            have H := H1
                                            clear H1
                                            as_aux_lemma =>
                                              obtain rfl := Option.some.inj H
                                              go_wp2
                                              go_ret
                                              exact ⟨by first | rfl | (simp [errW_none, errW_some] <;> rfl) | (simp [*, errW_none, errW_some] <;> rfl), by repeat (first | (with_reducible first | exact HB.out | apply below_alloc | apply pw_below_drewN | apply below_drew1) | exact HB.out)⟩
                                          · replace c54 := Bool.eq_false_iff.mpr c54
                                            subst c54
                                            have H1 : ((vec_Parts.f t200).bind fun bt202 => (if t196 = true then (if t194 = a0 then (if t195 = a1 then ((vec_Cross.f kj49 t188 t197).bind fun t205 => (if t205 = x21_40 then ((vec_Cross.f kj49 t197 t188).bind fun t206 => (if t206 = (wrap64 (-x21_40)) then ((vec_Steeper.f kj49 t188 t197).bind fun t207 => (if t207 = true then (if x21_40 = 1 then (if x26_43 = true then (if bt202.2.2 = true then (if bt202.1 = (wrap64 (a4 * a0)) then (if bt202.2.1 = (wrap64 (a4 * a1)) then ((coraclelaw15_awake.f kj49).bind fun t208 => (some t208)) else (some false)) else (some false)) else (some false)) else ((coraclelaw15_awake.f kj49).bind fun t209 => (some t209))) else (some false)) else (if x21_40 = 1 then (some false) else (if x26_43 = true then (if bt202.2.2 = true then (if bt202.1 = (wrap64 (a4 * a0)) then (if bt202.2.1 = (wrap64 (a4 * a1)) then ((coraclelaw15_awake.f kj49).bind fun t210 => (some t210)) else (some false)) else (some false)) else (some false)) else ((coraclelaw15_awake.f kj49).bind fun t211 => (some t211)))))) else (some false))) else (some false))) else (some false)) else (some false)) else (some false))) = some r := by rw [if_neg (show ¬ (false = true) by decide)] at H; exact H
                                            clear H
                                            have H := H1
                                            clear H1
                                            replace H := Option.bind_eq_some_iff.mp H
                                            obtain ⟨⟨t202, t203, t204⟩, A550, H⟩ := H
                                            replace H : (if t196 = true then (if t194 = a0 then (if t195 = a1 then ((vec_Cross.f kj49 t188 t197).bind fun t205 => (if t205 = x21_40 then ((vec_Cross.f kj49 t197 t188).bind fun t206 => (if t206 = (wrap64 (-x21_40)) then ((vec_Steeper.f kj49 t188 t197).bind fun t207 => (if t207 = true then (if x21_40 = 1 then (if x26_43 = true then (if t204 = true then (if t202 = (wrap64 (a4 * a0)) then (if t203 = (wrap64 (a4 * a1)) then ((coraclelaw15_awake.f kj49).bind fun t208 => (some t208)) else (some false)) else (some false)) else (some false)) else ((coraclelaw15_awake.f kj49).bind fun t209 => (some t209))) else (some false)) else (if x21_40 = 1 then (some false) else (if x26_43 = true then (if t204 = true then (if t202 = (wrap64 (a4 * a0)) then (if t203 = (wrap64 (a4 * a1)) then ((coraclelaw15_awake.f kj49).bind fun t210 => (some t210)) else (some false)) else (some false)) else (some false)) else ((coraclelaw15_awake.f kj49).bind fun t211 => (some t211)))))) else (some false))) else (some false))) else (some false)) else (some false)) else (some false)) = some r := H
                                            have A55 := Aside0.mk A550
                                            clear A550
                                            by_cases c56 : t196 = true
                                            · subst c56
                                              have H1 : (if t194 = a0 then (if t195 = a1 then ((vec_Cross.f kj49 t188 t197).bind fun t205 => (if t205 = x21_40 then ((vec_Cross.f kj49 t197 t188).bind fun t206 => (if t206 = (wrap64 (-x21_40)) then ((vec_Steeper.f kj49 t188 t197).bind fun t207 => (if t207 = true then (if x21_40 = 1 then (if x26_43 = true then (if t204 = true then (if t202 = (wrap64 (a4 * a0)) then (if t203 = (wrap64 (a4 * a1)) then ((coraclelaw15_awake.f kj49).bind fun t208 => (some t208)) else (some false)) else (some false)) else (some false)) else ((coraclelaw15_awake.f kj49).bind fun t209 => (some t209))) else (some false)) else (if x21_40 = 1 then (some false) else (if x26_43 = true then (if t204 = true then (if t202 = (wrap64 (a4 * a0)) then (if t203 = (wrap64 (a4 * a1)) then ((coraclelaw15_awake.f kj49).bind fun t210 => (some t210)) else (some false)) else (some false)) else (some false)) else ((coraclelaw15_awake.f kj49).bind fun t211 => (some t211)))))) else (some false))) else (some false))) else (some false)) else (some false)) = some r := by rw [if_pos rfl] at H; exact H
                                              clear H
                                              have H := H1
                                              clear H1
                                              by_cases c57 : t194 = a0
                                              · rw [if_pos c57] at H
                                                have c57b0 : (t194 == a0) = true := beq_iff_eq.mpr c57
                                                have c57b1 : (t194 != a0) = false := bne_eq_false_iff_eq.mpr c57
                                                clear c57
                                                by_cases c58 : t195 = a1
                                                · rw [if_pos c58] at H
                                                  have c58b0 : (t195 == a1) = true := beq_iff_eq.mpr c58
                                                  have c58b1 : (t195 != a1) = false := bne_eq_false_iff_eq.mpr c58
                                                  clear c58
                                                  replace H := Option.bind_eq_some_iff.mp H
                                                  obtain ⟨t205, A590, H⟩ := H
                                                  replace H : (if t205 = x21_40 then ((vec_Cross.f kj49 t197 t188).bind fun t206 => (if t206 = (wrap64 (-x21_40)) then ((vec_Steeper.f kj49 t188 t197).bind fun t207 => (if t207 = true then (if x21_40 = 1 then (if x26_43 = true then (if t204 = true then (if t202 = (wrap64 (a4 * a0)) then (if t203 = (wrap64 (a4 * a1)) then ((coraclelaw15_awake.f kj49).bind fun t208 => (some t208)) else (some false)) else (some false)) else (some false)) else ((coraclelaw15_awake.f kj49).bind fun t209 => (some t209))) else (some false)) else (if x21_40 = 1 then (some false) else (if x26_43 = true then (if t204 = true then (if t202 = (wrap64 (a4 * a0)) then (if t203 = (wrap64 (a4 * a1)) then ((coraclelaw15_awake.f kj49).bind fun t210 => (some t210)) else (some false)) else (some false)) else (some false)) else ((coraclelaw15_awake.f kj49).bind fun t211 => (some t211)))))) else (some false))) else (some false)) = some r := H
                                                  have A59 := Aside0.mk A590
                                                  clear A590
                                                  by_cases c60 : t205 = x21_40
                                                  · rw [if_pos c60] at H
                                                    have c60b0 : (t205 == x21_40) = true := beq_iff_eq.mpr c60
                                                    have c60b1 : (t205 != x21_40) = false := bne_eq_false_iff_eq.mpr c60
                                                    clear c60
                                                    replace H := Option.bind_eq_some_iff.mp H
                                                    obtain ⟨t206, A610, H⟩ := H
                                                    replace H : (if t206 = (wrap64 (-x21_40)) then ((vec_Steeper.f kj49 t188 t197).bind fun t207 => (if t207 = true then (if x21_40 = 1 then (if x26_43 = true then (if t204 = true then (if t202 = (wrap64 (a4 * a0)) then (if t203 = (wrap64 (a4 * a1)) then ((coraclelaw15_awake.f kj49).bind fun t208 => (some t208)) else (some false)) else (some false)) else (some false)) else ((coraclelaw15_awake.f kj49).bind fun t209 => (some t209))) else (some false)) else (if x21_40 = 1 then (some false) else (if x26_43 = true then (if t204 = true then (if t202 = (wrap64 (a4 * a0)) then (if t203 = (wrap64 (a4 * a1)) then ((coraclelaw15_awake.f kj49).bind fun t210 => (some t210)) else (some false)) else (some false)) else (some false)) else ((coraclelaw15_awake.f kj49).bind fun t211 => (some t211)))))) else (some false)) = some r := H
                                                    have A61 := Aside0.mk A610
                                                    clear A610
                                                    by_cases c62 : t206 = (wrap64 (-x21_40))
                                                    · rw [if_pos c62] at H
                                                      have c62b0 : (t206 == (wrap64 (-x21_40))) = true := beq_iff_eq.mpr c62
                                                      have c62b1 : (t206 != (wrap64 (-x21_40))) = false := bne_eq_false_iff_eq.mpr c62
                                                      clear c62
                                                      replace H := Option.bind_eq_some_iff.mp H
                                                      obtain ⟨t207, A630, H⟩ := H
                                                      replace H : (if t207 = true then (if x21_40 = 1 then (if x26_43 = true then (if t204 = true then (if t202 = (wrap64 (a4 * a0)) then (if t203 = (wrap64 (a4 * a1)) then ((coraclelaw15_awake.f kj49).bind fun t208 => (some t208)) else (some false)) else (some false)) else (some false)) else ((coraclelaw15_awake.f kj49).bind fun t209 => (some t209))) else (some false)) else (if x21_40 = 1 then (some false) else (if x26_43 = true then (if t204 = true then (if t202 = (wrap64 (a4 * a0)) then (if t203 = (wrap64 (a4 * a1)) then ((coraclelaw15_awake.f kj49).bind fun t210 => (some t210)) else (some false)) else (some false)) else (some false)) else ((coraclelaw15_awake.f kj49).bind fun t211 => (some t211))))) = some r := H
                                                      have A63 := Aside0.mk A630
                                                      clear A630
                                                      by_cases c64 : t207 = true
                                                      · subst c64
                                                        have H1 : (if x21_40 = 1 then (if x26_43 = true then (if t204 = true then (if t202 = (wrap64 (a4 * a0)) then (if t203 = (wrap64 (a4 * a1)) then ((coraclelaw15_awake.f kj49).bind fun t208 => (some t208)) else (some false)) else (some false)) else (some false)) else ((coraclelaw15_awake.f kj49).bind fun t209 => (some t209))) else (some false)) = some r := by rw [if_pos rfl] at H; exact H
                                                        clear H
                                                        have H := H1
                                                        clear H1
                                                        by_cases c65 : x21_40 = 1
                                                        · rw [if_pos c65] at H
                                                          have c65b0 : (x21_40 == 1) = true := beq_iff_eq.mpr c65
                                                          have c65b1 : (x21_40 != 1) = false := bne_eq_false_iff_eq.mpr c65
                                                          clear c65
                                                          by_cases c66 : x26_43 = true
                                                          · subst c66
                                                            have H1 : (if t204 = true then (if t202 = (wrap64 (a4 * a0)) then (if t203 = (wrap64 (a4 * a1)) then ((coraclelaw15_awake.f kj49).bind fun t208 => (some t208)) else (some false)) else (some false)) else (some false)) = some r := by rw [if_pos rfl] at H; exact H
                                                            clear H
                                                            have H := H1
                                                            clear H1
                                                            by_cases c67 : t204 = true
                                                            · subst c67
                                                              have H1 : (if t202 = (wrap64 (a4 * a0)) then (if t203 = (wrap64 (a4 * a1)) then ((coraclelaw15_awake.f kj49).bind fun t208 => (some t208)) else (some false)) else (some false)) = some r := by rw [if_pos rfl] at H; exact H
                                                              clear H
                                                              have H := H1
                                                              clear H1
                                                              by_cases c68 : t202 = (wrap64 (a4 * a0))
                                                              · rw [if_pos c68] at H
                                                                have c68b0 : (t202 == (wrap64 (a4 * a0))) = true := beq_iff_eq.mpr c68
                                                                have c68b1 : (t202 != (wrap64 (a4 * a0))) = false := bne_eq_false_iff_eq.mpr c68
                                                                clear c68
                                                                by_cases c69 : t203 = (wrap64 (a4 * a1))
                                                                · rw [if_pos c69] at H
                                                                  have c69b0 : (t203 == (wrap64 (a4 * a1))) = true := beq_iff_eq.mpr c69
                                                                  have c69b1 : (t203 != (wrap64 (a4 * a1))) = false := bne_eq_false_iff_eq.mpr c69
                                                                  clear c69
                                                                  replace H := Option.bind_eq_some_iff.mp H
                                                                  obtain ⟨t208, A700, H⟩ := H
                                                                  replace H : (some t208) = some r := H
                                                                  have A70 := Aside0.mk A700
                                                                  clear A700
                                                                  as_aux_lemma =>
                                                                    obtain rfl := Option.some.inj H
                                                                    go_wp2_with (first | ((with_reducible refine gate_callee (f := 32) rfl ?_); refine goesL_ (some 174) rfl rfl Try.func32 (by kernel_rfl) rfl #[.complex .f64 t200.re t200.im] rfl (by (try simp only [List.map_toArray, List.map_cons, List.map_nil]); first | done | rfl | (simp only [List.length_drop, List.length_take]; rfl)) ?_; (with_reducible refine (vec_Parts.calls t200 t202 t203 true _ A55.out).mono ?_); rintro e w71 ⟨rfl, hb⟩; refine ⟨_, rfl, ?_⟩; have n0_ := Aside0.mk (below_step (by repeat (first | (with_reducible first | exact HB.out | apply below_alloc | apply pw_below_drewN | apply below_drew1) | exact HB.out)) hb); clear HB; have HB := n0_; clear n0_; (try clear hb); (try clear hb2); (try clear hk); (try clear hi)) | (go_at_call 35; (with_reducible refine (vec_Cross.calls kj49 t188 t197 t205 _ A59.out).mono ?_); rintro e w72 ⟨rfl, hb⟩; have n0_ := Aside0.mk (below_step (by repeat (first | (with_reducible first | exact HB.out | apply below_alloc | apply pw_below_drewN | apply below_drew1) | exact HB.out)) hb); clear HB; have HB := n0_; clear n0_; (try clear hb); (try clear hb2); (try clear hk); (try clear hi)) | (go_at_call 35; (with_reducible refine (vec_Cross.calls kj49 t197 t188 t206 _ A61.out).mono ?_); rintro e w73 ⟨rfl, hb⟩; have n0_ := Aside0.mk (below_step (by repeat (first | (with_reducible first | exact HB.out | apply below_alloc | apply pw_below_drewN | apply below_drew1) | exact HB.out)) hb); clear HB; have HB := n0_; clear n0_; (try clear hb); (try clear hb2); (try clear hk); (try clear hi)) | (go_at_call 36; (with_reducible refine (vec_Steeper.calls kj49 t188 t197 true _ A63.out).mono ?_); rintro e w74 ⟨rfl, hb⟩; have n0_ := Aside0.mk (below_step (by repeat (first | (with_reducible first | exact HB.out | apply below_alloc | apply pw_below_drewN | apply below_drew1) | exact HB.out)) hb); clear HB; have HB := n0_; clear n0_; (try clear hb); (try clear hb2); (try clear hk); (try clear hi)) | (go_at_call 28; (with_reducible refine (coraclelaw15_awake.calls kj49  t208 _ A70.out).mono ?_); rintro e w75 ⟨rfl, hb⟩; have n0_ := Aside0.mk (below_step (by repeat (first | (with_reducible first | exact HB.out | apply below_alloc | apply pw_below_drewN | apply below_drew1) | exact HB.out)) hb); clear HB; have HB := n0_; clear n0_; (try clear hb); (try clear hb2); (try clear hk); (try clear hi)))
                                                                    go_ret
                                                                    exact ⟨by first | rfl | (simp [errW_none, errW_some] <;> rfl) | (simp [*, errW_none, errW_some] <;> rfl), by repeat (first | (with_reducible first | exact HB.out | apply below_alloc | apply pw_below_drewN | apply below_drew1) | exact HB.out)⟩
                                                                · rw [if_neg c69] at H
                                                                  have c69b0 : (t203 == (wrap64 (a4 * a1))) = false := beq_eq_false_iff_ne.mpr c69
                                                                  have c69b1 : (t203 != (wrap64 (a4 * a1))) = true := bne_iff_ne.mpr c69
                                                                  as_aux_lemma =>
                                                                    obtain rfl := Option.some.inj H
                                                                    go_wp2_with (first | ((with_reducible refine gate_callee (f := 32) rfl ?_); refine goesL_ (some 174) rfl rfl Try.func32 (by kernel_rfl) rfl #[.complex .f64 t200.re t200.im] rfl (by (try simp only [List.map_toArray, List.map_cons, List.map_nil]); first | done | rfl | (simp only [List.length_drop, List.length_take]; rfl)) ?_; (with_reducible refine (vec_Parts.calls t200 t202 t203 true _ A55.out).mono ?_); rintro e w76 ⟨rfl, hb⟩; refine ⟨_, rfl, ?_⟩; have n0_ := Aside0.mk (below_step (by repeat (first | (with_reducible first | exact HB.out | apply below_alloc | apply pw_below_drewN | apply below_drew1) | exact HB.out)) hb); clear HB; have HB := n0_; clear n0_; (try clear hb); (try clear hb2); (try clear hk); (try clear hi)) | (go_at_call 35; (with_reducible refine (vec_Cross.calls kj49 t188 t197 t205 _ A59.out).mono ?_); rintro e w77 ⟨rfl, hb⟩; have n0_ := Aside0.mk (below_step (by repeat (first | (with_reducible first | exact HB.out | apply below_alloc | apply pw_below_drewN | apply below_drew1) | exact HB.out)) hb); clear HB; have HB := n0_; clear n0_; (try clear hb); (try clear hb2); (try clear hk); (try clear hi)) | (go_at_call 35; (with_reducible refine (vec_Cross.calls kj49 t197 t188 t206 _ A61.out).mono ?_); rintro e w78 ⟨rfl, hb⟩; have n0_ := Aside0.mk (below_step (by repeat (first | (with_reducible first | exact HB.out | apply below_alloc | apply pw_below_drewN | apply below_drew1) | exact HB.out)) hb); clear HB; have HB := n0_; clear n0_; (try clear hb); (try clear hb2); (try clear hk); (try clear hi)) | (go_at_call 36; (with_reducible refine (vec_Steeper.calls kj49 t188 t197 true _ A63.out).mono ?_); rintro e w79 ⟨rfl, hb⟩; have n0_ := Aside0.mk (below_step (by repeat (first | (with_reducible first | exact HB.out | apply below_alloc | apply pw_below_drewN | apply below_drew1) | exact HB.out)) hb); clear HB; have HB := n0_; clear n0_; (try clear hb); (try clear hb2); (try clear hk); (try clear hi)))
                                                                    go_ret
                                                                    exact ⟨by first | rfl | (simp [errW_none, errW_some] <;> rfl) | (simp [*, errW_none, errW_some] <;> rfl), by repeat (first | (with_reducible first | exact HB.out | apply below_alloc | apply pw_below_drewN | apply below_drew1) | exact HB.out)⟩
                                                              · rw [if_neg c68] at H
                                                                have c68b0 : (t202 == (wrap64 (a4 * a0))) = false := beq_eq_false_iff_ne.mpr c68
                                                                have c68b1 : (t202 != (wrap64 (a4 * a0))) = true := bne_iff_ne.mpr c68
                                                                as_aux_lemma =>
                                                                  obtain rfl := Option.some.inj H
                                                                  go_wp2_with (first | ((with_reducible refine gate_callee (f := 32) rfl ?_); refine goesL_ (some 174) rfl rfl Try.func32 (by kernel_rfl) rfl #[.complex .f64 t200.re t200.im] rfl (by (try simp only [List.map_toArray, List.map_cons, List.map_nil]); first | done | rfl | (simp only [List.length_drop, List.length_take]; rfl)) ?_; (with_reducible refine (vec_Parts.calls t200 t202 t203 true _ A55.out).mono ?_); rintro e w80 ⟨rfl, hb⟩; refine ⟨_, rfl, ?_⟩; have n0_ := Aside0.mk (below_step (by repeat (first | (with_reducible first | exact HB.out | apply below_alloc | apply pw_below_drewN | apply below_drew1) | exact HB.out)) hb); clear HB; have HB := n0_; clear n0_; (try clear hb); (try clear hb2); (try clear hk); (try clear hi)) | (go_at_call 35; (with_reducible refine (vec_Cross.calls kj49 t188 t197 t205 _ A59.out).mono ?_); rintro e w81 ⟨rfl, hb⟩; have n0_ := Aside0.mk (below_step (by repeat (first | (with_reducible first | exact HB.out | apply below_alloc | apply pw_below_drewN | apply below_drew1) | exact HB.out)) hb); clear HB; have HB := n0_; clear n0_; (try clear hb); (try clear hb2); (try clear hk); (try clear hi)) | (go_at_call 35; (with_reducible refine (vec_Cross.calls kj49 t197 t188 t206 _ A61.out).mono ?_); rintro e w82 ⟨rfl, hb⟩; have n0_ := Aside0.mk (below_step (by repeat (first | (with_reducible first | exact HB.out | apply below_alloc | apply pw_below_drewN | apply below_drew1) | exact HB.out)) hb); clear HB; have HB := n0_; clear n0_; (try clear hb); (try clear hb2); (try clear hk); (try clear hi)) | (go_at_call 36; (with_reducible refine (vec_Steeper.calls kj49 t188 t197 true _ A63.out).mono ?_); rintro e w83 ⟨rfl, hb⟩; have n0_ := Aside0.mk (below_step (by repeat (first | (with_reducible first | exact HB.out | apply below_alloc | apply pw_below_drewN | apply below_drew1) | exact HB.out)) hb); clear HB; have HB := n0_; clear n0_; (try clear hb); (try clear hb2); (try clear hk); (try clear hi)))
                                                                  go_ret
                                                                  exact ⟨by first | rfl | (simp [errW_none, errW_some] <;> rfl) | (simp [*, errW_none, errW_some] <;> rfl), by repeat (first | (with_reducible first | exact HB.out | apply below_alloc | apply pw_below_drewN | apply below_drew1) | exact HB.out)⟩
                                                            · replace c67 := Bool.eq_false_iff.mpr c67
                                                              subst c67
                                                              have H1 : (some false) = some r := by rw [if_neg (show ¬ (false = true) by decide)] at H; exact H
                                                              clear H
                                                              have H := H1
                                                              clear H1
                                                              as_aux_lemma =>
                                                                obtain rfl := Option.some.inj H
                                                                go_wp2_with (first | ((with_reducible refine gate_callee (f := 32) rfl ?_); refine goesL_ (some 174) rfl rfl Try.func32 (by kernel_rfl) rfl #[.complex .f64 t200.re t200.im] rfl (by (try simp only [List.map_toArray, List.map_cons, List.map_nil]); first | done | rfl | (simp only [List.length_drop, List.length_take]; rfl)) ?_; (with_reducible refine (vec_Parts.calls t200 t202 t203 false _ A55.out).mono ?_); rintro e w84 ⟨rfl, hb⟩; refine ⟨_, rfl, ?_⟩; have n0_ := Aside0.mk (below_step (by repeat (first | (with_reducible first | exact HB.out | apply below_alloc | apply pw_below_drewN | apply below_drew1) | exact HB.out)) hb); clear HB; have HB := n0_; clear n0_; (try clear hb); (try clear hb2); (try clear hk); (try clear hi)) | (go_at_call 35; (with_reducible refine (vec_Cross.calls kj49 t188 t197 t205 _ A59.out).mono ?_); rintro e w85 ⟨rfl, hb⟩; have n0_ := Aside0.mk (below_step (by repeat (first | (with_reducible first | exact HB.out | apply below_alloc | apply pw_below_drewN | apply below_drew1) | exact HB.out)) hb); clear HB; have HB := n0_; clear n0_; (try clear hb); (try clear hb2); (try clear hk); (try clear hi)) | (go_at_call 35; (with_reducible refine (vec_Cross.calls kj49 t197 t188 t206 _ A61.out).mono ?_); rintro e w86 ⟨rfl, hb⟩; have n0_ := Aside0.mk (below_step (by repeat (first | (with_reducible first | exact HB.out | apply below_alloc | apply pw_below_drewN | apply below_drew1) | exact HB.out)) hb); clear HB; have HB := n0_; clear n0_; (try clear hb); (try clear hb2); (try clear hk); (try clear hi)) | (go_at_call 36; (with_reducible refine (vec_Steeper.calls kj49 t188 t197 true _ A63.out).mono ?_); rintro e w87 ⟨rfl, hb⟩; have n0_ := Aside0.mk (below_step (by repeat (first | (with_reducible first | exact HB.out | apply below_alloc | apply pw_below_drewN | apply below_drew1) | exact HB.out)) hb); clear HB; have HB := n0_; clear n0_; (try clear hb); (try clear hb2); (try clear hk); (try clear hi)))
                                                                go_ret
                                                                exact ⟨by first | rfl | (simp [errW_none, errW_some] <;> rfl) | (simp [*, errW_none, errW_some] <;> rfl), by repeat (first | (with_reducible first | exact HB.out | apply below_alloc | apply pw_below_drewN | apply below_drew1) | exact HB.out)⟩
                                                          · replace c66 := Bool.eq_false_iff.mpr c66
                                                            subst c66
                                                            have H1 : ((coraclelaw15_awake.f kj49).bind fun t209 => (some t209)) = some r := by rw [if_neg (show ¬ (false = true) by decide)] at H; exact H
                                                            clear H
                                                            have H := H1
                                                            clear H1
                                                            replace H := Option.bind_eq_some_iff.mp H
                                                            obtain ⟨t209, A880, H⟩ := H
                                                            replace H : (some t209) = some r := H
                                                            have A88 := Aside0.mk A880
                                                            clear A880
                                                            as_aux_lemma =>
                                                              obtain rfl := Option.some.inj H
                                                              go_wp2_with (first | ((with_reducible refine gate_callee (f := 32) rfl ?_); refine goesL_ (some 174) rfl rfl Try.func32 (by kernel_rfl) rfl #[.complex .f64 t200.re t200.im] rfl (by (try simp only [List.map_toArray, List.map_cons, List.map_nil]); first | done | rfl | (simp only [List.length_drop, List.length_take]; rfl)) ?_; (with_reducible refine (vec_Parts.calls t200 t202 t203 t204 _ A55.out).mono ?_); rintro e w89 ⟨rfl, hb⟩; refine ⟨_, rfl, ?_⟩; have n0_ := Aside0.mk (below_step (by repeat (first | (with_reducible first | exact HB.out | apply below_alloc | apply pw_below_drewN | apply below_drew1) | exact HB.out)) hb); clear HB; have HB := n0_; clear n0_; (try clear hb); (try clear hb2); (try clear hk); (try clear hi)) | (go_at_call 35; (with_reducible refine (vec_Cross.calls kj49 t188 t197 t205 _ A59.out).mono ?_); rintro e w90 ⟨rfl, hb⟩; have n0_ := Aside0.mk (below_step (by repeat (first | (with_reducible first | exact HB.out | apply below_alloc | apply pw_below_drewN | apply below_drew1) | exact HB.out)) hb); clear HB; have HB := n0_; clear n0_; (try clear hb); (try clear hb2); (try clear hk); (try clear hi)) | (go_at_call 35; (with_reducible refine (vec_Cross.calls kj49 t197 t188 t206 _ A61.out).mono ?_); rintro e w91 ⟨rfl, hb⟩; have n0_ := Aside0.mk (below_step (by repeat (first | (with_reducible first | exact HB.out | apply below_alloc | apply pw_below_drewN | apply below_drew1) | exact HB.out)) hb); clear HB; have HB := n0_; clear n0_; (try clear hb); (try clear hb2); (try clear hk); (try clear hi)) | (go_at_call 36; (with_reducible refine (vec_Steeper.calls kj49 t188 t197 true _ A63.out).mono ?_); rintro e w92 ⟨rfl, hb⟩; have n0_ := Aside0.mk (below_step (by repeat (first | (with_reducible first | exact HB.out | apply below_alloc | apply pw_below_drewN | apply below_drew1) | exact HB.out)) hb); clear HB; have HB := n0_; clear n0_; (try clear hb); (try clear hb2); (try clear hk); (try clear hi)) | (go_at_call 28; (with_reducible refine (coraclelaw15_awake.calls kj49  t209 _ A88.out).mono ?_); rintro e w93 ⟨rfl, hb⟩; have n0_ := Aside0.mk (below_step (by repeat (first | (with_reducible first | exact HB.out | apply below_alloc | apply pw_below_drewN | apply below_drew1) | exact HB.out)) hb); clear HB; have HB := n0_; clear n0_; (try clear hb); (try clear hb2); (try clear hk); (try clear hi)))
                                                              go_ret
                                                              exact ⟨by first | rfl | (simp [errW_none, errW_some] <;> rfl) | (simp [*, errW_none, errW_some] <;> rfl), by repeat (first | (with_reducible first | exact HB.out | apply below_alloc | apply pw_below_drewN | apply below_drew1) | exact HB.out)⟩
                                                        · rw [if_neg c65] at H
                                                          have c65b0 : (x21_40 == 1) = false := beq_eq_false_iff_ne.mpr c65
                                                          have c65b1 : (x21_40 != 1) = true := bne_iff_ne.mpr c65
                                                          as_aux_lemma =>
                                                            obtain rfl := Option.some.inj H
                                                            go_wp2_with (first | ((with_reducible refine gate_callee (f := 32) rfl ?_); refine goesL_ (some 174) rfl rfl Try.func32 (by kernel_rfl) rfl #[.complex .f64 t200.re t200.im] rfl (by (try simp only [List.map_toArray, List.map_cons, List.map_nil]); first | done | rfl | (simp only [List.length_drop, List.length_take]; rfl)) ?_; (with_reducible refine (vec_Parts.calls t200 t202 t203 t204 _ A55.out).mono ?_); rintro e w94 ⟨rfl, hb⟩; refine ⟨_, rfl, ?_⟩; have n0_ := Aside0.mk (below_step (by repeat (first | (with_reducible first | exact HB.out | apply below_alloc | apply pw_below_drewN | apply below_drew1) | exact HB.out)) hb); clear HB; have HB := n0_; clear n0_; (try clear hb); (try clear hb2); (try clear hk); (try clear hi)) | (go_at_call 35; (with_reducible refine (vec_Cross.calls kj49 t188 t197 t205 _ A59.out).mono ?_); rintro e w95 ⟨rfl, hb⟩; have n0_ := Aside0.mk (below_step (by repeat (first | (with_reducible first | exact HB.out | apply below_alloc | apply pw_below_drewN | apply below_drew1) | exact HB.out)) hb); clear HB; have HB := n0_; clear n0_; (try clear hb); (try clear hb2); (try clear hk); (try clear hi)) | (go_at_call 35; (with_reducible refine (vec_Cross.calls kj49 t197 t188 t206 _ A61.out).mono ?_); rintro e w96 ⟨rfl, hb⟩; have n0_ := Aside0.mk (below_step (by repeat (first | (with_reducible first | exact HB.out | apply below_alloc | apply pw_below_drewN | apply below_drew1) | exact HB.out)) hb); clear HB; have HB := n0_; clear n0_; (try clear hb); (try clear hb2); (try clear hk); (try clear hi)) | (go_at_call 36; (with_reducible refine (vec_Steeper.calls kj49 t188 t197 true _ A63.out).mono ?_); rintro e w97 ⟨rfl, hb⟩; have n0_ := Aside0.mk (below_step (by repeat (first | (with_reducible first | exact HB.out | apply below_alloc | apply pw_below_drewN | apply below_drew1) | exact HB.out)) hb); clear HB; have HB := n0_; clear n0_; (try clear hb); (try clear hb2); (try clear hk); (try clear hi)))
                                                            go_ret
                                                            exact ⟨by first | rfl | (simp [errW_none, errW_some] <;> rfl) | (simp [*, errW_none, errW_some] <;> rfl), by repeat (first | (with_reducible first | exact HB.out | apply below_alloc | apply pw_below_drewN | apply below_drew1) | exact HB.out)⟩
                                                      · replace c64 := Bool.eq_false_iff.mpr c64
                                                        subst c64
                                                        have H1 : (if x21_40 = 1 then (some false) else (if x26_43 = true then (if t204 = true then (if t202 = (wrap64 (a4 * a0)) then (if t203 = (wrap64 (a4 * a1)) then ((coraclelaw15_awake.f kj49).bind fun t210 => (some t210)) else (some false)) else (some false)) else (some false)) else ((coraclelaw15_awake.f kj49).bind fun t211 => (some t211)))) = some r := by rw [if_neg (show ¬ (false = true) by decide)] at H; exact H
                                                        clear H
                                                        have H := H1
                                                        clear H1
                                                        by_cases c98 : x21_40 = 1
                                                        · rw [if_pos c98] at H
                                                          have c98b0 : (x21_40 == 1) = true := beq_iff_eq.mpr c98
                                                          have c98b1 : (x21_40 != 1) = false := bne_eq_false_iff_eq.mpr c98
                                                          clear c98
                                                          as_aux_lemma =>
                                                            obtain rfl := Option.some.inj H
                                                            go_wp2_with (first | ((with_reducible refine gate_callee (f := 32) rfl ?_); refine goesL_ (some 174) rfl rfl Try.func32 (by kernel_rfl) rfl #[.complex .f64 t200.re t200.im] rfl (by (try simp only [List.map_toArray, List.map_cons, List.map_nil]); first | done | rfl | (simp only [List.length_drop, List.length_take]; rfl)) ?_; (with_reducible refine (vec_Parts.calls t200 t202 t203 t204 _ A55.out).mono ?_); rintro e w99 ⟨rfl, hb⟩; refine ⟨_, rfl, ?_⟩; have n0_ := Aside0.mk (below_step (by repeat (first | (with_reducible first | exact HB.out | apply below_alloc | apply pw_below_drewN | apply below_drew1) | exact HB.out)) hb); clear HB; have HB := n0_; clear n0_; (try clear hb); (try clear hb2); (try clear hk); (try clear hi)) | (go_at_call 35; (with_reducible refine (vec_Cross.calls kj49 t188 t197 t205 _ A59.out).mono ?_); rintro e w100 ⟨rfl, hb⟩; have n0_ := Aside0.mk (below_step (by repeat (first | (with_reducible first | exact HB.out | apply below_alloc | apply pw_below_drewN | apply below_drew1) | exact HB.out)) hb); clear HB; have HB := n0_; clear n0_; (try clear hb); (try clear hb2); (try clear hk); (try clear hi)) | (go_at_call 35; (with_reducible refine (vec_Cross.calls kj49 t197 t188 t206 _ A61.out).mono ?_); rintro e w101 ⟨rfl, hb⟩; have n0_ := Aside0.mk (below_step (by repeat (first | (with_reducible first | exact HB.out | apply below_alloc | apply pw_below_drewN | apply below_drew1) | exact HB.out)) hb); clear HB; have HB := n0_; clear n0_; (try clear hb); (try clear hb2); (try clear hk); (try clear hi)) | (go_at_call 36; (with_reducible refine (vec_Steeper.calls kj49 t188 t197 false _ A63.out).mono ?_); rintro e w102 ⟨rfl, hb⟩; have n0_ := Aside0.mk (below_step (by repeat (first | (with_reducible first | exact HB.out | apply below_alloc | apply pw_below_drewN | apply below_drew1) | exact HB.out)) hb); clear HB; have HB := n0_; clear n0_; (try clear hb); (try clear hb2); (try clear hk); (try clear hi)))
                                                            go_ret
                                                            exact ⟨by first | rfl | (simp [errW_none, errW_some] <;> rfl) | (simp [*, errW_none, errW_some] <;> rfl), by repeat (first | (with_reducible first | exact HB.out | apply below_alloc | apply pw_below_drewN | apply below_drew1) | exact HB.out)⟩
                                                        · rw [if_neg c98] at H
                                                          have c98b0 : (x21_40 == 1) = false := beq_eq_false_iff_ne.mpr c98
                                                          have c98b1 : (x21_40 != 1) = true := bne_iff_ne.mpr c98
                                                          by_cases c103 : x26_43 = true
                                                          · subst c103
                                                            have H1 : (if t204 = true then (if t202 = (wrap64 (a4 * a0)) then (if t203 = (wrap64 (a4 * a1)) then ((coraclelaw15_awake.f kj49).bind fun t210 => (some t210)) else (some false)) else (some false)) else (some false)) = some r := by rw [if_pos rfl] at H; exact H
                                                            clear H
                                                            have H := H1
                                                            clear H1
                                                            by_cases c104 : t204 = true
                                                            · subst c104
                                                              have H1 : (if t202 = (wrap64 (a4 * a0)) then (if t203 = (wrap64 (a4 * a1)) then ((coraclelaw15_awake.f kj49).bind fun t210 => (some t210)) else (some false)) else (some false)) = some r := by rw [if_pos rfl] at H; exact H
                                                              clear H
                                                              have H := H1
                                                              clear H1
                                                              by_cases c105 : t202 = (wrap64 (a4 * a0))
                                                              · rw [if_pos c105] at H
                                                                have c105b0 : (t202 == (wrap64 (a4 * a0))) = true := beq_iff_eq.mpr c105
                                                                have c105b1 : (t202 != (wrap64 (a4 * a0))) = false := bne_eq_false_iff_eq.mpr c105
                                                                clear c105
                                                                by_cases c106 : t203 = (wrap64 (a4 * a1))
                                                                · rw [if_pos c106] at H
                                                                  have c106b0 : (t203 == (wrap64 (a4 * a1))) = true := beq_iff_eq.mpr c106
                                                                  have c106b1 : (t203 != (wrap64 (a4 * a1))) = false := bne_eq_false_iff_eq.mpr c106
                                                                  clear c106
                                                                  replace H := Option.bind_eq_some_iff.mp H
                                                                  obtain ⟨t210, A1070, H⟩ := H
                                                                  replace H : (some t210) = some r := H
                                                                  have A107 := Aside0.mk A1070
                                                                  clear A1070
                                                                  as_aux_lemma =>
                                                                    obtain rfl := Option.some.inj H
                                                                    go_wp2_with (first | ((with_reducible refine gate_callee (f := 32) rfl ?_); refine goesL_ (some 174) rfl rfl Try.func32 (by kernel_rfl) rfl #[.complex .f64 t200.re t200.im] rfl (by (try simp only [List.map_toArray, List.map_cons, List.map_nil]); first | done | rfl | (simp only [List.length_drop, List.length_take]; rfl)) ?_; (with_reducible refine (vec_Parts.calls t200 t202 t203 true _ A55.out).mono ?_); rintro e w108 ⟨rfl, hb⟩; refine ⟨_, rfl, ?_⟩; have n0_ := Aside0.mk (below_step (by repeat (first | (with_reducible first | exact HB.out | apply below_alloc | apply pw_below_drewN | apply below_drew1) | exact HB.out)) hb); clear HB; have HB := n0_; clear n0_; (try clear hb); (try clear hb2); (try clear hk); (try clear hi)) | (go_at_call 35; (with_reducible refine (vec_Cross.calls kj49 t188 t197 t205 _ A59.out).mono ?_); rintro e w109 ⟨rfl, hb⟩; have n0_ := Aside0.mk (below_step (by repeat (first | (with_reducible first | exact HB.out | apply below_alloc | apply pw_below_drewN | apply below_drew1) | exact HB.out)) hb); clear HB; have HB := n0_; clear n0_; (try clear hb); (try clear hb2); (try clear hk); (try clear hi)) | (go_at_call 35; (with_reducible refine (vec_Cross.calls kj49 t197 t188 t206 _ A61.out).mono ?_); rintro e w110 ⟨rfl, hb⟩; have n0_ := Aside0.mk (below_step (by repeat (first | (with_reducible first | exact HB.out | apply below_alloc | apply pw_below_drewN | apply below_drew1) | exact HB.out)) hb); clear HB; have HB := n0_; clear n0_; (try clear hb); (try clear hb2); (try clear hk); (try clear hi)) | (go_at_call 36; (with_reducible refine (vec_Steeper.calls kj49 t188 t197 false _ A63.out).mono ?_); rintro e w111 ⟨rfl, hb⟩; have n0_ := Aside0.mk (below_step (by repeat (first | (with_reducible first | exact HB.out | apply below_alloc | apply pw_below_drewN | apply below_drew1) | exact HB.out)) hb); clear HB; have HB := n0_; clear n0_; (try clear hb); (try clear hb2); (try clear hk); (try clear hi)) | (go_at_call 28; (with_reducible refine (coraclelaw15_awake.calls kj49  t210 _ A107.out).mono ?_); rintro e w112 ⟨rfl, hb⟩; have n0_ := Aside0.mk (below_step (by repeat (first | (with_reducible first | exact HB.out | apply below_alloc | apply pw_below_drewN | apply below_drew1) | exact HB.out)) hb); clear HB; have HB := n0_; clear n0_; (try clear hb); (try clear hb2); (try clear hk); (try clear hi)))
                                                                    go_ret
                                                                    exact ⟨by first | rfl | (simp [errW_none, errW_some] <;> rfl) | (simp [*, errW_none, errW_some] <;> rfl), by repeat (first | (with_reducible first | exact HB.out | apply below_alloc | apply pw_below_drewN | apply below_drew1) | exact HB.out)⟩
                                                                · rw [if_neg c106] at H
                                                                  have c106b0 : (t203 == (wrap64 (a4 * a1))) = false := beq_eq_false_iff_ne.mpr c106
                                                                  have c106b1 : (t203 != (wrap64 (a4 * a1))) = true := bne_iff_ne.mpr c106
                                                                  as_aux_lemma =>
                                                                    obtain rfl := Option.some.inj H
                                                                    go_wp2_with (first | ((with_reducible refine gate_callee (f := 32) rfl ?_); refine goesL_ (some 174) rfl rfl Try.func32 (by kernel_rfl) rfl #[.complex .f64 t200.re t200.im] rfl (by (try simp only [List.map_toArray, List.map_cons, List.map_nil]); first | done | rfl | (simp only [List.length_drop, List.length_take]; rfl)) ?_; (with_reducible refine (vec_Parts.calls t200 t202 t203 true _ A55.out).mono ?_); rintro e w113 ⟨rfl, hb⟩; refine ⟨_, rfl, ?_⟩; have n0_ := Aside0.mk (below_step (by repeat (first | (with_reducible first | exact HB.out | apply below_alloc | apply pw_below_drewN | apply below_drew1) | exact HB.out)) hb); clear HB; have HB := n0_; clear n0_; (try clear hb); (try clear hb2); (try clear hk); (try clear hi)) | (go_at_call 35; (with_reducible refine (vec_Cross.calls kj49 t188 t197 t205 _ A59.out).mono ?_); rintro e w114 ⟨rfl, hb⟩; have n0_ := Aside0.mk (below_step (by repeat (first | (with_reducible first | exact HB.out | apply below_alloc | apply pw_below_drewN | apply below_drew1) | exact HB.out)) hb); clear HB; have HB := n0_; clear n0_; (try clear hb); (try clear hb2); (try clear hk); (try clear hi)) | (go_at_call 35; (with_reducible refine (vec_Cross.calls kj49 t197 t188 t206 _ A61.out).mono ?_); rintro e w115 ⟨rfl, hb⟩; have n0_ := Aside0.mk (below_step (by repeat (first | (with_reducible first | exact HB.out | apply below_alloc | apply pw_below_drewN | apply below_drew1) | exact HB.out)) hb); clear HB; have HB := n0_; clear n0_; (try clear hb); (try clear hb2); (try clear hk); (try clear hi)) | (go_at_call 36; (with_reducible refine (vec_Steeper.calls kj49 t188 t197 false _ A63.out).mono ?_); rintro e w116 ⟨rfl, hb⟩; have n0_ := Aside0.mk (below_step (by repeat (first | (with_reducible first | exact HB.out | apply below_alloc | apply pw_below_drewN | apply below_drew1) | exact HB.out)) hb); clear HB; have HB := n0_; clear n0_; (try clear hb); (try clear hb2); (try clear hk); (try clear hi)))
                                                                    go_ret
                                                                    exact ⟨by first | rfl | (simp [errW_none, errW_some] <;> rfl) | (simp [*, errW_none, errW_some] <;> rfl), by repeat (first | (with_reducible first | exact HB.out | apply below_alloc | apply pw_below_drewN | apply below_drew1) | exact HB.out)⟩
                                                              · rw [if_neg c105] at H
                                                                have c105b0 : (t202 == (wrap64 (a4 * a0))) = false := beq_eq_false_iff_ne.mpr c105
                                                                have c105b1 : (t202 != (wrap64 (a4 * a0))) = true := bne_iff_ne.mpr c105
                                                                as_aux_lemma =>
                                                                  obtain rfl := Option.some.inj H
                                                                  go_wp2_with (first | ((with_reducible refine gate_callee (f := 32) rfl ?_); refine goesL_ (some 174) rfl rfl Try.func32 (by kernel_rfl) rfl #[.complex .f64 t200.re t200.im] rfl (by (try simp only [List.map_toArray, List.map_cons, List.map_nil]); first | done | rfl | (simp only [List.length_drop, List.length_take]; rfl)) ?_; (with_reducible refine (vec_Parts.calls t200 t202 t203 true _ A55.out).mono ?_); rintro e w117 ⟨rfl, hb⟩; refine ⟨_, rfl, ?_⟩; have n0_ := Aside0.mk (below_step (by repeat (first | (with_reducible first | exact HB.out | apply below_alloc | apply pw_below_drewN | apply below_drew1) | exact HB.out)) hb); clear HB; have HB := n0_; clear n0_; (try clear hb); (try clear hb2); (try clear hk); (try clear hi)) | (go_at_call 35; (with_reducible refine (vec_Cross.calls kj49 t188 t197 t205 _ A59.out).mono ?_); rintro e w118 ⟨rfl, hb⟩; have n0_ := Aside0.mk (below_step (by repeat (first | (with_reducible first | exact HB.out | apply below_alloc | apply pw_below_drewN | apply below_drew1) | exact HB.out)) hb); clear HB; have HB := n0_; clear n0_; (try clear hb); (try clear hb2); (try clear hk); (try clear hi)) | (go_at_call 35; (with_reducible refine (vec_Cross.calls kj49 t197 t188 t206 _ A61.out).mono ?_); rintro e w119 ⟨rfl, hb⟩; have n0_ := Aside0.mk (below_step (by repeat (first | (with_reducible first | exact HB.out | apply below_alloc | apply pw_below_drewN | apply below_drew1) | exact HB.out)) hb); clear HB; have HB := n0_; clear n0_; (try clear hb); (try clear hb2); (try clear hk); (try clear hi)) | (go_at_call 36; (with_reducible refine (vec_Steeper.calls kj49 t188 t197 false _ A63.out).mono ?_); rintro e w120 ⟨rfl, hb⟩; have n0_ := Aside0.mk (below_step (by repeat (first | (with_reducible first | exact HB.out | apply below_alloc | apply pw_below_drewN | apply below_drew1) | exact HB.out)) hb); clear HB; have HB := n0_; clear n0_; (try clear hb); (try clear hb2); (try clear hk); (try clear hi)))
                                                                  go_ret
                                                                  exact ⟨by first | rfl | (simp [errW_none, errW_some] <;> rfl) | (simp [*, errW_none, errW_some] <;> rfl), by repeat (first | (with_reducible first | exact HB.out | apply below_alloc | apply pw_below_drewN | apply below_drew1) | exact HB.out)⟩
                                                            · replace c104 := Bool.eq_false_iff.mpr c104
                                                              subst c104
                                                              have H1 : (some false) = some r := by rw [if_neg (show ¬ (false = true) by decide)] at H; exact H
                                                              clear H
                                                              have H := H1
                                                              clear H1
                                                              as_aux_lemma =>
                                                                obtain rfl := Option.some.inj H
                                                                go_wp2_with (first | ((with_reducible refine gate_callee (f := 32) rfl ?_); refine goesL_ (some 174) rfl rfl Try.func32 (by kernel_rfl) rfl #[.complex .f64 t200.re t200.im] rfl (by (try simp only [List.map_toArray, List.map_cons, List.map_nil]); first | done | rfl | (simp only [List.length_drop, List.length_take]; rfl)) ?_; (with_reducible refine (vec_Parts.calls t200 t202 t203 false _ A55.out).mono ?_); rintro e w121 ⟨rfl, hb⟩; refine ⟨_, rfl, ?_⟩; have n0_ := Aside0.mk (below_step (by repeat (first | (with_reducible first | exact HB.out | apply below_alloc | apply pw_below_drewN | apply below_drew1) | exact HB.out)) hb); clear HB; have HB := n0_; clear n0_; (try clear hb); (try clear hb2); (try clear hk); (try clear hi)) | (go_at_call 35; (with_reducible refine (vec_Cross.calls kj49 t188 t197 t205 _ A59.out).mono ?_); rintro e w122 ⟨rfl, hb⟩; have n0_ := Aside0.mk (below_step (by repeat (first | (with_reducible first | exact HB.out | apply below_alloc | apply pw_below_drewN | apply below_drew1) | exact HB.out)) hb); clear HB; have HB := n0_; clear n0_; (try clear hb); (try clear hb2); (try clear hk); (try clear hi)) | (go_at_call 35; (with_reducible refine (vec_Cross.calls kj49 t197 t188 t206 _ A61.out).mono ?_); rintro e w123 ⟨rfl, hb⟩; have n0_ := Aside0.mk (below_step (by repeat (first | (with_reducible first | exact HB.out | apply below_alloc | apply pw_below_drewN | apply below_drew1) | exact HB.out)) hb); clear HB; have HB := n0_; clear n0_; (try clear hb); (try clear hb2); (try clear hk); (try clear hi)) | (go_at_call 36; (with_reducible refine (vec_Steeper.calls kj49 t188 t197 false _ A63.out).mono ?_); rintro e w124 ⟨rfl, hb⟩; have n0_ := Aside0.mk (below_step (by repeat (first | (with_reducible first | exact HB.out | apply below_alloc | apply pw_below_drewN | apply below_drew1) | exact HB.out)) hb); clear HB; have HB := n0_; clear n0_; (try clear hb); (try clear hb2); (try clear hk); (try clear hi)))
                                                                go_ret
                                                                exact ⟨by first | rfl | (simp [errW_none, errW_some] <;> rfl) | (simp [*, errW_none, errW_some] <;> rfl), by repeat (first | (with_reducible first | exact HB.out | apply below_alloc | apply pw_below_drewN | apply below_drew1) | exact HB.out)⟩
                                                          · replace c103 := Bool.eq_false_iff.mpr c103
                                                            subst c103
                                                            have H1 : ((coraclelaw15_awake.f kj49).bind fun t211 => (some t211)) = some r := by rw [if_neg (show ¬ (false = true) by decide)] at H; exact H
                                                            clear H
                                                            have H := H1
                                                            clear H1
                                                            replace H := Option.bind_eq_some_iff.mp H
                                                            obtain ⟨t211, A1250, H⟩ := H
                                                            replace H : (some t211) = some r := H
                                                            have A125 := Aside0.mk A1250
                                                            clear A1250
                                                            as_aux_lemma =>
                                                              obtain rfl := Option.some.inj H
                                                              go_wp2_with (first | ((with_reducible refine gate_callee (f := 32) rfl ?_); refine goesL_ (some 174) rfl rfl Try.func32 (by kernel_rfl) rfl #[.complex .f64 t200.re t200.im] rfl (by (try simp only [List.map_toArray, List.map_cons, List.map_nil]); first | done | rfl | (simp only [List.length_drop, List.length_take]; rfl)) ?_; (with_reducible refine (vec_Parts.calls t200 t202 t203 t204 _ A55.out).mono ?_); rintro e w126 ⟨rfl, hb⟩; refine ⟨_, rfl, ?_⟩; have n0_ := Aside0.mk (below_step (by repeat (first | (with_reducible first | exact HB.out | apply below_alloc | apply pw_below_drewN | apply below_drew1) | exact HB.out)) hb); clear HB; have HB := n0_; clear n0_; (try clear hb); (try clear hb2); (try clear hk); (try clear hi)) | (go_at_call 35; (with_reducible refine (vec_Cross.calls kj49 t188 t197 t205 _ A59.out).mono ?_); rintro e w127 ⟨rfl, hb⟩; have n0_ := Aside0.mk (below_step (by repeat (first | (with_reducible first | exact HB.out | apply below_alloc | apply pw_below_drewN | apply below_drew1) | exact HB.out)) hb); clear HB; have HB := n0_; clear n0_; (try clear hb); (try clear hb2); (try clear hk); (try clear hi)) | (go_at_call 35; (with_reducible refine (vec_Cross.calls kj49 t197 t188 t206 _ A61.out).mono ?_); rintro e w128 ⟨rfl, hb⟩; have n0_ := Aside0.mk (below_step (by repeat (first | (with_reducible first | exact HB.out | apply below_alloc | apply pw_below_drewN | apply below_drew1) | exact HB.out)) hb); clear HB; have HB := n0_; clear n0_; (try clear hb); (try clear hb2); (try clear hk); (try clear hi)) | (go_at_call 36; (with_reducible refine (vec_Steeper.calls kj49 t188 t197 false _ A63.out).mono ?_); rintro e w129 ⟨rfl, hb⟩; have n0_ := Aside0.mk (below_step (by repeat (first | (with_reducible first | exact HB.out | apply below_alloc | apply pw_below_drewN | apply below_drew1) | exact HB.out)) hb); clear HB; have HB := n0_; clear n0_; (try clear hb); (try clear hb2); (try clear hk); (try clear hi)) | (go_at_call 28; (with_reducible refine (coraclelaw15_awake.calls kj49  t211 _ A125.out).mono ?_); rintro e w130 ⟨rfl, hb⟩; have n0_ := Aside0.mk (below_step (by repeat (first | (with_reducible first | exact HB.out | apply below_alloc | apply pw_below_drewN | apply below_drew1) | exact HB.out)) hb); clear HB; have HB := n0_; clear n0_; (try clear hb); (try clear hb2); (try clear hk); (try clear hi)))
                                                              go_ret
                                                              exact ⟨by first | rfl | (simp [errW_none, errW_some] <;> rfl) | (simp [*, errW_none, errW_some] <;> rfl), by repeat (first | (with_reducible first | exact HB.out | apply below_alloc | apply pw_below_drewN | apply below_drew1) | exact HB.out)⟩
                                                    · rw [if_neg c62] at H
                                                      have c62b0 : (t206 == (wrap64 (-x21_40))) = false := beq_eq_false_iff_ne.mpr c62
                                                      have c62b1 : (t206 != (wrap64 (-x21_40))) = true := bne_iff_ne.mpr c62
                                                      as_aux_lemma =>
                                                        obtain rfl := Option.some.inj H
                                                        go_wp2_with (first | ((with_reducible refine gate_callee (f := 32) rfl ?_); refine goesL_ (some 174) rfl rfl Try.func32 (by kernel_rfl) rfl #[.complex .f64 t200.re t200.im] rfl (by (try simp only [List.map_toArray, List.map_cons, List.map_nil]); first | done | rfl | (simp only [List.length_drop, List.length_take]; rfl)) ?_; (with_reducible refine (vec_Parts.calls t200 t202 t203 t204 _ A55.out).mono ?_); rintro e w131 ⟨rfl, hb⟩; refine ⟨_, rfl, ?_⟩; have n0_ := Aside0.mk (below_step (by repeat (first | (with_reducible first | exact HB.out | apply below_alloc | apply pw_below_drewN | apply below_drew1) | exact HB.out)) hb); clear HB; have HB := n0_; clear n0_; (try clear hb); (try clear hb2); (try clear hk); (try clear hi)) | (go_at_call 35; (with_reducible refine (vec_Cross.calls kj49 t188 t197 t205 _ A59.out).mono ?_); rintro e w132 ⟨rfl, hb⟩; have n0_ := Aside0.mk (below_step (by repeat (first | (with_reducible first | exact HB.out | apply below_alloc | apply pw_below_drewN | apply below_drew1) | exact HB.out)) hb); clear HB; have HB := n0_; clear n0_; (try clear hb); (try clear hb2); (try clear hk); (try clear hi)) | (go_at_call 35; (with_reducible refine (vec_Cross.calls kj49 t197 t188 t206 _ A61.out).mono ?_); rintro e w133 ⟨rfl, hb⟩; have n0_ := Aside0.mk (below_step (by repeat (first | (with_reducible first | exact HB.out | apply below_alloc | apply pw_below_drewN | apply below_drew1) | exact HB.out)) hb); clear HB; have HB := n0_; clear n0_; (try clear hb); (try clear hb2); (try clear hk); (try clear hi)))
                                                        go_ret
                                                        exact ⟨by first | rfl | (simp [errW_none, errW_some] <;> rfl) | (simp [*, errW_none, errW_some] <;> rfl), by repeat (first | (with_reducible first | exact HB.out | apply below_alloc | apply pw_below_drewN | apply below_drew1) | exact HB.out)⟩
                                                  · rw [if_neg c60] at H
                                                    have c60b0 : (t205 == x21_40) = false := beq_eq_false_iff_ne.mpr c60
                                                    have c60b1 : (t205 != x21_40) = true := bne_iff_ne.mpr c60
                                                    as_aux_lemma =>
                                                      obtain rfl := Option.some.inj H
                                                      go_wp2_with (first | ((with_reducible refine gate_callee (f := 32) rfl ?_); refine goesL_ (some 174) rfl rfl Try.func32 (by kernel_rfl) rfl #[.complex .f64 t200.re t200.im] rfl (by (try simp only [List.map_toArray, List.map_cons, List.map_nil]); first | done | rfl | (simp only [List.length_drop, List.length_take]; rfl)) ?_; (with_reducible refine (vec_Parts.calls t200 t202 t203 t204 _ A55.out).mono ?_); rintro e w134 ⟨rfl, hb⟩; refine ⟨_, rfl, ?_⟩; have n0_ := Aside0.mk (below_step (by repeat (first | (with_reducible first | exact HB.out | apply below_alloc | apply pw_below_drewN | apply below_drew1) | exact HB.out)) hb); clear HB; have HB := n0_; clear n0_; (try clear hb); (try clear hb2); (try clear hk); (try clear hi)) | (go_at_call 35; (with_reducible refine (vec_Cross.calls kj49 t188 t197 t205 _ A59.out).mono ?_); rintro e w135 ⟨rfl, hb⟩; have n0_ := Aside0.mk (below_step (by repeat (first | (with_reducible first | exact HB.out | apply below_alloc | apply pw_below_drewN | apply below_drew1) | exact HB.out)) hb); clear HB; have HB := n0_; clear n0_; (try clear hb); (try clear hb2); (try clear hk); (try clear hi)))
                                                      go_ret
                                                      exact ⟨by first | rfl | (simp [errW_none, errW_some] <;> rfl) | (simp [*, errW_none, errW_some] <;> rfl), by repeat (first | (with_reducible first | exact HB.out | apply below_alloc | apply pw_below_drewN | apply below_drew1) | exact HB.out)⟩
                                                · rw [if_neg c58] at H
                                                  have c58b0 : (t195 == a1) = false := beq_eq_false_iff_ne.mpr c58
                                                  have c58b1 : (t195 != a1) = true := bne_iff_ne.mpr c58
                                                  as_aux_lemma =>
                                                    obtain rfl := Option.some.inj H
                                                    go_wp2_with (first | ((with_reducible refine gate_callee (f := 32) rfl ?_); refine goesL_ (some 174) rfl rfl Try.func32 (by kernel_rfl) rfl #[.complex .f64 t200.re t200.im] rfl (by (try simp only [List.map_toArray, List.map_cons, List.map_nil]); first | done | rfl | (simp only [List.length_drop, List.length_take]; rfl)) ?_; (with_reducible refine (vec_Parts.calls t200 t202 t203 t204 _ A55.out).mono ?_); rintro e w136 ⟨rfl, hb⟩; refine ⟨_, rfl, ?_⟩; have n0_ := Aside0.mk (below_step (by repeat (first | (with_reducible first | exact HB.out | apply below_alloc | apply pw_below_drewN | apply below_drew1) | exact HB.out)) hb); clear HB; have HB := n0_; clear n0_; (try clear hb); (try clear hb2); (try clear hk); (try clear hi)))
                                                    go_ret
                                                    exact ⟨by first | rfl | (simp [errW_none, errW_some] <;> rfl) | (simp [*, errW_none, errW_some] <;> rfl), by repeat (first | (with_reducible first | exact HB.out | apply below_alloc | apply pw_below_drewN | apply below_drew1) | exact HB.out)⟩
                                              · rw [if_neg c57] at H
                                                have c57b0 : (t194 == a0) = false := beq_eq_false_iff_ne.mpr c57
                                                have c57b1 : (t194 != a0) = true := bne_iff_ne.mpr c57
                                                as_aux_lemma =>
                                                  obtain rfl := Option.some.inj H
                                                  go_wp2_with (first | ((with_reducible refine gate_callee (f := 32) rfl ?_); refine goesL_ (some 174) rfl rfl Try.func32 (by kernel_rfl) rfl #[.complex .f64 t200.re t200.im] rfl (by (try simp only [List.map_toArray, List.map_cons, List.map_nil]); first | done | rfl | (simp only [List.length_drop, List.length_take]; rfl)) ?_; (with_reducible refine (vec_Parts.calls t200 t202 t203 t204 _ A55.out).mono ?_); rintro e w137 ⟨rfl, hb⟩; refine ⟨_, rfl, ?_⟩; have n0_ := Aside0.mk (below_step (by repeat (first | (with_reducible first | exact HB.out | apply below_alloc | apply pw_below_drewN | apply below_drew1) | exact HB.out)) hb); clear HB; have HB := n0_; clear n0_; (try clear hb); (try clear hb2); (try clear hk); (try clear hi)))
                                                  go_ret
                                                  exact ⟨by first | rfl | (simp [errW_none, errW_some] <;> rfl) | (simp [*, errW_none, errW_some] <;> rfl), by repeat (first | (with_reducible first | exact HB.out | apply below_alloc | apply pw_below_drewN | apply below_drew1) | exact HB.out)⟩
                                            · replace c56 := Bool.eq_false_iff.mpr c56
                                              subst c56
                                              have H1 : (some false) = some r := by rw [if_neg (show ¬ (false = true) by decide)] at H; exact H
                                              clear H
                                              have H := H1
                                              clear H1
                                              as_aux_lemma =>
                                                obtain rfl := Option.some.inj H
                                                go_wp2_with (first | ((with_reducible refine gate_callee (f := 32) rfl ?_); refine goesL_ (some 174) rfl rfl Try.func32 (by kernel_rfl) rfl #[.complex .f64 t200.re t200.im] rfl (by (try simp only [List.map_toArray, List.map_cons, List.map_nil]); first | done | rfl | (simp only [List.length_drop, List.length_take]; rfl)) ?_; (with_reducible refine (vec_Parts.calls t200 t202 t203 t204 _ A55.out).mono ?_); rintro e w138 ⟨rfl, hb⟩; refine ⟨_, rfl, ?_⟩; have n0_ := Aside0.mk (below_step (by repeat (first | (with_reducible first | exact HB.out | apply below_alloc | apply pw_below_drewN | apply below_drew1) | exact HB.out)) hb); clear HB; have HB := n0_; clear n0_; (try clear hb); (try clear hb2); (try clear hk); (try clear hi)))
                                                go_ret
                                                exact ⟨by first | rfl | (simp [errW_none, errW_some] <;> rfl) | (simp [*, errW_none, errW_some] <;> rfl), by repeat (first | (with_reducible first | exact HB.out | apply below_alloc | apply pw_below_drewN | apply below_drew1) | exact HB.out)⟩

/-- THE ONE PURE STATEMENT of coraclelaw15_VecAsks: yours. -/
def coraclelaw15_VecAsks.Pure : Prop := ∀ (a0 : Int) (a1 : Int) (a2 : Int) (a3 : Int) (a4 : Int), (Lit.int .i64 a0).wf = true → (Lit.int .i64 a1).wf = true → (Lit.int .i64 a2).wf = true → (Lit.int .i64 a3).wf = true → (Lit.int .i64 a4).wf = true → ∃ k, coraclelaw15_VecAsks.f k a0 a1 a2 a3 a4 = some true
theorem coraclelaw15_VecAsks.walk (P : coraclelaw15_VecAsks.Pure) (a0 : Int) (a1 : Int) (a2 : Int) (a3 : Int) (a4 : Int) (w : World) (w0 : (Lit.int .i64 a0).wf = true) (w1 : (Lit.int .i64 a1).wf = true) (w2 : (Lit.int .i64 a2).wf = true) (w3 : (Lit.int .i64 a3).wf = true) (w4 : (Lit.int .i64 a4).wf = true) :
    Calls Try.prog 8 #[.int .i64 a0, .int .i64 a1, .int .i64 a2, .int .i64 a3, .int .i64 a4] w fun e w' => e = .returned (.bool true) ∧ Below w.heap.size w w' := by
  obtain ⟨k, h⟩ := P a0 a1 a2 a3 a4 w0 w1 w2 w3 w4
  refine (coraclelaw15_VecAsks.calls k a0 a1 a2 a3 a4 true w h).mono ?_
  rintro e w' ⟨rfl, hd⟩
  exact ⟨rfl, hd⟩

end Go.Proofs.Ytfoahgdaigfhoaa.QVec
