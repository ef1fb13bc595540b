/- Functions of the program as plain Lean functions, and that its calls come to what these tell: written by a program of this session; Lean checks it. -/
import Derived.Test.YtmoecidfmgeafaaDoorQPntx0
import Derived.Test.YtmoecidfmgeafaaDoorQPntx2
import Derived.Test.YtmoecidfmgeafaaDoorQPntx3
import Derived.Test.YtmoecidfmgeafaaDoorQPntx4
import Derived.Test.YtmoecidfmgeafaaDoorQPntx7
namespace Go.Proofs.YtmoecidfmgeafaaDoor.QPnt
open Go.RowKit Go.Proofs.YtmoecidfmgeafaaDoorW.PrintWords Go.Proofs.YtmoecidfmgeafaaDoorW.PrintLast Go.Proofs.YtmoecidfmgeafaaDoorW.PrintMore
attribute [local go_sem] max2_int min2_int max_two min_two max_three min_three max_four min_four  run_fop run_feq run_fne run_flt run_fle run_fgt run_fge run_fint run_toi run_real' run_imag' run_complex' run_ceq run_cne run_cadd run_csub run_cmul Go.Proofs.YtmoecidfmgeafaaDoor.Wide.cellsAt_drewN Go.Proofs.YtmoecidfmgeafaaDoor.Wide.cellsAt_drew Go.Proofs.YtmoecidfmgeafaaDoor.Wide.lw32 Go.Proofs.YtmoecidfmgeafaaDoor.Wide.lw33
attribute [local go_sem ↓ high] Go.Proofs.YtmoecidfmgeafaaDoor.Wide.hv32 Go.Proofs.YtmoecidfmgeafaaDoor.Wide.hv33
set_option linter.unusedVariables false
set_option linter.unusedSimpArgs false

attribute [local go_sem high] eqA25
/-! ### coraclelaw3_PointParts: function 6 -/
mutual
def coraclelaw3_PointParts.j0 : Nat → List (S25) → List (S25) → Bool → Option (Bool)
  | 0, _, _, _ => none
  | k + 1, x0, x1, x17 => if x17 = true then ((coraclelaw3_awake.f).bind fun t301 => (some t301)) else ((point_Both.f k x0 x1).bind fun t302 => ((point_Minus.f k x0 x1).bind fun t305 => (coraclelaw3_PointParts.l0 k x0 x1 t302 t305 0 0 0)))
def coraclelaw3_PointParts.l0 : Nat → List (S25) → List (S25) → List (S25) → List (S25) → Int → Int → Int → Option (Bool)
  | 0, _, _, _, _, _, _, _ => none
  | k + 1, x0, x1, x5, x6, x7, x8, x9 => if x9 < (x0.length : Int) then (if x7 < (x5.length : Int) then (if 0 ≤ x7 then (if 0 ≤ x9 then (if ((((rd_T25 x5 x7).f0.f0) == ((rd_T25 x0 x9).f0.f0) && (((rd_T25 x5 x7).f0.f1) == ((rd_T25 x0 x9).f0.f1) && (((rd_T25 x5 x7).f0.f2) == ((rd_T25 x0 x9).f0.f2) && (((rd_T25 x5 x7).f0.f3) == ((rd_T25 x0 x9).f0.f3) && (((rd_T25 x5 x7).f0.f4) == ((rd_T25 x0 x9).f0.f4) && (((rd_T25 x5 x7).f0.f5) == ((rd_T25 x0 x9).f0.f5) && (((rd_T25 x5 x7).f0.f6) == ((rd_T25 x0 x9).f0.f6) && (((rd_T25 x5 x7).f0.f7) == ((rd_T25 x0 x9).f0.f7) && (((rd_T25 x5 x7).f0.f8) == ((rd_T25 x0 x9).f0.f8) && (((rd_T25 x5 x7).f0.f9) == ((rd_T25 x0 x9).f0.f9) && (((rd_T25 x5 x7).f0.f10) == ((rd_T25 x0 x9).f0.f10) && (((rd_T25 x5 x7).f0.f11) == ((rd_T25 x0 x9).f0.f11) && (((rd_T25 x5 x7).f0.f12) == ((rd_T25 x0 x9).f0.f12) && (((rd_T25 x5 x7).f0.f13) == ((rd_T25 x0 x9).f0.f13) && (((rd_T25 x5 x7).f0.f14) == ((rd_T25 x0 x9).f0.f14) && (((rd_T25 x5 x7).f0.f15) == ((rd_T25 x0 x9).f0.f15) && (((rd_T25 x5 x7).f0.f16) == ((rd_T25 x0 x9).f0.f16) && (((rd_T25 x5 x7).f0.f17) == ((rd_T25 x0 x9).f0.f17) && (((rd_T25 x5 x7).f0.f18) == ((rd_T25 x0 x9).f0.f18) && (((rd_T25 x5 x7).f0.f19) == ((rd_T25 x0 x9).f0.f19) && (((rd_T25 x5 x7).f0.f20) == ((rd_T25 x0 x9).f0.f20) && (((rd_T25 x5 x7).f0.f21) == ((rd_T25 x0 x9).f0.f21) && (((rd_T25 x5 x7).f0.f22) == ((rd_T25 x0 x9).f0.f22) && (((rd_T25 x5 x7).f0.f23) == ((rd_T25 x0 x9).f0.f23) && (((rd_T25 x5 x7).f0.f24) == ((rd_T25 x0 x9).f0.f24) && (((rd_T25 x5 x7).f0.f25) == ((rd_T25 x0 x9).f0.f25) && (((rd_T25 x5 x7).f0.f26) == ((rd_T25 x0 x9).f0.f26) && (((rd_T25 x5 x7).f0.f27) == ((rd_T25 x0 x9).f0.f27) && (((rd_T25 x5 x7).f0.f28) == ((rd_T25 x0 x9).f0.f28) && (((rd_T25 x5 x7).f0.f29) == ((rd_T25 x0 x9).f0.f29) && (((rd_T25 x5 x7).f0.f30) == ((rd_T25 x0 x9).f0.f30) && (((rd_T25 x5 x7).f0.f31) == ((rd_T25 x0 x9).f0.f31))))))))))))))))))))))))))))))))) && (((rd_T25 x5 x7).f1) == ((rd_T25 x0 x9).f1))) = true then ((point_Has.f k x1 ((rd_T25 x0 x9).f0.f0) ((rd_T25 x0 x9).f0.f1) ((rd_T25 x0 x9).f0.f2) ((rd_T25 x0 x9).f0.f3) ((rd_T25 x0 x9).f0.f4) ((rd_T25 x0 x9).f0.f5) ((rd_T25 x0 x9).f0.f6) ((rd_T25 x0 x9).f0.f7) ((rd_T25 x0 x9).f0.f8) ((rd_T25 x0 x9).f0.f9) ((rd_T25 x0 x9).f0.f10) ((rd_T25 x0 x9).f0.f11) ((rd_T25 x0 x9).f0.f12) ((rd_T25 x0 x9).f0.f13) ((rd_T25 x0 x9).f0.f14) ((rd_T25 x0 x9).f0.f15) ((rd_T25 x0 x9).f0.f16) ((rd_T25 x0 x9).f0.f17) ((rd_T25 x0 x9).f0.f18) ((rd_T25 x0 x9).f0.f19) ((rd_T25 x0 x9).f0.f20) ((rd_T25 x0 x9).f0.f21) ((rd_T25 x0 x9).f0.f22) ((rd_T25 x0 x9).f0.f23) ((rd_T25 x0 x9).f0.f24) ((rd_T25 x0 x9).f0.f25) ((rd_T25 x0 x9).f0.f26) ((rd_T25 x0 x9).f0.f27) ((rd_T25 x0 x9).f0.f28) ((rd_T25 x0 x9).f0.f29) ((rd_T25 x0 x9).f0.f30) ((rd_T25 x0 x9).f0.f31) ((rd_T25 x0 x9).f1)).bind fun t325 => (coraclelaw3_PointParts.j2 k x0 x1 x5 x6 x7 x8 x9 t325)) else (coraclelaw3_PointParts.j2 k x0 x1 x5 x6 x7 x8 x9 false)) else (none)) else (none)) else (coraclelaw3_PointParts.j2 k x0 x1 x5 x6 x7 x8 x9 false)) else (if x7 = (x5.length : Int) then (if x8 = (x6.length : Int) then ((some (([] : List (S25)) : List (S25))).bind fun y308 => (if y308.length + x5.length < 3518437208883 then ((some (y308 ++ x5 : List (S25))).bind fun y311 => (if y311.length + x6.length < 3518437208883 then ((point_Alike.f k (y311 ++ x6) x0).bind fun t317 => (if t317 = true then ((point_Both.f k x6 x1).bind fun t318 => (if (t318.length : Int) = 0 then ((coraclelaw3_awake.f).bind fun t321 => (some t321)) else (some false))) else (some false))) else (none))) else (none))) else (some false)) else (some false))
def coraclelaw3_PointParts.j2 : Nat → List (S25) → List (S25) → List (S25) → List (S25) → Int → Int → Int → Bool → Option (Bool)
  | 0, _, _, _, _, _, _, _, _ => none
  | k + 1, x0, x1, x5, x6, x7, x8, x9, x31 => if x31 = true then (coraclelaw3_PointParts.l0 k x0 x1 x5 x6 (wrap64 (x7 + 1)) x8 (wrap64 (x9 + 1))) else (if x8 < (x6.length : Int) then (if 0 ≤ x8 then (if 0 ≤ x9 then (if x9 < (x0.length : Int) then (if ((((rd_T25 x6 x8).f0.f0) == ((rd_T25 x0 x9).f0.f0) && (((rd_T25 x6 x8).f0.f1) == ((rd_T25 x0 x9).f0.f1) && (((rd_T25 x6 x8).f0.f2) == ((rd_T25 x0 x9).f0.f2) && (((rd_T25 x6 x8).f0.f3) == ((rd_T25 x0 x9).f0.f3) && (((rd_T25 x6 x8).f0.f4) == ((rd_T25 x0 x9).f0.f4) && (((rd_T25 x6 x8).f0.f5) == ((rd_T25 x0 x9).f0.f5) && (((rd_T25 x6 x8).f0.f6) == ((rd_T25 x0 x9).f0.f6) && (((rd_T25 x6 x8).f0.f7) == ((rd_T25 x0 x9).f0.f7) && (((rd_T25 x6 x8).f0.f8) == ((rd_T25 x0 x9).f0.f8) && (((rd_T25 x6 x8).f0.f9) == ((rd_T25 x0 x9).f0.f9) && (((rd_T25 x6 x8).f0.f10) == ((rd_T25 x0 x9).f0.f10) && (((rd_T25 x6 x8).f0.f11) == ((rd_T25 x0 x9).f0.f11) && (((rd_T25 x6 x8).f0.f12) == ((rd_T25 x0 x9).f0.f12) && (((rd_T25 x6 x8).f0.f13) == ((rd_T25 x0 x9).f0.f13) && (((rd_T25 x6 x8).f0.f14) == ((rd_T25 x0 x9).f0.f14) && (((rd_T25 x6 x8).f0.f15) == ((rd_T25 x0 x9).f0.f15) && (((rd_T25 x6 x8).f0.f16) == ((rd_T25 x0 x9).f0.f16) && (((rd_T25 x6 x8).f0.f17) == ((rd_T25 x0 x9).f0.f17) && (((rd_T25 x6 x8).f0.f18) == ((rd_T25 x0 x9).f0.f18) && (((rd_T25 x6 x8).f0.f19) == ((rd_T25 x0 x9).f0.f19) && (((rd_T25 x6 x8).f0.f20) == ((rd_T25 x0 x9).f0.f20) && (((rd_T25 x6 x8).f0.f21) == ((rd_T25 x0 x9).f0.f21) && (((rd_T25 x6 x8).f0.f22) == ((rd_T25 x0 x9).f0.f22) && (((rd_T25 x6 x8).f0.f23) == ((rd_T25 x0 x9).f0.f23) && (((rd_T25 x6 x8).f0.f24) == ((rd_T25 x0 x9).f0.f24) && (((rd_T25 x6 x8).f0.f25) == ((rd_T25 x0 x9).f0.f25) && (((rd_T25 x6 x8).f0.f26) == ((rd_T25 x0 x9).f0.f26) && (((rd_T25 x6 x8).f0.f27) == ((rd_T25 x0 x9).f0.f27) && (((rd_T25 x6 x8).f0.f28) == ((rd_T25 x0 x9).f0.f28) && (((rd_T25 x6 x8).f0.f29) == ((rd_T25 x0 x9).f0.f29) && (((rd_T25 x6 x8).f0.f30) == ((rd_T25 x0 x9).f0.f30) && (((rd_T25 x6 x8).f0.f31) == ((rd_T25 x0 x9).f0.f31))))))))))))))))))))))))))))))))) && (((rd_T25 x6 x8).f1) == ((rd_T25 x0 x9).f1))) = true then ((point_Has.f k x1 ((rd_T25 x0 x9).f0.f0) ((rd_T25 x0 x9).f0.f1) ((rd_T25 x0 x9).f0.f2) ((rd_T25 x0 x9).f0.f3) ((rd_T25 x0 x9).f0.f4) ((rd_T25 x0 x9).f0.f5) ((rd_T25 x0 x9).f0.f6) ((rd_T25 x0 x9).f0.f7) ((rd_T25 x0 x9).f0.f8) ((rd_T25 x0 x9).f0.f9) ((rd_T25 x0 x9).f0.f10) ((rd_T25 x0 x9).f0.f11) ((rd_T25 x0 x9).f0.f12) ((rd_T25 x0 x9).f0.f13) ((rd_T25 x0 x9).f0.f14) ((rd_T25 x0 x9).f0.f15) ((rd_T25 x0 x9).f0.f16) ((rd_T25 x0 x9).f0.f17) ((rd_T25 x0 x9).f0.f18) ((rd_T25 x0 x9).f0.f19) ((rd_T25 x0 x9).f0.f20) ((rd_T25 x0 x9).f0.f21) ((rd_T25 x0 x9).f0.f22) ((rd_T25 x0 x9).f0.f23) ((rd_T25 x0 x9).f0.f24) ((rd_T25 x0 x9).f0.f25) ((rd_T25 x0 x9).f0.f26) ((rd_T25 x0 x9).f0.f27) ((rd_T25 x0 x9).f0.f28) ((rd_T25 x0 x9).f0.f29) ((rd_T25 x0 x9).f0.f30) ((rd_T25 x0 x9).f0.f31) ((rd_T25 x0 x9).f1)).bind fun t329 => (if t329 = true then (some false) else (coraclelaw3_PointParts.l0 k x0 x1 x5 x6 x7 (wrap64 (x8 + 1)) (wrap64 (x9 + 1))))) else (some false)) else (none)) else (none)) else (none)) else (some false))
end
def coraclelaw3_PointParts.f (k : Nat) (l0 : List (S25)) (l1 : List (S25)) : Option (Bool) := if (l0.length : Int) > 40 then (coraclelaw3_PointParts.j0 k l0 l1 true) else (coraclelaw3_PointParts.j0 k l0 l1 (decide ((l1.length : Int) > 40)))
theorem coraclelaw3_PointParts.mono_l : ∀ k, (∀ y0 y1 y2, LeO (coraclelaw3_PointParts.j0 k y0 y1 y2) (coraclelaw3_PointParts.j0 (k + 1) y0 y1 y2)) ∧ (∀ y0 y1 y2 y3 y4 y5 y6, LeO (coraclelaw3_PointParts.l0 k y0 y1 y2 y3 y4 y5 y6) (coraclelaw3_PointParts.l0 (k + 1) y0 y1 y2 y3 y4 y5 y6)) ∧ (∀ y0 y1 y2 y3 y4 y5 y6 y7, LeO (coraclelaw3_PointParts.j2 k y0 y1 y2 y3 y4 y5 y6 y7) (coraclelaw3_PointParts.j2 (k + 1) y0 y1 y2 y3 y4 y5 y6 y7))
  | 0 => ⟨fun _ _ _ r h => by simp [coraclelaw3_PointParts.j0] at h, fun _ _ _ _ _ _ _ r h => by simp [coraclelaw3_PointParts.l0] at h, fun _ _ _ _ _ _ _ _ r h => by simp [coraclelaw3_PointParts.j2] at h⟩
  | k + 1 => by
    obtain ⟨ih0, ih1, ih2⟩ := coraclelaw3_PointParts.mono_l k
    refine ⟨?_, ?_, ?_⟩
    · intro y0 y1 y2
      unfold coraclelaw3_PointParts.j0
      repeat' first
      | (with_reducible exact ih0 _ _ _)
      | (with_reducible exact ih1 _ _ _ _ _ _ _)
      | (with_reducible exact ih2 _ _ _ _ _ _ _ _)
      | (with_reducible exact point_Alike.mono _ _ _)
      | (with_reducible exact point_Both.mono _ _ _)
      | (with_reducible exact point_Has.mono _ _ _ _ _ _ _ _ _ _ _ _ _ _ _ _ _ _ _ _ _ _ _ _ _ _ _ _ _ _ _ _ _ _ _)
      | (with_reducible exact point_Minus.mono _ _ _)
      | (with_reducible exact LeO.refl _)
      | (with_reducible exact LeO.none _)
      | (with_reducible refine LeO.ite ?_ ?_)
      | (with_reducible refine LeO.bind ?_ (fun _ => ?_))
      | exact ih0 _ _ _
      | exact ih1 _ _ _ _ _ _ _
      | exact ih2 _ _ _ _ _ _ _ _
      | exact point_Alike.mono _ _ _
      | exact point_Both.mono _ _ _
      | exact point_Has.mono _ _ _ _ _ _ _ _ _ _ _ _ _ _ _ _ _ _ _ _ _ _ _ _ _ _ _ _ _ _ _ _ _ _ _
      | exact point_Minus.mono _ _ _
      | exact LeO.none _
      | refine LeO.ite ?_ ?_
      | refine LeO.bind ?_ (fun _ => ?_)
    · intro y0 y1 y2 y3 y4 y5 y6
      unfold coraclelaw3_PointParts.l0
      repeat' first
      | (with_reducible exact ih0 _ _ _)
      | (with_reducible exact ih1 _ _ _ _ _ _ _)
      | (with_reducible exact ih2 _ _ _ _ _ _ _ _)
      | (with_reducible exact point_Alike.mono _ _ _)
      | (with_reducible exact point_Both.mono _ _ _)
      | (with_reducible exact point_Has.mono _ _ _ _ _ _ _ _ _ _ _ _ _ _ _ _ _ _ _ _ _ _ _ _ _ _ _ _ _ _ _ _ _ _ _)
      | (with_reducible exact point_Minus.mono _ _ _)
      | (with_reducible exact LeO.refl _)
      | (with_reducible exact LeO.none _)
      | (with_reducible refine LeO.ite ?_ ?_)
      | (with_reducible refine LeO.bind ?_ (fun _ => ?_))
      | exact ih0 _ _ _
      | exact ih1 _ _ _ _ _ _ _
      | exact ih2 _ _ _ _ _ _ _ _
      | exact point_Alike.mono _ _ _
      | exact point_Both.mono _ _ _
      | exact point_Has.mono _ _ _ _ _ _ _ _ _ _ _ _ _ _ _ _ _ _ _ _ _ _ _ _ _ _ _ _ _ _ _ _ _ _ _
      | exact point_Minus.mono _ _ _
      | exact LeO.none _
      | refine LeO.ite ?_ ?_
      | refine LeO.bind ?_ (fun _ => ?_)
    · intro y0 y1 y2 y3 y4 y5 y6 y7
      unfold coraclelaw3_PointParts.j2
      repeat' first
      | (with_reducible exact ih0 _ _ _)
      | (with_reducible exact ih1 _ _ _ _ _ _ _)
      | (with_reducible exact ih2 _ _ _ _ _ _ _ _)
      | (with_reducible exact point_Alike.mono _ _ _)
      | (with_reducible exact point_Both.mono _ _ _)
      | (with_reducible exact point_Has.mono _ _ _ _ _ _ _ _ _ _ _ _ _ _ _ _ _ _ _ _ _ _ _ _ _ _ _ _ _ _ _ _ _ _ _)
      | (with_reducible exact point_Minus.mono _ _ _)
      | (with_reducible exact LeO.refl _)
      | (with_reducible exact LeO.none _)
      | (with_reducible refine LeO.ite ?_ ?_)
      | (with_reducible refine LeO.bind ?_ (fun _ => ?_))
      | exact ih0 _ _ _
      | exact ih1 _ _ _ _ _ _ _
      | exact ih2 _ _ _ _ _ _ _ _
      | exact point_Alike.mono _ _ _
      | exact point_Both.mono _ _ _
      | exact point_Has.mono _ _ _ _ _ _ _ _ _ _ _ _ _ _ _ _ _ _ _ _ _ _ _ _ _ _ _ _ _ _ _ _ _ _ _
      | exact point_Minus.mono _ _ _
      | exact LeO.none _
      | refine LeO.ite ?_ ?_
      | refine LeO.bind ?_ (fun _ => ?_)
theorem coraclelaw3_PointParts.mono : ∀ a0 a1 k, LeO (coraclelaw3_PointParts.f k a0 a1) (coraclelaw3_PointParts.f (k + 1) a0 a1) := by
  intro a0 a1 k
  obtain ⟨ih0, ih1, ih2⟩ := coraclelaw3_PointParts.mono_l k
  unfold coraclelaw3_PointParts.f
  repeat' first
      | (with_reducible exact ih0 _ _ _)
      | (with_reducible exact ih1 _ _ _ _ _ _ _)
      | (with_reducible exact ih2 _ _ _ _ _ _ _ _)
      | (with_reducible exact point_Alike.mono _ _ _)
      | (with_reducible exact point_Both.mono _ _ _)
      | (with_reducible exact point_Has.mono _ _ _ _ _ _ _ _ _ _ _ _ _ _ _ _ _ _ _ _ _ _ _ _ _ _ _ _ _ _ _ _ _ _ _)
      | (with_reducible exact point_Minus.mono _ _ _)
      | (with_reducible exact LeO.refl _)
      | (with_reducible exact LeO.none _)
      | (with_reducible refine LeO.ite ?_ ?_)
      | (with_reducible refine LeO.bind ?_ (fun _ => ?_))
      | exact ih0 _ _ _
      | exact ih1 _ _ _ _ _ _ _
      | exact ih2 _ _ _ _ _ _ _ _
      | exact point_Alike.mono _ _ _
      | exact point_Both.mono _ _ _
      | exact point_Has.mono _ _ _ _ _ _ _ _ _ _ _ _ _ _ _ _ _ _ _ _ _ _ _ _ _ _ _ _ _ _ _ _ _ _ _
      | exact point_Minus.mono _ _ _
      | exact LeO.none _
      | refine LeO.ite ?_ ?_
      | refine LeO.bind ?_ (fun _ => ?_)
def coraclelaw3_PointParts.T9 : Bool × List (List Nat × List Nat) := (true, [([], []), ([], []), ([1], [1]), ([0, 2], [0, 2]), ([3], [3]), ([4], [4]), ([4], [4]), ([5, 6, 4], [4, 5, 6]), ([7, 4], [4, 7]), ([4], [4]), ([4], [4]), ([9, 10, 4], [4, 9, 10]), ([11, 4], [4, 11]), ([8, 12, 4], [4, 8, 12]), ([4, 13], [4, 13]), ([14, 4], [14]), ([15], [15]), ([15], [15]), ([15], [15]), ([17, 18, 15], [15, 17, 18]), ([19, 15], [15, 19]), ([16, 20, 15, 15], [15, 16, 20]), ([15, 21], [15, 21]), ([22, 21], [22])])
def coraclelaw3_PointParts.B9 : List Nat := [0, 0, 2, 7, 15, 31, 31, 127, 255, 31, 31, 1567, 3615, 8191, 16383, 32767, 65535, 65535, 65535, 458751, 983039, 2097151, 4194303, 8388607]
theorem coraclelaw3_PointParts.tab9 : rtab .any (opsOf Tryd.f6 9) = coraclelaw3_PointParts.T9 := by kernel_rfl
theorem coraclelaw3_PointParts.bits9 : waitsOk coraclelaw3_PointParts.T9.2 coraclelaw3_PointParts.B9 = true := by kernel_rfl
def coraclelaw3_PointParts.T11 : Bool × List (List Nat × List Nat) := (true, [([], []), ([], []), ([1], [1]), ([0, 2], [0, 2]), ([3], [3]), ([4], [4]), ([4], [4]), ([5, 6, 4], [4, 5, 6]), ([7, 4], [4, 7]), ([4], [4]), ([4], [4]), ([9, 10, 4], [4, 9, 10]), ([11, 4], [4, 11]), ([8, 12, 4], [4, 8, 12]), ([4, 13], [4, 13]), ([14, 4], [14]), ([15], [15]), ([15], [15]), ([15], [15]), ([17, 18, 15], [15, 17, 18]), ([19, 15], [15, 19]), ([16, 20, 15, 15], [15, 16, 20]), ([21, 15], [15, 21]), ([15, 22], [15, 22]), ([23, 21], [23])])
def coraclelaw3_PointParts.B11 : List Nat := [0, 0, 2, 7, 15, 31, 31, 127, 255, 31, 31, 1567, 3615, 8191, 16383, 32767, 65535, 65535, 65535, 458751, 983039, 2097151, 4194303, 8388607, 16777215]
theorem coraclelaw3_PointParts.tab11 : rtab .any (opsOf Tryd.f6 11) = coraclelaw3_PointParts.T11 := by kernel_rfl
theorem coraclelaw3_PointParts.bits11 : waitsOk coraclelaw3_PointParts.T11.2 coraclelaw3_PointParts.B11 = true := by kernel_rfl
end Go.Proofs.YtmoecidfmgeafaaDoor.QPnt
