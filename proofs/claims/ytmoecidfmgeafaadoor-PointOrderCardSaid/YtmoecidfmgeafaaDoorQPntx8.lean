/- Functions of the program as plain Lean functions, and that its calls come to what these tell: written by a program of this session; Lean checks it. -/
import Derived.Test.YtmoecidfmgeafaaDoorQPntx0
import Derived.Test.YtmoecidfmgeafaaDoorQPntx3
import Derived.Test.YtmoecidfmgeafaaDoorQPntx4
import Derived.Test.YtmoecidfmgeafaaDoorQPntx5
import Derived.Test.YtmoecidfmgeafaaDoorQPntx6
import Derived.Test.YtmoecidfmgeafaaDoorQPntx7
namespace Go.Proofs.YtmoecidfmgeafaaDoor.QPnt
open Go.RowKit Go.Proofs.YtmoecidfmgeafaaDoorW.PrintWords Go.Proofs.YtmoecidfmgeafaaDoorW.PrintLast Go.Proofs.YtmoecidfmgeafaaDoorW.PrintMore
attribute [local go_sem] max2_int min2_int max_two min_two max_three min_three max_four min_four  run_fop run_feq run_fne run_flt run_fle run_fgt run_fge run_fint run_toi run_real' run_imag' run_complex' run_ceq run_cne run_cadd run_csub run_cmul Go.Proofs.YtmoecidfmgeafaaDoor.Wide.cellsAt_drewN Go.Proofs.YtmoecidfmgeafaaDoor.Wide.cellsAt_drew Go.Proofs.YtmoecidfmgeafaaDoor.Wide.lw32 Go.Proofs.YtmoecidfmgeafaaDoor.Wide.lw33
attribute [local go_sem ↓ high] Go.Proofs.YtmoecidfmgeafaaDoor.Wide.hv32 Go.Proofs.YtmoecidfmgeafaaDoor.Wide.hv33
set_option linter.unusedVariables false
set_option linter.unusedSimpArgs false

/-! ### coraclelaw3_PointOrder: function 5 -/
mutual
def coraclelaw3_PointOrder.j0 : Nat → List (S25) → Int → Bool → Option (Bool)
  | 0, _, _, _ => none
  | k + 1, x0, x1, x17 => if x17 = true then ((coraclelaw3_awake.f).bind fun t266 => (some t266)) else ((point_Sort.f x0).bind fun t267 => ((coraclealike_Round.f x1 (x0.length : Int)).bind fun t270 => ((some (([] : List (S25)) : List (S25))).bind fun y271 => (if 0 ≤ t270 then (if t270 ≤ (x0.length : Int) then ((some (x0.drop (t270 : Int).toNat : List (S25))).bind fun y274 => (if y271.length + y274.length < 3518437208883 then ((some (y271 ++ y274 : List (S25))).bind fun y278 => ((some (x0.take (t270 : Int).toNat : List (S25))).bind fun y281 => (if y278.length + y281.length < 3518437208883 then ((point_Sort.f (y278 ++ y281)).bind fun t288 => (coraclelaw3_PointOrder.l0 k x0 t267 t270 t288 0)) else (none)))) else (none))) else (none)) else (none)))))
def coraclelaw3_PointOrder.l0 : Nat → List (S25) → List (S25) → Int → List (S25) → Int → Option (Bool)
  | 0, _, _, _, _, _ => none
  | k + 1, x0, x5, x6, x7, x8 => if x8 < (x5.length : Int) then (if x8 > 0 then (if 0 ≤ (wrap64 (x8 - 1)) then (if (wrap64 (x8 - 1)) < (x5.length : Int) then (if 0 ≤ x8 then ((point_Less.f ((rd_T25 x5 (wrap64 (x8 - 1))).f0.f0) ((rd_T25 x5 (wrap64 (x8 - 1))).f0.f1) ((rd_T25 x5 (wrap64 (x8 - 1))).f0.f2) ((rd_T25 x5 (wrap64 (x8 - 1))).f0.f3) ((rd_T25 x5 (wrap64 (x8 - 1))).f0.f4) ((rd_T25 x5 (wrap64 (x8 - 1))).f0.f5) ((rd_T25 x5 (wrap64 (x8 - 1))).f0.f6) ((rd_T25 x5 (wrap64 (x8 - 1))).f0.f7) ((rd_T25 x5 (wrap64 (x8 - 1))).f0.f8) ((rd_T25 x5 (wrap64 (x8 - 1))).f0.f9) ((rd_T25 x5 (wrap64 (x8 - 1))).f0.f10) ((rd_T25 x5 (wrap64 (x8 - 1))).f0.f11) ((rd_T25 x5 (wrap64 (x8 - 1))).f0.f12) ((rd_T25 x5 (wrap64 (x8 - 1))).f0.f13) ((rd_T25 x5 (wrap64 (x8 - 1))).f0.f14) ((rd_T25 x5 (wrap64 (x8 - 1))).f0.f15) ((rd_T25 x5 (wrap64 (x8 - 1))).f0.f16) ((rd_T25 x5 (wrap64 (x8 - 1))).f0.f17) ((rd_T25 x5 (wrap64 (x8 - 1))).f0.f18) ((rd_T25 x5 (wrap64 (x8 - 1))).f0.f19) ((rd_T25 x5 (wrap64 (x8 - 1))).f0.f20) ((rd_T25 x5 (wrap64 (x8 - 1))).f0.f21) ((rd_T25 x5 (wrap64 (x8 - 1))).f0.f22) ((rd_T25 x5 (wrap64 (x8 - 1))).f0.f23) ((rd_T25 x5 (wrap64 (x8 - 1))).f0.f24) ((rd_T25 x5 (wrap64 (x8 - 1))).f0.f25) ((rd_T25 x5 (wrap64 (x8 - 1))).f0.f26) ((rd_T25 x5 (wrap64 (x8 - 1))).f0.f27) ((rd_T25 x5 (wrap64 (x8 - 1))).f0.f28) ((rd_T25 x5 (wrap64 (x8 - 1))).f0.f29) ((rd_T25 x5 (wrap64 (x8 - 1))).f0.f30) ((rd_T25 x5 (wrap64 (x8 - 1))).f0.f31) ((rd_T25 x5 (wrap64 (x8 - 1))).f1) ((rd_T25 x5 x8).f0.f0) ((rd_T25 x5 x8).f0.f1) ((rd_T25 x5 x8).f0.f2) ((rd_T25 x5 x8).f0.f3) ((rd_T25 x5 x8).f0.f4) ((rd_T25 x5 x8).f0.f5) ((rd_T25 x5 x8).f0.f6) ((rd_T25 x5 x8).f0.f7) ((rd_T25 x5 x8).f0.f8) ((rd_T25 x5 x8).f0.f9) ((rd_T25 x5 x8).f0.f10) ((rd_T25 x5 x8).f0.f11) ((rd_T25 x5 x8).f0.f12) ((rd_T25 x5 x8).f0.f13) ((rd_T25 x5 x8).f0.f14) ((rd_T25 x5 x8).f0.f15) ((rd_T25 x5 x8).f0.f16) ((rd_T25 x5 x8).f0.f17) ((rd_T25 x5 x8).f0.f18) ((rd_T25 x5 x8).f0.f19) ((rd_T25 x5 x8).f0.f20) ((rd_T25 x5 x8).f0.f21) ((rd_T25 x5 x8).f0.f22) ((rd_T25 x5 x8).f0.f23) ((rd_T25 x5 x8).f0.f24) ((rd_T25 x5 x8).f0.f25) ((rd_T25 x5 x8).f0.f26) ((rd_T25 x5 x8).f0.f27) ((rd_T25 x5 x8).f0.f28) ((rd_T25 x5 x8).f0.f29) ((rd_T25 x5 x8).f0.f30) ((rd_T25 x5 x8).f0.f31) ((rd_T25 x5 x8).f1)).bind fun t293 => (if t293 = true then ((point_Less.f ((rd_T25 x5 x8).f0.f0) ((rd_T25 x5 x8).f0.f1) ((rd_T25 x5 x8).f0.f2) ((rd_T25 x5 x8).f0.f3) ((rd_T25 x5 x8).f0.f4) ((rd_T25 x5 x8).f0.f5) ((rd_T25 x5 x8).f0.f6) ((rd_T25 x5 x8).f0.f7) ((rd_T25 x5 x8).f0.f8) ((rd_T25 x5 x8).f0.f9) ((rd_T25 x5 x8).f0.f10) ((rd_T25 x5 x8).f0.f11) ((rd_T25 x5 x8).f0.f12) ((rd_T25 x5 x8).f0.f13) ((rd_T25 x5 x8).f0.f14) ((rd_T25 x5 x8).f0.f15) ((rd_T25 x5 x8).f0.f16) ((rd_T25 x5 x8).f0.f17) ((rd_T25 x5 x8).f0.f18) ((rd_T25 x5 x8).f0.f19) ((rd_T25 x5 x8).f0.f20) ((rd_T25 x5 x8).f0.f21) ((rd_T25 x5 x8).f0.f22) ((rd_T25 x5 x8).f0.f23) ((rd_T25 x5 x8).f0.f24) ((rd_T25 x5 x8).f0.f25) ((rd_T25 x5 x8).f0.f26) ((rd_T25 x5 x8).f0.f27) ((rd_T25 x5 x8).f0.f28) ((rd_T25 x5 x8).f0.f29) ((rd_T25 x5 x8).f0.f30) ((rd_T25 x5 x8).f0.f31) ((rd_T25 x5 x8).f1) ((rd_T25 x5 (wrap64 (x8 - 1))).f0.f0) ((rd_T25 x5 (wrap64 (x8 - 1))).f0.f1) ((rd_T25 x5 (wrap64 (x8 - 1))).f0.f2) ((rd_T25 x5 (wrap64 (x8 - 1))).f0.f3) ((rd_T25 x5 (wrap64 (x8 - 1))).f0.f4) ((rd_T25 x5 (wrap64 (x8 - 1))).f0.f5) ((rd_T25 x5 (wrap64 (x8 - 1))).f0.f6) ((rd_T25 x5 (wrap64 (x8 - 1))).f0.f7) ((rd_T25 x5 (wrap64 (x8 - 1))).f0.f8) ((rd_T25 x5 (wrap64 (x8 - 1))).f0.f9) ((rd_T25 x5 (wrap64 (x8 - 1))).f0.f10) ((rd_T25 x5 (wrap64 (x8 - 1))).f0.f11) ((rd_T25 x5 (wrap64 (x8 - 1))).f0.f12) ((rd_T25 x5 (wrap64 (x8 - 1))).f0.f13) ((rd_T25 x5 (wrap64 (x8 - 1))).f0.f14) ((rd_T25 x5 (wrap64 (x8 - 1))).f0.f15) ((rd_T25 x5 (wrap64 (x8 - 1))).f0.f16) ((rd_T25 x5 (wrap64 (x8 - 1))).f0.f17) ((rd_T25 x5 (wrap64 (x8 - 1))).f0.f18) ((rd_T25 x5 (wrap64 (x8 - 1))).f0.f19) ((rd_T25 x5 (wrap64 (x8 - 1))).f0.f20) ((rd_T25 x5 (wrap64 (x8 - 1))).f0.f21) ((rd_T25 x5 (wrap64 (x8 - 1))).f0.f22) ((rd_T25 x5 (wrap64 (x8 - 1))).f0.f23) ((rd_T25 x5 (wrap64 (x8 - 1))).f0.f24) ((rd_T25 x5 (wrap64 (x8 - 1))).f0.f25) ((rd_T25 x5 (wrap64 (x8 - 1))).f0.f26) ((rd_T25 x5 (wrap64 (x8 - 1))).f0.f27) ((rd_T25 x5 (wrap64 (x8 - 1))).f0.f28) ((rd_T25 x5 (wrap64 (x8 - 1))).f0.f29) ((rd_T25 x5 (wrap64 (x8 - 1))).f0.f30) ((rd_T25 x5 (wrap64 (x8 - 1))).f0.f31) ((rd_T25 x5 (wrap64 (x8 - 1))).f1)).bind fun t296 => (if t296 = true then (some false) else ((point_Has.f k x0 ((rd_T25 x5 x8).f0.f0) ((rd_T25 x5 x8).f0.f1) ((rd_T25 x5 x8).f0.f2) ((rd_T25 x5 x8).f0.f3) ((rd_T25 x5 x8).f0.f4) ((rd_T25 x5 x8).f0.f5) ((rd_T25 x5 x8).f0.f6) ((rd_T25 x5 x8).f0.f7) ((rd_T25 x5 x8).f0.f8) ((rd_T25 x5 x8).f0.f9) ((rd_T25 x5 x8).f0.f10) ((rd_T25 x5 x8).f0.f11) ((rd_T25 x5 x8).f0.f12) ((rd_T25 x5 x8).f0.f13) ((rd_T25 x5 x8).f0.f14) ((rd_T25 x5 x8).f0.f15) ((rd_T25 x5 x8).f0.f16) ((rd_T25 x5 x8).f0.f17) ((rd_T25 x5 x8).f0.f18) ((rd_T25 x5 x8).f0.f19) ((rd_T25 x5 x8).f0.f20) ((rd_T25 x5 x8).f0.f21) ((rd_T25 x5 x8).f0.f22) ((rd_T25 x5 x8).f0.f23) ((rd_T25 x5 x8).f0.f24) ((rd_T25 x5 x8).f0.f25) ((rd_T25 x5 x8).f0.f26) ((rd_T25 x5 x8).f0.f27) ((rd_T25 x5 x8).f0.f28) ((rd_T25 x5 x8).f0.f29) ((rd_T25 x5 x8).f0.f30) ((rd_T25 x5 x8).f0.f31) ((rd_T25 x5 x8).f1)).bind fun t298 => (if t298 = true then (coraclelaw3_PointOrder.l0 k x0 x5 x6 x7 (wrap64 (x8 + 1))) else (some false))))) else (some false))) else (none)) else (none)) else (none)) else (if 0 ≤ x8 then ((point_Has.f k x0 ((rd_T25 x5 x8).f0.f0) ((rd_T25 x5 x8).f0.f1) ((rd_T25 x5 x8).f0.f2) ((rd_T25 x5 x8).f0.f3) ((rd_T25 x5 x8).f0.f4) ((rd_T25 x5 x8).f0.f5) ((rd_T25 x5 x8).f0.f6) ((rd_T25 x5 x8).f0.f7) ((rd_T25 x5 x8).f0.f8) ((rd_T25 x5 x8).f0.f9) ((rd_T25 x5 x8).f0.f10) ((rd_T25 x5 x8).f0.f11) ((rd_T25 x5 x8).f0.f12) ((rd_T25 x5 x8).f0.f13) ((rd_T25 x5 x8).f0.f14) ((rd_T25 x5 x8).f0.f15) ((rd_T25 x5 x8).f0.f16) ((rd_T25 x5 x8).f0.f17) ((rd_T25 x5 x8).f0.f18) ((rd_T25 x5 x8).f0.f19) ((rd_T25 x5 x8).f0.f20) ((rd_T25 x5 x8).f0.f21) ((rd_T25 x5 x8).f0.f22) ((rd_T25 x5 x8).f0.f23) ((rd_T25 x5 x8).f0.f24) ((rd_T25 x5 x8).f0.f25) ((rd_T25 x5 x8).f0.f26) ((rd_T25 x5 x8).f0.f27) ((rd_T25 x5 x8).f0.f28) ((rd_T25 x5 x8).f0.f29) ((rd_T25 x5 x8).f0.f30) ((rd_T25 x5 x8).f0.f31) ((rd_T25 x5 x8).f1)).bind fun t300 => (if t300 = true then (coraclelaw3_PointOrder.l0 k x0 x5 x6 x7 (wrap64 (x8 + 1))) else (some false))) else (none))) else (coraclelaw3_PointOrder.l1 k x0 x5 x6 x7 0)
def coraclelaw3_PointOrder.l1 : Nat → List (S25) → List (S25) → Int → List (S25) → Int → Option (Bool)
  | 0, _, _, _, _, _ => none
  | k + 1, x0, x5, x6, x7, x9 => if x9 < (x0.length : Int) then (if 0 ≤ x9 then ((point_Has.f k x5 ((rd_T25 x0 x9).f0.f0) ((rd_T25 x0 x9).f0.f1) ((rd_T25 x0 x9).f0.f2) ((rd_T25 x0 x9).f0.f3) ((rd_T25 x0 x9).f0.f4) ((rd_T25 x0 x9).f0.f5) ((rd_T25 x0 x9).f0.f6) ((rd_T25 x0 x9).f0.f7) ((rd_T25 x0 x9).f0.f8) ((rd_T25 x0 x9).f0.f9) ((rd_T25 x0 x9).f0.f10) ((rd_T25 x0 x9).f0.f11) ((rd_T25 x0 x9).f0.f12) ((rd_T25 x0 x9).f0.f13) ((rd_T25 x0 x9).f0.f14) ((rd_T25 x0 x9).f0.f15) ((rd_T25 x0 x9).f0.f16) ((rd_T25 x0 x9).f0.f17) ((rd_T25 x0 x9).f0.f18) ((rd_T25 x0 x9).f0.f19) ((rd_T25 x0 x9).f0.f20) ((rd_T25 x0 x9).f0.f21) ((rd_T25 x0 x9).f0.f22) ((rd_T25 x0 x9).f0.f23) ((rd_T25 x0 x9).f0.f24) ((rd_T25 x0 x9).f0.f25) ((rd_T25 x0 x9).f0.f26) ((rd_T25 x0 x9).f0.f27) ((rd_T25 x0 x9).f0.f28) ((rd_T25 x0 x9).f0.f29) ((rd_T25 x0 x9).f0.f30) ((rd_T25 x0 x9).f0.f31) ((rd_T25 x0 x9).f1)).bind fun t302 => (if t302 = true then (coraclelaw3_PointOrder.l1 k x0 x5 x6 x7 (wrap64 (x9 + 1))) else (some false))) else (none)) else ((coraclealike_Points.f k x5 x7).bind fun t303 => (if t303 = true then ((point_Minus.f k x0 x5).bind fun t304 => (if (t304.length : Int) = 0 then ((point_Both.f k x0 x5).bind fun t307 => ((coraclealike_Points.f k t307 x0).bind fun t310 => (if t310 = true then ((some (([] : List (S25)) : List (S25))).bind fun y311 => (if 0 ≤ x6 then (if x6 ≤ (x0.length : Int) then ((some (x0.drop (x6 : Int).toNat : List (S25))).bind fun y314 => (if y311.length + y314.length < 3518437208883 then ((some (y311 ++ y314 : List (S25))).bind fun y318 => ((some (x0.take (x6 : Int).toNat : List (S25))).bind fun y321 => (if y318.length + y321.length < 3518437208883 then ((point_Alike.f k x0 (y318 ++ y321)).bind fun t328 => (if t328 = true then (if 1 ≤ (x0.length : Int) then ((point_Alike.f k x0 (x0.drop 1)).bind fun t333 => (if t333 = true then (some false) else ((coraclelaw3_awake.f).bind fun t334 => (some t334)))) else (none)) else (some false))) else (none)))) else (none))) else (none)) else (none))) else (some false)))) else (some false))) else (some false)))
end
def coraclelaw3_PointOrder.f (k : Nat) (l0 : List (S25)) (a1 : Int) : Option (Bool) := if (l0.length : Int) = 0 then (coraclelaw3_PointOrder.j0 k l0 a1 true) else (coraclelaw3_PointOrder.j0 k l0 a1 (decide ((l0.length : Int) > 60)))
theorem coraclelaw3_PointOrder.mono_l : ∀ k, (∀ y0 y1 y2, LeO (coraclelaw3_PointOrder.j0 k y0 y1 y2) (coraclelaw3_PointOrder.j0 (k + 1) y0 y1 y2)) ∧ (∀ y0 y1 y2 y3 y4, LeO (coraclelaw3_PointOrder.l0 k y0 y1 y2 y3 y4) (coraclelaw3_PointOrder.l0 (k + 1) y0 y1 y2 y3 y4)) ∧ (∀ y0 y1 y2 y3 y4, LeO (coraclelaw3_PointOrder.l1 k y0 y1 y2 y3 y4) (coraclelaw3_PointOrder.l1 (k + 1) y0 y1 y2 y3 y4))
  | 0 => ⟨fun _ _ _ r h => by simp [coraclelaw3_PointOrder.j0] at h, fun _ _ _ _ _ r h => by simp [coraclelaw3_PointOrder.l0] at h, fun _ _ _ _ _ r h => by simp [coraclelaw3_PointOrder.l1] at h⟩
  | k + 1 => by
    obtain ⟨ih0, ih1, ih2⟩ := coraclelaw3_PointOrder.mono_l k
    refine ⟨?_, ?_, ?_⟩
    · intro y0 y1 y2
      unfold coraclelaw3_PointOrder.j0
      repeat' first
      | (with_reducible exact ih0 _ _ _)
      | (with_reducible exact ih1 _ _ _ _ _)
      | (with_reducible exact ih2 _ _ _ _ _)
      | (with_reducible exact coraclealike_Points.mono _ _ _)
      | (with_reducible exact point_Alike.mono _ _ _)
      | (with_reducible exact point_Both.mono _ _ _)
      | (with_reducible exact point_Has.mono _ _ _ _ _ _ _ _ _ _ _ _ _ _ _ _ _ _ _ _ _ _ _ _ _ _ _ _ _ _ _ _ _ _ _)
      | (with_reducible exact point_Minus.mono _ _ _)
      | (with_reducible exact LeO.refl _)
      | (with_reducible exact LeO.none _)
      | (with_reducible refine LeO.ite ?_ ?_)
      | (with_reducible refine LeO.bind ?_ (fun _ => ?_))
      | exact ih0 _ _ _
      | exact ih1 _ _ _ _ _
      | exact ih2 _ _ _ _ _
      | exact coraclealike_Points.mono _ _ _
      | exact point_Alike.mono _ _ _
      | exact point_Both.mono _ _ _
      | exact point_Has.mono _ _ _ _ _ _ _ _ _ _ _ _ _ _ _ _ _ _ _ _ _ _ _ _ _ _ _ _ _ _ _ _ _ _ _
      | exact point_Minus.mono _ _ _
      | exact LeO.none _
      | refine LeO.ite ?_ ?_
      | refine LeO.bind ?_ (fun _ => ?_)
    · intro y0 y1 y2 y3 y4
      unfold coraclelaw3_PointOrder.l0
      repeat' first
      | (with_reducible exact ih0 _ _ _)
      | (with_reducible exact ih1 _ _ _ _ _)
      | (with_reducible exact ih2 _ _ _ _ _)
      | (with_reducible exact coraclealike_Points.mono _ _ _)
      | (with_reducible exact point_Alike.mono _ _ _)
      | (with_reducible exact point_Both.mono _ _ _)
      | (with_reducible exact point_Has.mono _ _ _ _ _ _ _ _ _ _ _ _ _ _ _ _ _ _ _ _ _ _ _ _ _ _ _ _ _ _ _ _ _ _ _)
      | (with_reducible exact point_Minus.mono _ _ _)
      | (with_reducible exact LeO.refl _)
      | (with_reducible exact LeO.none _)
      | (with_reducible refine LeO.ite ?_ ?_)
      | (with_reducible refine LeO.bind ?_ (fun _ => ?_))
      | exact ih0 _ _ _
      | exact ih1 _ _ _ _ _
      | exact ih2 _ _ _ _ _
      | exact coraclealike_Points.mono _ _ _
      | exact point_Alike.mono _ _ _
      | exact point_Both.mono _ _ _
      | exact point_Has.mono _ _ _ _ _ _ _ _ _ _ _ _ _ _ _ _ _ _ _ _ _ _ _ _ _ _ _ _ _ _ _ _ _ _ _
      | exact point_Minus.mono _ _ _
      | exact LeO.none _
      | refine LeO.ite ?_ ?_
      | refine LeO.bind ?_ (fun _ => ?_)
    · intro y0 y1 y2 y3 y4
      unfold coraclelaw3_PointOrder.l1
      repeat' first
      | (with_reducible exact ih0 _ _ _)
      | (with_reducible exact ih1 _ _ _ _ _)
      | (with_reducible exact ih2 _ _ _ _ _)
      | (with_reducible exact coraclealike_Points.mono _ _ _)
      | (with_reducible exact point_Alike.mono _ _ _)
      | (with_reducible exact point_Both.mono _ _ _)
      | (with_reducible exact point_Has.mono _ _ _ _ _ _ _ _ _ _ _ _ _ _ _ _ _ _ _ _ _ _ _ _ _ _ _ _ _ _ _ _ _ _ _)
      | (with_reducible exact point_Minus.mono _ _ _)
      | (with_reducible exact LeO.refl _)
      | (with_reducible exact LeO.none _)
      | (with_reducible refine LeO.ite ?_ ?_)
      | (with_reducible refine LeO.bind ?_ (fun _ => ?_))
      | exact ih0 _ _ _
      | exact ih1 _ _ _ _ _
      | exact ih2 _ _ _ _ _
      | exact coraclealike_Points.mono _ _ _
      | exact point_Alike.mono _ _ _
      | exact point_Both.mono _ _ _
      | exact point_Has.mono _ _ _ _ _ _ _ _ _ _ _ _ _ _ _ _ _ _ _ _ _ _ _ _ _ _ _ _ _ _ _ _ _ _ _
      | exact point_Minus.mono _ _ _
      | exact LeO.none _
      | refine LeO.ite ?_ ?_
      | refine LeO.bind ?_ (fun _ => ?_)
theorem coraclelaw3_PointOrder.mono : ∀ a0 a1 k, LeO (coraclelaw3_PointOrder.f k a0 a1) (coraclelaw3_PointOrder.f (k + 1) a0 a1) := by
  intro a0 a1 k
  obtain ⟨ih0, ih1, ih2⟩ := coraclelaw3_PointOrder.mono_l k
  unfold coraclelaw3_PointOrder.f
  repeat' first
      | (with_reducible exact ih0 _ _ _)
      | (with_reducible exact ih1 _ _ _ _ _)
      | (with_reducible exact ih2 _ _ _ _ _)
      | (with_reducible exact coraclealike_Points.mono _ _ _)
      | (with_reducible exact point_Alike.mono _ _ _)
      | (with_reducible exact point_Both.mono _ _ _)
      | (with_reducible exact point_Has.mono _ _ _ _ _ _ _ _ _ _ _ _ _ _ _ _ _ _ _ _ _ _ _ _ _ _ _ _ _ _ _ _ _ _ _)
      | (with_reducible exact point_Minus.mono _ _ _)
      | (with_reducible exact LeO.refl _)
      | (with_reducible exact LeO.none _)
      | (with_reducible refine LeO.ite ?_ ?_)
      | (with_reducible refine LeO.bind ?_ (fun _ => ?_))
      | exact ih0 _ _ _
      | exact ih1 _ _ _ _ _
      | exact ih2 _ _ _ _ _
      | exact coraclealike_Points.mono _ _ _
      | exact point_Alike.mono _ _ _
      | exact point_Both.mono _ _ _
      | exact point_Has.mono _ _ _ _ _ _ _ _ _ _ _ _ _ _ _ _ _ _ _ _ _ _ _ _ _ _ _ _ _ _ _ _ _ _ _
      | exact point_Minus.mono _ _ _
      | exact LeO.none _
      | refine LeO.ite ?_ ?_
      | refine LeO.bind ?_ (fun _ => ?_)
def coraclelaw3_PointOrder.T5 : Bool × List (List Nat × List Nat) := (true, [([], []), ([], []), ([], []), ([1, 2], [1, 2]), ([0, 3], [0, 3]), ([], []), ([], []), ([5, 6], [5, 6]), ([4, 7, 4], [4, 7]), ([8, 8], [8]), ([9, 9, 0, 1, 2, 3, 4, 5, 6, 7, 8, 9], [9])])
def coraclelaw3_PointOrder.B5 : List Nat := [0, 0, 0, 6, 15, 0, 0, 96, 255, 511, 1023]
theorem coraclelaw3_PointOrder.tab5 : rtab .any (opsOf Tryd.f5 5) = coraclelaw3_PointOrder.T5 := by kernel_rfl
theorem coraclelaw3_PointOrder.bits5 : waitsOk coraclelaw3_PointOrder.T5.2 coraclelaw3_PointOrder.B5 = true := by kernel_rfl
def coraclelaw3_PointOrder.T9 : Bool × List (List Nat × List Nat) := (true, [([], []), ([0], [0]), ([1], [1]), ([2], [2]), ([2], [2]), ([4, 2], [2, 4]), ([3, 5, 2], [2, 3, 5]), ([6, 2], [2, 6]), ([2], [2]), ([2], [2]), ([8, 9, 2], [2, 8, 9]), ([10, 2], [2, 10]), ([7, 11, 2, 2], [2, 7, 11]), ([12, 2], [2, 12]), ([13, 12, 2], [2, 13]), ([14], [14]), ([14], [14]), ([15, 16, 14], [14, 15, 16]), ([17, 14], [14, 17]), ([14], [14]), ([14], [14]), ([20, 14], [14, 20]), ([19, 21, 14], [14, 19, 21]), ([22, 14], [14, 22]), ([18, 23, 14, 14], [14, 18, 23]), ([14, 24, 2], [2, 14, 24]), ([2, 25], [2, 25]), ([26, 24], [26]), ([27], [27]), ([27], [27]), ([27], [27]), ([29, 30, 27], [27, 29, 30]), ([31, 27], [27, 31]), ([28, 32, 27, 27], [27, 28, 32]), ([33, 27], [27, 33]), ([27, 34], [27, 34])])
def coraclelaw3_PointOrder.B9 : List Nat := [0, 1, 3, 7, 7, 23, 63, 127, 7, 7, 775, 1799, 4095, 8191, 16383, 32767, 32767, 131071, 262143, 32767, 32767, 1081343, 3702783, 7897087, 16777215, 33554431, 67108863, 134217727, 268435455, 268435455, 268435455, 1879048191, 4026531839, 8589934591, 17179869183, 34359738367]
theorem coraclelaw3_PointOrder.tab9 : rtab .any (opsOf Tryd.f5 9) = coraclelaw3_PointOrder.T9 := by kernel_rfl
theorem coraclelaw3_PointOrder.bits9 : waitsOk coraclelaw3_PointOrder.T9.2 coraclelaw3_PointOrder.B9 = true := by kernel_rfl
def coraclelaw3_PointOrder.T16 : Bool × List (List Nat × List Nat) := (true, [([], []), ([], []), ([0, 1], [0, 1]), ([2, 2], [2]), ([3], [3]), ([3], [3]), ([4, 5, 3, 3], [3, 4, 5]), ([6, 3], [3, 6]), ([7, 3], [3, 7]), ([3, 8], [3, 8]), ([9, 6], [9]), ([10], [10]), ([10], [10]), ([11, 12, 10, 10], [10, 11, 12]), ([10], [10]), ([13, 14, 13, 10], [10, 13, 14]), ([10, 15], [10, 15]), ([16, 15], [16]), ([17], [17]), ([17], [17]), ([17], [17]), ([17], [17]), ([20, 21, 17], [17, 20, 21]), ([19, 22, 17, 17], [17, 19, 22]), ([17], [17]), ([17], [17]), ([24, 25, 17], [17, 24, 25]), ([23, 26, 23, 17], [17, 23, 26]), ([18, 27, 27, 17], [17, 18, 27]), ([17, 28], [17, 28]), ([29, 28], [29]), ([30], [30]), ([30], [30]), ([32, 30], [30, 32]), ([31, 33, 30, 30], [30, 31, 33]), ([34, 30], [30, 34]), ([30, 35], [30, 35]), ([36, 34], [36]), ([37, 37], [37]), ([37, 38], [37, 38]), ([39, 38, 0, 1, 2, 3, 4, 5, 6, 7, 8, 9, 10, 11, 12, 13, 14, 15, 16, 17, 18, 19, 20, 21, 22, 23, 24, 25, 26, 27, 28, 29, 30, 31, 32, 33, 34, 35, 36, 37, 38, 39], [39])])
def coraclelaw3_PointOrder.B16 : List Nat := [0, 0, 3, 7, 15, 15, 63, 127, 255, 511, 1023, 2047, 2047, 8191, 2047, 32767, 65535, 131071, 262143, 262143, 262143, 262143, 3407871, 8126463, 262143, 262143, 50593791, 133955583, 268435455, 536870911, 1073741823, 2147483647, 2147483647, 6442450943, 17179869183, 34359738367, 68719476735, 137438953471, 274877906943, 549755813887, 1099511627775]
theorem coraclelaw3_PointOrder.tab16 : rtab .any (opsOf Tryd.f5 16) = coraclelaw3_PointOrder.T16 := by kernel_rfl
theorem coraclelaw3_PointOrder.bits16 : waitsOk coraclelaw3_PointOrder.T16.2 coraclelaw3_PointOrder.B16 = true := by kernel_rfl
end Go.Proofs.YtmoecidfmgeafaaDoor.QPnt
