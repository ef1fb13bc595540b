/- Functions of the program as plain Lean functions, and that its calls come to what these tell: written by a program of this session; Lean checks it. -/
import Derived.Test.YtmoecidfmgeafaaDoorQPntx0
import Derived.Test.YtmoecidfmgeafaaDoorQPntx2
import Derived.Test.YtmoecidfmgeafaaDoorQPntx5
import Derived.Test.YtmoecidfmgeafaaDoorSrt9
namespace Go.Proofs.YtmoecidfmgeafaaDoor.QPnt
open Go.RowKit Go.Proofs.YtmoecidfmgeafaaDoorW.PrintWords Go.Proofs.YtmoecidfmgeafaaDoorW.PrintLast Go.Proofs.YtmoecidfmgeafaaDoorW.PrintMore
attribute [local go_sem] max2_int min2_int max_two min_two max_three min_three max_four min_four  run_fop run_feq run_fne run_flt run_fle run_fgt run_fge run_fint run_toi run_real' run_imag' run_complex' run_ceq run_cne run_cadd run_csub run_cmul Go.Proofs.YtmoecidfmgeafaaDoor.Wide.cellsAt_drewN Go.Proofs.YtmoecidfmgeafaaDoor.Wide.cellsAt_drew Go.Proofs.YtmoecidfmgeafaaDoor.Wide.lw32 Go.Proofs.YtmoecidfmgeafaaDoor.Wide.lw33
attribute [local go_sem ↓ high] Go.Proofs.YtmoecidfmgeafaaDoor.Wide.hv32 Go.Proofs.YtmoecidfmgeafaaDoor.Wide.hv33
set_option linter.unusedVariables false
set_option linter.unusedSimpArgs false

attribute [local go_sem high] eqA25
/-! ### coracleref1_Sorted: function 15 -/
mutual
def coracleref1_Sorted.l0 : Nat → List (S25) → List (S25) → Int → Option ((List (S25)))
  | 0, _, _, _ => none
  | k + 1, x0, x3, x4 => if x4 < (x0.length : Int) then (coracleref1_Sorted.l1 k x0 x3 x4 (x3.length : Int)) else (some x3)
def coracleref1_Sorted.l1 : Nat → List (S25) → List (S25) → Int → Int → Option ((List (S25)))
  | 0, _, _, _, _ => none
  | k + 1, x0, x3, x4, x5 => if x5 > 0 then (if 0 ≤ x4 then (if x4 < (x0.length : Int) then (if 0 ≤ (wrap64 (x5 - 1)) then (if (wrap64 (x5 - 1)) < (x3.length : Int) then ((coracleref1_PointLess.f ((rd_T25 x0 x4).f0.f0) ((rd_T25 x0 x4).f0.f1) ((rd_T25 x0 x4).f0.f2) ((rd_T25 x0 x4).f0.f3) ((rd_T25 x0 x4).f0.f4) ((rd_T25 x0 x4).f0.f5) ((rd_T25 x0 x4).f0.f6) ((rd_T25 x0 x4).f0.f7) ((rd_T25 x0 x4).f0.f8) ((rd_T25 x0 x4).f0.f9) ((rd_T25 x0 x4).f0.f10) ((rd_T25 x0 x4).f0.f11) ((rd_T25 x0 x4).f0.f12) ((rd_T25 x0 x4).f0.f13) ((rd_T25 x0 x4).f0.f14) ((rd_T25 x0 x4).f0.f15) ((rd_T25 x0 x4).f0.f16) ((rd_T25 x0 x4).f0.f17) ((rd_T25 x0 x4).f0.f18) ((rd_T25 x0 x4).f0.f19) ((rd_T25 x0 x4).f0.f20) ((rd_T25 x0 x4).f0.f21) ((rd_T25 x0 x4).f0.f22) ((rd_T25 x0 x4).f0.f23) ((rd_T25 x0 x4).f0.f24) ((rd_T25 x0 x4).f0.f25) ((rd_T25 x0 x4).f0.f26) ((rd_T25 x0 x4).f0.f27) ((rd_T25 x0 x4).f0.f28) ((rd_T25 x0 x4).f0.f29) ((rd_T25 x0 x4).f0.f30) ((rd_T25 x0 x4).f0.f31) ((rd_T25 x0 x4).f1) ((rd_T25 x3 (wrap64 (x5 - 1))).f0.f0) ((rd_T25 x3 (wrap64 (x5 - 1))).f0.f1) ((rd_T25 x3 (wrap64 (x5 - 1))).f0.f2) ((rd_T25 x3 (wrap64 (x5 - 1))).f0.f3) ((rd_T25 x3 (wrap64 (x5 - 1))).f0.f4) ((rd_T25 x3 (wrap64 (x5 - 1))).f0.f5) ((rd_T25 x3 (wrap64 (x5 - 1))).f0.f6) ((rd_T25 x3 (wrap64 (x5 - 1))).f0.f7) ((rd_T25 x3 (wrap64 (x5 - 1))).f0.f8) ((rd_T25 x3 (wrap64 (x5 - 1))).f0.f9) ((rd_T25 x3 (wrap64 (x5 - 1))).f0.f10) ((rd_T25 x3 (wrap64 (x5 - 1))).f0.f11) ((rd_T25 x3 (wrap64 (x5 - 1))).f0.f12) ((rd_T25 x3 (wrap64 (x5 - 1))).f0.f13) ((rd_T25 x3 (wrap64 (x5 - 1))).f0.f14) ((rd_T25 x3 (wrap64 (x5 - 1))).f0.f15) ((rd_T25 x3 (wrap64 (x5 - 1))).f0.f16) ((rd_T25 x3 (wrap64 (x5 - 1))).f0.f17) ((rd_T25 x3 (wrap64 (x5 - 1))).f0.f18) ((rd_T25 x3 (wrap64 (x5 - 1))).f0.f19) ((rd_T25 x3 (wrap64 (x5 - 1))).f0.f20) ((rd_T25 x3 (wrap64 (x5 - 1))).f0.f21) ((rd_T25 x3 (wrap64 (x5 - 1))).f0.f22) ((rd_T25 x3 (wrap64 (x5 - 1))).f0.f23) ((rd_T25 x3 (wrap64 (x5 - 1))).f0.f24) ((rd_T25 x3 (wrap64 (x5 - 1))).f0.f25) ((rd_T25 x3 (wrap64 (x5 - 1))).f0.f26) ((rd_T25 x3 (wrap64 (x5 - 1))).f0.f27) ((rd_T25 x3 (wrap64 (x5 - 1))).f0.f28) ((rd_T25 x3 (wrap64 (x5 - 1))).f0.f29) ((rd_T25 x3 (wrap64 (x5 - 1))).f0.f30) ((rd_T25 x3 (wrap64 (x5 - 1))).f0.f31) ((rd_T25 x3 (wrap64 (x5 - 1))).f1)).bind fun t133 => (coracleref1_Sorted.j2 k x0 x3 x4 x5 t133)) else (none)) else (none)) else (none)) else (none)) else (coracleref1_Sorted.j2 k x0 x3 x4 x5 false)
def coracleref1_Sorted.j2 : Nat → List (S25) → List (S25) → Int → Int → Bool → Option ((List (S25)))
  | 0, _, _, _, _, _ => none
  | k + 1, x0, x3, x4, x5, x27 => if x27 = true then (coracleref1_Sorted.l1 k x0 x3 x4 (wrap64 (x5 - 1))) else (if x5 = 0 then ((some (([] : List (S25)) : List (S25))).bind fun y134 => (if 0 ≤ x5 then (if x5 ≤ (x3.length : Int) then ((some (x3.take (x5 : Int).toNat : List (S25))).bind fun y137 => (if y134.length + y137.length < 3518437208883 then ((some (y134 ++ y137 : List (S25))).bind fun y141 => (if 0 ≤ x4 then (if x4 < (x0.length : Int) then (if y141.length < 3518437208883 then ((some (y141 ++ [(⟨(⟨(rd_T25 x0 x4).f0.f0, (rd_T25 x0 x4).f0.f1, (rd_T25 x0 x4).f0.f2, (rd_T25 x0 x4).f0.f3, (rd_T25 x0 x4).f0.f4, (rd_T25 x0 x4).f0.f5, (rd_T25 x0 x4).f0.f6, (rd_T25 x0 x4).f0.f7, (rd_T25 x0 x4).f0.f8, (rd_T25 x0 x4).f0.f9, (rd_T25 x0 x4).f0.f10, (rd_T25 x0 x4).f0.f11, (rd_T25 x0 x4).f0.f12, (rd_T25 x0 x4).f0.f13, (rd_T25 x0 x4).f0.f14, (rd_T25 x0 x4).f0.f15, (rd_T25 x0 x4).f0.f16, (rd_T25 x0 x4).f0.f17, (rd_T25 x0 x4).f0.f18, (rd_T25 x0 x4).f0.f19, (rd_T25 x0 x4).f0.f20, (rd_T25 x0 x4).f0.f21, (rd_T25 x0 x4).f0.f22, (rd_T25 x0 x4).f0.f23, (rd_T25 x0 x4).f0.f24, (rd_T25 x0 x4).f0.f25, (rd_T25 x0 x4).f0.f26, (rd_T25 x0 x4).f0.f27, (rd_T25 x0 x4).f0.f28, (rd_T25 x0 x4).f0.f29, (rd_T25 x0 x4).f0.f30, (rd_T25 x0 x4).f0.f31⟩ : S23), (rd_T25 x0 x4).f1⟩ : S25)] : List (S25))).bind fun y145 => ((some (x3.drop (x5 : Int).toNat : List (S25))).bind fun y148 => (if y145.length + y148.length < 3518437208883 then (coracleref1_Sorted.l0 k x0 (y145 ++ y148) (wrap64 (x4 + 1))) else (none)))) else (none)) else (none)) else (none))) else (none))) else (none)) else (none))) else (if 0 ≤ (wrap64 (x5 - 1)) then (if (wrap64 (x5 - 1)) < (x3.length : Int) then (if 0 ≤ x4 then (if x4 < (x0.length : Int) then (if ((!(((rd_T25 x3 (wrap64 (x5 - 1))).f0.f0) == ((rd_T25 x0 x4).f0.f0)) || (!(((rd_T25 x3 (wrap64 (x5 - 1))).f0.f1) == ((rd_T25 x0 x4).f0.f1)) || (!(((rd_T25 x3 (wrap64 (x5 - 1))).f0.f2) == ((rd_T25 x0 x4).f0.f2)) || (!(((rd_T25 x3 (wrap64 (x5 - 1))).f0.f3) == ((rd_T25 x0 x4).f0.f3)) || (!(((rd_T25 x3 (wrap64 (x5 - 1))).f0.f4) == ((rd_T25 x0 x4).f0.f4)) || (!(((rd_T25 x3 (wrap64 (x5 - 1))).f0.f5) == ((rd_T25 x0 x4).f0.f5)) || (!(((rd_T25 x3 (wrap64 (x5 - 1))).f0.f6) == ((rd_T25 x0 x4).f0.f6)) || (!(((rd_T25 x3 (wrap64 (x5 - 1))).f0.f7) == ((rd_T25 x0 x4).f0.f7)) || (!(((rd_T25 x3 (wrap64 (x5 - 1))).f0.f8) == ((rd_T25 x0 x4).f0.f8)) || (!(((rd_T25 x3 (wrap64 (x5 - 1))).f0.f9) == ((rd_T25 x0 x4).f0.f9)) || (!(((rd_T25 x3 (wrap64 (x5 - 1))).f0.f10) == ((rd_T25 x0 x4).f0.f10)) || (!(((rd_T25 x3 (wrap64 (x5 - 1))).f0.f11) == ((rd_T25 x0 x4).f0.f11)) || (!(((rd_T25 x3 (wrap64 (x5 - 1))).f0.f12) == ((rd_T25 x0 x4).f0.f12)) || (!(((rd_T25 x3 (wrap64 (x5 - 1))).f0.f13) == ((rd_T25 x0 x4).f0.f13)) || (!(((rd_T25 x3 (wrap64 (x5 - 1))).f0.f14) == ((rd_T25 x0 x4).f0.f14)) || (!(((rd_T25 x3 (wrap64 (x5 - 1))).f0.f15) == ((rd_T25 x0 x4).f0.f15)) || (!(((rd_T25 x3 (wrap64 (x5 - 1))).f0.f16) == ((rd_T25 x0 x4).f0.f16)) || (!(((rd_T25 x3 (wrap64 (x5 - 1))).f0.f17) == ((rd_T25 x0 x4).f0.f17)) || (!(((rd_T25 x3 (wrap64 (x5 - 1))).f0.f18) == ((rd_T25 x0 x4).f0.f18)) || (!(((rd_T25 x3 (wrap64 (x5 - 1))).f0.f19) == ((rd_T25 x0 x4).f0.f19)) || (!(((rd_T25 x3 (wrap64 (x5 - 1))).f0.f20) == ((rd_T25 x0 x4).f0.f20)) || (!(((rd_T25 x3 (wrap64 (x5 - 1))).f0.f21) == ((rd_T25 x0 x4).f0.f21)) || (!(((rd_T25 x3 (wrap64 (x5 - 1))).f0.f22) == ((rd_T25 x0 x4).f0.f22)) || (!(((rd_T25 x3 (wrap64 (x5 - 1))).f0.f23) == ((rd_T25 x0 x4).f0.f23)) || (!(((rd_T25 x3 (wrap64 (x5 - 1))).f0.f24) == ((rd_T25 x0 x4).f0.f24)) || (!(((rd_T25 x3 (wrap64 (x5 - 1))).f0.f25) == ((rd_T25 x0 x4).f0.f25)) || (!(((rd_T25 x3 (wrap64 (x5 - 1))).f0.f26) == ((rd_T25 x0 x4).f0.f26)) || (!(((rd_T25 x3 (wrap64 (x5 - 1))).f0.f27) == ((rd_T25 x0 x4).f0.f27)) || (!(((rd_T25 x3 (wrap64 (x5 - 1))).f0.f28) == ((rd_T25 x0 x4).f0.f28)) || (!(((rd_T25 x3 (wrap64 (x5 - 1))).f0.f29) == ((rd_T25 x0 x4).f0.f29)) || (!(((rd_T25 x3 (wrap64 (x5 - 1))).f0.f30) == ((rd_T25 x0 x4).f0.f30)) || (!(((rd_T25 x3 (wrap64 (x5 - 1))).f0.f31) == ((rd_T25 x0 x4).f0.f31)))))))))))))))))))))))))))))))))) || (!(((rd_T25 x3 (wrap64 (x5 - 1))).f1) == ((rd_T25 x0 x4).f1)))) = true then ((some (([] : List (S25)) : List (S25))).bind fun y157 => (if 0 ≤ x5 then (if x5 ≤ (x3.length : Int) then ((some (x3.take (x5 : Int).toNat : List (S25))).bind fun y160 => (if y157.length + y160.length < 3518437208883 then ((some (y157 ++ y160 : List (S25))).bind fun y164 => (if y164.length < 3518437208883 then ((some (y164 ++ [(⟨(⟨(rd_T25 x0 x4).f0.f0, (rd_T25 x0 x4).f0.f1, (rd_T25 x0 x4).f0.f2, (rd_T25 x0 x4).f0.f3, (rd_T25 x0 x4).f0.f4, (rd_T25 x0 x4).f0.f5, (rd_T25 x0 x4).f0.f6, (rd_T25 x0 x4).f0.f7, (rd_T25 x0 x4).f0.f8, (rd_T25 x0 x4).f0.f9, (rd_T25 x0 x4).f0.f10, (rd_T25 x0 x4).f0.f11, (rd_T25 x0 x4).f0.f12, (rd_T25 x0 x4).f0.f13, (rd_T25 x0 x4).f0.f14, (rd_T25 x0 x4).f0.f15, (rd_T25 x0 x4).f0.f16, (rd_T25 x0 x4).f0.f17, (rd_T25 x0 x4).f0.f18, (rd_T25 x0 x4).f0.f19, (rd_T25 x0 x4).f0.f20, (rd_T25 x0 x4).f0.f21, (rd_T25 x0 x4).f0.f22, (rd_T25 x0 x4).f0.f23, (rd_T25 x0 x4).f0.f24, (rd_T25 x0 x4).f0.f25, (rd_T25 x0 x4).f0.f26, (rd_T25 x0 x4).f0.f27, (rd_T25 x0 x4).f0.f28, (rd_T25 x0 x4).f0.f29, (rd_T25 x0 x4).f0.f30, (rd_T25 x0 x4).f0.f31⟩ : S23), (rd_T25 x0 x4).f1⟩ : S25)] : List (S25))).bind fun y168 => ((some (x3.drop (x5 : Int).toNat : List (S25))).bind fun y171 => (if y168.length + y171.length < 3518437208883 then (coracleref1_Sorted.l0 k x0 (y168 ++ y171) (wrap64 (x4 + 1))) else (none)))) else (none))) else (none))) else (none)) else (none))) else (coracleref1_Sorted.l0 k x0 x3 (wrap64 (x4 + 1)))) else (none)) else (none)) else (none)) else (none)))
end
def coracleref1_Sorted.f (k : Nat) (l0 : List (S25)) : Option ((List (S25))) := coracleref1_Sorted.l0 k l0 ([] : List (S25)) 0
theorem coracleref1_Sorted.mono_l : ∀ k, (∀ y0 y1 y2, LeO (coracleref1_Sorted.l0 k y0 y1 y2) (coracleref1_Sorted.l0 (k + 1) y0 y1 y2)) ∧ (∀ y0 y1 y2 y3, LeO (coracleref1_Sorted.l1 k y0 y1 y2 y3) (coracleref1_Sorted.l1 (k + 1) y0 y1 y2 y3)) ∧ (∀ y0 y1 y2 y3 y4, LeO (coracleref1_Sorted.j2 k y0 y1 y2 y3 y4) (coracleref1_Sorted.j2 (k + 1) y0 y1 y2 y3 y4))
  | 0 => ⟨fun _ _ _ r h => by simp [coracleref1_Sorted.l0] at h, fun _ _ _ _ r h => by simp [coracleref1_Sorted.l1] at h, fun _ _ _ _ _ r h => by simp [coracleref1_Sorted.j2] at h⟩
  | k + 1 => by
    obtain ⟨ih0, ih1, ih2⟩ := coracleref1_Sorted.mono_l k
    refine ⟨?_, ?_, ?_⟩
    · intro y0 y1 y2
      unfold coracleref1_Sorted.l0
      repeat' first
      | (with_reducible exact ih0 _ _ _)
      | (with_reducible exact ih1 _ _ _ _)
      | (with_reducible exact ih2 _ _ _ _ _)
      | (with_reducible exact LeO.refl _)
      | (with_reducible exact LeO.none _)
      | (with_reducible refine LeO.ite ?_ ?_)
      | (with_reducible refine LeO.bind ?_ (fun _ => ?_))
      | exact ih0 _ _ _
      | exact ih1 _ _ _ _
      | exact ih2 _ _ _ _ _
      | exact LeO.none _
      | refine LeO.ite ?_ ?_
      | refine LeO.bind ?_ (fun _ => ?_)
    · intro y0 y1 y2 y3
      unfold coracleref1_Sorted.l1
      repeat' first
      | (with_reducible exact ih0 _ _ _)
      | (with_reducible exact ih1 _ _ _ _)
      | (with_reducible exact ih2 _ _ _ _ _)
      | (with_reducible exact LeO.refl _)
      | (with_reducible exact LeO.none _)
      | (with_reducible refine LeO.ite ?_ ?_)
      | (with_reducible refine LeO.bind ?_ (fun _ => ?_))
      | exact ih0 _ _ _
      | exact ih1 _ _ _ _
      | exact ih2 _ _ _ _ _
      | exact LeO.none _
      | refine LeO.ite ?_ ?_
      | refine LeO.bind ?_ (fun _ => ?_)
    · intro y0 y1 y2 y3 y4
      unfold coracleref1_Sorted.j2
      repeat' first
      | (with_reducible exact ih0 _ _ _)
      | (with_reducible exact ih1 _ _ _ _)
      | (with_reducible exact ih2 _ _ _ _ _)
      | (with_reducible exact LeO.refl _)
      | (with_reducible exact LeO.none _)
      | (with_reducible refine LeO.ite ?_ ?_)
      | (with_reducible refine LeO.bind ?_ (fun _ => ?_))
      | exact ih0 _ _ _
      | exact ih1 _ _ _ _
      | exact ih2 _ _ _ _ _
      | exact LeO.none _
      | refine LeO.ite ?_ ?_
      | refine LeO.bind ?_ (fun _ => ?_)
theorem coracleref1_Sorted.mono : ∀ a0 k, LeO (coracleref1_Sorted.f k a0) (coracleref1_Sorted.f (k + 1) a0) := by
  intro a0 k
  obtain ⟨ih0, ih1, ih2⟩ := coracleref1_Sorted.mono_l k
  unfold coracleref1_Sorted.f
  repeat' first
      | (with_reducible exact ih0 _ _ _)
      | (with_reducible exact ih1 _ _ _ _)
      | (with_reducible exact ih2 _ _ _ _ _)
      | (with_reducible exact LeO.refl _)
      | (with_reducible exact LeO.none _)
      | (with_reducible refine LeO.ite ?_ ?_)
      | (with_reducible refine LeO.bind ?_ (fun _ => ?_))
      | exact ih0 _ _ _
      | exact ih1 _ _ _ _
      | exact ih2 _ _ _ _ _
      | exact LeO.none _
      | refine LeO.ite ?_ ?_
      | refine LeO.bind ?_ (fun _ => ?_)
def coracleref1_Sorted.T6 : Bool × List (List Nat × List Nat) := (true, [([], []), ([0], [0]), ([1], [1]), ([2], [2]), ([2], [2]), ([3, 4, 2], [2, 3, 4]), ([5, 2], [2, 5]), ([2], [2]), ([2], [2]), ([8, 2], [2, 8]), ([7, 9, 2], [2, 7, 9]), ([10, 2], [2, 10]), ([6, 11, 2, 2], [2, 6, 11]), ([2, 12], [2, 12])])
def coracleref1_Sorted.B6 : List Nat := [0, 1, 3, 7, 7, 31, 63, 7, 7, 263, 903, 1927, 4095, 8191]
theorem coracleref1_Sorted.tab6 : rtab .any (opsOf Tryd.f15 6) = coracleref1_Sorted.T6 := by kernel_rfl
theorem coracleref1_Sorted.bits6 : waitsOk coracleref1_Sorted.T6.2 coracleref1_Sorted.B6 = true := by kernel_rfl
def coracleref1_Sorted.T8 : Bool × List (List Nat × List Nat) := (true, [([], []), ([0], [0]), ([1], [1]), ([2], [2]), ([2], [2]), ([4, 2], [2, 4]), ([3, 5, 2], [2, 3, 5]), ([6, 2], [2, 6]), ([2], [2]), ([2], [2]), ([8, 9, 2], [2, 8, 9]), ([10, 2], [2, 10]), ([7, 11, 2], [2, 7, 11]), ([2, 12], [2, 12])])
def coracleref1_Sorted.B8 : List Nat := [0, 1, 3, 7, 7, 23, 63, 127, 7, 7, 775, 1799, 4095, 8191]
theorem coracleref1_Sorted.tab8 : rtab .any (opsOf Tryd.f15 8) = coracleref1_Sorted.T8 := by kernel_rfl
theorem coracleref1_Sorted.bits8 : waitsOk coracleref1_Sorted.T8.2 coracleref1_Sorted.B8 = true := by kernel_rfl
set_option maxHeartbeats 8000000 in
set_option maxRecDepth 100000 in
theorem coracleref1_Sorted.calls (k : Nat) (A0 : Option Addr) (c0 : Nat) (l0 : List (S25)) (r : List (S25)) (w : World) (hr0 : Kd.C k25 w A0 l0.length l0) (hc0 : l0.length ≤ c0) (h : coracleref1_Sorted.f k l0 = some r) :
    Calls Tryd.prog 15 #[.slice A0 l0.length c0] w fun e w' => ∃ v0_ : Value, e = .returned (v0_) ∧ Kd.R k25 25 w' w.heap.size (fun _ => True) v0_ r ∧ Below w.heap.size w w' := by
  have hu25 := Tryd.underlying25
  have HR0 := Aside0.mk hr0
  have HC0 := Aside0.mk hc0
  clear hr0 hc0
  have HB := Aside0.mk (Below.refl w.heap.size w)
  have H : (coracleref1_Sorted.l0 k l0 ([] : List (S25)) 0) = some r := h
  clear h
  have H' := Aside0.mk H
  clear H
  go_enter Tryd.func15, Tryd.ntmps15
  go_wp2
  go_loopg [3, 4] k (fun kq v3 v4 w' => ∃ (x3_1 : List (S25)) (x4_1 : Int), v4 = .int .i64 x4_1 ∧ Aside0 (coracleref1_Sorted.l0 kq l0 x3_1 x4_1 = some r) ∧ Aside0 (kq ≤ k) ∧ Aside0 (Kd.R k25 25 w' w.heap.size (fun _ => True) v3 x3_1) ∧ Aside0 (Below w.heap.size w w'))
  case atStart => exact ⟨(([] : List (S25))), (0), (by first | rfl | (simp; done) | (simp [*]; done)), H', ⟨Nat.le_refl _⟩, ⟨by first | exact Kd.R_nil _ _ _ _ _ | exact Kd.N_nil _ _ _ _ _ | exact Kd.V_nil _ _ _ _ _ | exact Kd.Q_nil _ _ _ _ _ | exact Kd.S_nil _ _ _ _ _⟩, ⟨by repeat (first | (with_reducible first | exact HB.out | apply below_alloc | apply pw_below_drewN | apply below_drew1) | exact HB.out)⟩⟩
  case round =>
    clear H'
    try clear c1
    obtain ⟨x3_1, x4_1, rfl, HA, HK1, HO_3, HB⟩ := hrel
    cases gk with
    | zero => exact absurd HA.out (by simp [coracleref1_Sorted.l0])
    | succ k1 =>
      have H := HA.out
      clear HA
      simp only [coracleref1_Sorted.l0] at H
      by_cases c2 : x4_1 < (l0.length : Int)
      · rw [if_pos c2] at H
        have c2b0 : decide (x4_1 < (l0.length : Int)) = true := decide_eq_true c2
        clear c2
        have H' := Aside0.mk H
        clear H
        obtain ⟨Ao3, co3, eo3⟩ := Kd.R_slice HO_3.out
        subst eo3
        go_wp2
        go_loopg [5] k1 (fun kq v5 w' => ∃ (x5_2 : Int), v5 = .int .i64 x5_2 ∧ Aside0 (coracleref1_Sorted.l1 kq l0 x3_1 x4_1 x5_2 = some r) ∧ Aside0 (kq ≤ k1) ∧ Aside0 (Kd.R k25 25 w' w.heap.size (fun _ => True) (.slice Ao3 x3_1.length co3) x3_1) ∧ Aside0 (Below w.heap.size w w'))
        case atStart => exact ⟨((x3_1.length : Int)), (by first | rfl | (simp; done) | (simp [*]; done)), H', ⟨Nat.le_refl _⟩, ⟨by (with_reducible repeat (first | apply Kd.R_alloc | apply Kd.R_drewN | apply Kd.R_drew)); exact HO_3.out⟩, ⟨by repeat (first | (with_reducible first | exact HB.out | apply below_alloc | apply pw_below_drewN | apply below_drew1) | exact HB.out)⟩⟩
        case round =>
          clear H'
          try clear c1
          try clear c2
          try clear c2b0
          try clear p2
          obtain ⟨x5_2, rfl, HA, HK2, HO_3, HB⟩ := hrel
          cases gk with
          | zero => exact absurd HA.out (by simp [coracleref1_Sorted.l1])
          | succ k2 =>
            have H := HA.out
            clear HA
            simp only [coracleref1_Sorted.l1] at H
            have HC4 := Aside0.mk H
            clear H
            go_upto_region 6 with (fail)
            go_cut [27] (fun v27 wc => ∃ (kq : Nat) (x27_3 : Bool), v27 = .bool x27_3 ∧ Aside0 (coracleref1_Sorted.j2 kq l0 x3_1 x4_1 x5_2 x27_3 = some r) ∧ Aside0 (kq ≤ k2) ∧ Aside0 (Kd.R k25 25 wc w.heap.size (fun _ => True) (.slice Ao3 x3_1.length co3) x3_1) ∧ Aside0 (Below w.heap.size w wc))
            case first =>
              have H := HC4.out
              clear HC4
              by_cases c5 : x5_2 > 0
              · rw [if_pos c5] at H
                have c5b0 : decide (0 < x5_2) = true := decide_eq_true c5
                clear c5
                (first | rw [c5b0] | (simp only [i64_w, i32_w]; rw [c5b0]) | skip)
                by_cases c6 : 0 ≤ x4_1
                · rw [if_pos c6] at H
                  have c6b0 : decide (0 ≤ x4_1) = true := decide_eq_true c6
                  clear c6
                  by_cases c7 : x4_1 < (l0.length : Int)
                  · rw [if_pos c7] at H
                    have c7b0 : decide (x4_1 < (l0.length : Int)) = true := decide_eq_true c7
                    clear c7
                    obtain ⟨ji8, hji8⟩ : ∃ j_ : Int, (wrap64 (x5_2 - 1)) = j_ := ⟨_, rfl⟩
                    replace H : (if 0 ≤ (ji8) then (if (ji8) < (x3_1.length : Int) then ((coracleref1_PointLess.f ((rd_T25 l0 x4_1).f0.f0) ((rd_T25 l0 x4_1).f0.f1) ((rd_T25 l0 x4_1).f0.f2) ((rd_T25 l0 x4_1).f0.f3) ((rd_T25 l0 x4_1).f0.f4) ((rd_T25 l0 x4_1).f0.f5) ((rd_T25 l0 x4_1).f0.f6) ((rd_T25 l0 x4_1).f0.f7) ((rd_T25 l0 x4_1).f0.f8) ((rd_T25 l0 x4_1).f0.f9) ((rd_T25 l0 x4_1).f0.f10) ((rd_T25 l0 x4_1).f0.f11) ((rd_T25 l0 x4_1).f0.f12) ((rd_T25 l0 x4_1).f0.f13) ((rd_T25 l0 x4_1).f0.f14) ((rd_T25 l0 x4_1).f0.f15) ((rd_T25 l0 x4_1).f0.f16) ((rd_T25 l0 x4_1).f0.f17) ((rd_T25 l0 x4_1).f0.f18) ((rd_T25 l0 x4_1).f0.f19) ((rd_T25 l0 x4_1).f0.f20) ((rd_T25 l0 x4_1).f0.f21) ((rd_T25 l0 x4_1).f0.f22) ((rd_T25 l0 x4_1).f0.f23) ((rd_T25 l0 x4_1).f0.f24) ((rd_T25 l0 x4_1).f0.f25) ((rd_T25 l0 x4_1).f0.f26) ((rd_T25 l0 x4_1).f0.f27) ((rd_T25 l0 x4_1).f0.f28) ((rd_T25 l0 x4_1).f0.f29) ((rd_T25 l0 x4_1).f0.f30) ((rd_T25 l0 x4_1).f0.f31) ((rd_T25 l0 x4_1).f1) ((rd_T25 x3_1 (ji8)).f0.f0) ((rd_T25 x3_1 (ji8)).f0.f1) ((rd_T25 x3_1 (ji8)).f0.f2) ((rd_T25 x3_1 (ji8)).f0.f3) ((rd_T25 x3_1 (ji8)).f0.f4) ((rd_T25 x3_1 (ji8)).f0.f5) ((rd_T25 x3_1 (ji8)).f0.f6) ((rd_T25 x3_1 (ji8)).f0.f7) ((rd_T25 x3_1 (ji8)).f0.f8) ((rd_T25 x3_1 (ji8)).f0.f9) ((rd_T25 x3_1 (ji8)).f0.f10) ((rd_T25 x3_1 (ji8)).f0.f11) ((rd_T25 x3_1 (ji8)).f0.f12) ((rd_T25 x3_1 (ji8)).f0.f13) ((rd_T25 x3_1 (ji8)).f0.f14) ((rd_T25 x3_1 (ji8)).f0.f15) ((rd_T25 x3_1 (ji8)).f0.f16) ((rd_T25 x3_1 (ji8)).f0.f17) ((rd_T25 x3_1 (ji8)).f0.f18) ((rd_T25 x3_1 (ji8)).f0.f19) ((rd_T25 x3_1 (ji8)).f0.f20) ((rd_T25 x3_1 (ji8)).f0.f21) ((rd_T25 x3_1 (ji8)).f0.f22) ((rd_T25 x3_1 (ji8)).f0.f23) ((rd_T25 x3_1 (ji8)).f0.f24) ((rd_T25 x3_1 (ji8)).f0.f25) ((rd_T25 x3_1 (ji8)).f0.f26) ((rd_T25 x3_1 (ji8)).f0.f27) ((rd_T25 x3_1 (ji8)).f0.f28) ((rd_T25 x3_1 (ji8)).f0.f29) ((rd_T25 x3_1 (ji8)).f0.f30) ((rd_T25 x3_1 (ji8)).f0.f31) ((rd_T25 x3_1 (ji8)).f1)).bind fun t133 => (coracleref1_Sorted.j2 k2 l0 x3_1 x4_1 x5_2 t133)) else (none)) else (none)) = some r := by first | (rw [hji8] at H; exact H) | (simp only [hji8] at H ⊢; exact H)
                    have hji8w : (IntKind.i64.wrap (x5_2 - 1)) = ji8 := (i64_w _).trans hji8
                    by_cases c9 : 0 ≤ (ji8)
                    · rw [if_pos c9] at H
                      have c9b0 : decide (0 ≤ (ji8)) = true := decide_eq_true c9
                      clear c9
                      by_cases c10 : (ji8) < (x3_1.length : Int)
                      · rw [if_pos c10] at H
                        have c10b0 : decide ((ji8) < (x3_1.length : Int)) = true := decide_eq_true c10
                        clear c10
                        replace H := Option.bind_eq_some_iff.mp H
                        obtain ⟨t133, A110, H⟩ := H
                        replace H : (coracleref1_Sorted.j2 k2 l0 x3_1 x4_1 x5_2 t133) = some r := H
                        have A11 := Aside0.mk A110
                        clear A110
                        have H' := Aside0.mk H
                        clear H
                        try go_wp2
                        have n0_ := Aside0.mk (Kd.R_drew HO_3.out)
                        have n1_ := Aside0.mk (below_drew1 HB.out)
                        clear HO_3
                        clear HB
                        have HO_3 := n0_
                        have HB := n1_
                        clear n0_ n1_
                        have p131 : 0 ≤ (x4_1 : Int) := of_decide_eq_true (by first | (with_reducible assumption) | assumption)
                        have q131 : x4_1 < (l0.length : Int) := of_decide_eq_true (by first | (with_reducible assumption) | assumption)
                        obtain ⟨ad131, e131, hx131_0, hx131_1, hx131_2, hx131_3, hx131_4, hx131_5, hx131_6, hx131_7, hx131_8, hx131_9, hx131_10, hx131_11, hx131_12, hx131_13, hx131_14, hx131_15, hx131_16, hx131_17, hx131_18, hx131_19, hx131_20, hx131_21, hx131_22, hx131_23, hx131_24, hx131_25, hx131_26, hx131_27, hx131_28, hx131_29, hx131_30, hx131_31, hx131_32⟩ := at_T25 HR0.out x4_1 p131 q131
                        have hw131_0_32 := Go.Proofs.YtmoecidfmgeafaaDoor.Wide.mk32 hx131_0 hx131_1 hx131_2 hx131_3 hx131_4 hx131_5 hx131_6 hx131_7 hx131_8 hx131_9 hx131_10 hx131_11 hx131_12 hx131_13 hx131_14 hx131_15 hx131_16 hx131_17 hx131_18 hx131_19 hx131_20 hx131_21 hx131_22 hx131_23 hx131_24 hx131_25 hx131_26 hx131_27 hx131_28 hx131_29 hx131_30 hx131_31
                        have hw131_0_33 := Go.Proofs.YtmoecidfmgeafaaDoor.Wide.mk33 hx131_0 hx131_1 hx131_2 hx131_3 hx131_4 hx131_5 hx131_6 hx131_7 hx131_8 hx131_9 hx131_10 hx131_11 hx131_12 hx131_13 hx131_14 hx131_15 hx131_16 hx131_17 hx131_18 hx131_19 hx131_20 hx131_21 hx131_22 hx131_23 hx131_24 hx131_25 hx131_26 hx131_27 hx131_28 hx131_29 hx131_30 hx131_31 hx131_32
                        have hw131_32 := hx131_32
                        have hw131_31 := hx131_31
                        have hw131_30 := hx131_30
                        have hw131_29 := hx131_29
                        have hw131_28 := hx131_28
                        have hw131_27 := hx131_27
                        have hw131_26 := hx131_26
                        have hw131_25 := hx131_25
                        have hw131_24 := hx131_24
                        have hw131_23 := hx131_23
                        have hw131_22 := hx131_22
                        have hw131_21 := hx131_21
                        have hw131_20 := hx131_20
                        have hw131_19 := hx131_19
                        have hw131_18 := hx131_18
                        have hw131_17 := hx131_17
                        have hw131_16 := hx131_16
                        have hw131_15 := hx131_15
                        have hw131_14 := hx131_14
                        have hw131_13 := hx131_13
                        have hw131_12 := hx131_12
                        have hw131_11 := hx131_11
                        have hw131_10 := hx131_10
                        have hw131_9 := hx131_9
                        have hw131_8 := hx131_8
                        have hw131_7 := hx131_7
                        have hw131_6 := hx131_6
                        have hw131_5 := hx131_5
                        have hw131_4 := hx131_4
                        have hw131_3 := hx131_3
                        have hw131_2 := hx131_2
                        have hw131_1 := hx131_1
                        have hw131_0 := hx131_0
                        cases e131
                        replace hx131_0 := (HB.out.cell (World.block_lt_of_cell? w _ hx131_0)).trans hx131_0
                        replace hx131_1 := (HB.out.cell (World.block_lt_of_cell? w _ hx131_1)).trans hx131_1
                        replace hx131_2 := (HB.out.cell (World.block_lt_of_cell? w _ hx131_2)).trans hx131_2
                        replace hx131_3 := (HB.out.cell (World.block_lt_of_cell? w _ hx131_3)).trans hx131_3
                        replace hx131_4 := (HB.out.cell (World.block_lt_of_cell? w _ hx131_4)).trans hx131_4
                        replace hx131_5 := (HB.out.cell (World.block_lt_of_cell? w _ hx131_5)).trans hx131_5
                        replace hx131_6 := (HB.out.cell (World.block_lt_of_cell? w _ hx131_6)).trans hx131_6
                        replace hx131_7 := (HB.out.cell (World.block_lt_of_cell? w _ hx131_7)).trans hx131_7
                        replace hx131_8 := (HB.out.cell (World.block_lt_of_cell? w _ hx131_8)).trans hx131_8
                        replace hx131_9 := (HB.out.cell (World.block_lt_of_cell? w _ hx131_9)).trans hx131_9
                        replace hx131_10 := (HB.out.cell (World.block_lt_of_cell? w _ hx131_10)).trans hx131_10
                        replace hx131_11 := (HB.out.cell (World.block_lt_of_cell? w _ hx131_11)).trans hx131_11
                        replace hx131_12 := (HB.out.cell (World.block_lt_of_cell? w _ hx131_12)).trans hx131_12
                        replace hx131_13 := (HB.out.cell (World.block_lt_of_cell? w _ hx131_13)).trans hx131_13
                        replace hx131_14 := (HB.out.cell (World.block_lt_of_cell? w _ hx131_14)).trans hx131_14
                        replace hx131_15 := (HB.out.cell (World.block_lt_of_cell? w _ hx131_15)).trans hx131_15
                        replace hx131_16 := (HB.out.cell (World.block_lt_of_cell? w _ hx131_16)).trans hx131_16
                        replace hx131_17 := (HB.out.cell (World.block_lt_of_cell? w _ hx131_17)).trans hx131_17
                        replace hx131_18 := (HB.out.cell (World.block_lt_of_cell? w _ hx131_18)).trans hx131_18
                        replace hx131_19 := (HB.out.cell (World.block_lt_of_cell? w _ hx131_19)).trans hx131_19
                        replace hx131_20 := (HB.out.cell (World.block_lt_of_cell? w _ hx131_20)).trans hx131_20
                        replace hx131_21 := (HB.out.cell (World.block_lt_of_cell? w _ hx131_21)).trans hx131_21
                        replace hx131_22 := (HB.out.cell (World.block_lt_of_cell? w _ hx131_22)).trans hx131_22
                        replace hx131_23 := (HB.out.cell (World.block_lt_of_cell? w _ hx131_23)).trans hx131_23
                        replace hx131_24 := (HB.out.cell (World.block_lt_of_cell? w _ hx131_24)).trans hx131_24
                        replace hx131_25 := (HB.out.cell (World.block_lt_of_cell? w _ hx131_25)).trans hx131_25
                        replace hx131_26 := (HB.out.cell (World.block_lt_of_cell? w _ hx131_26)).trans hx131_26
                        replace hx131_27 := (HB.out.cell (World.block_lt_of_cell? w _ hx131_27)).trans hx131_27
                        replace hx131_28 := (HB.out.cell (World.block_lt_of_cell? w _ hx131_28)).trans hx131_28
                        replace hx131_29 := (HB.out.cell (World.block_lt_of_cell? w _ hx131_29)).trans hx131_29
                        replace hx131_30 := (HB.out.cell (World.block_lt_of_cell? w _ hx131_30)).trans hx131_30
                        replace hx131_31 := (HB.out.cell (World.block_lt_of_cell? w _ hx131_31)).trans hx131_31
                        replace hx131_32 := (HB.out.cell (World.block_lt_of_cell? w _ hx131_32)).trans hx131_32
                        replace p131 := eq_true p131
                        replace q131 := eq_true q131
                        have p132 : 0 ≤ ((ji8) : Int) := of_decide_eq_true (by first | (with_reducible assumption) | assumption)
                        have q132 : (ji8) < (x3_1.length : Int) := of_decide_eq_true (by first | (with_reducible assumption) | assumption)
                        obtain ⟨ad132, e132, hx132_0, hx132_1, hx132_2, hx132_3, hx132_4, hx132_5, hx132_6, hx132_7, hx132_8, hx132_9, hx132_10, hx132_11, hx132_12, hx132_13, hx132_14, hx132_15, hx132_16, hx132_17, hx132_18, hx132_19, hx132_20, hx132_21, hx132_22, hx132_23, hx132_24, hx132_25, hx132_26, hx132_27, hx132_28, hx132_29, hx132_30, hx132_31, hx132_32⟩ := at_T25 (Kd.R_reads' HO_3.out).2.2 (ji8) p132 q132
                        cases e132
                        replace p132 := eq_true p132
                        replace q132 := eq_true q132
                        have hw132_0_32 := Go.Proofs.YtmoecidfmgeafaaDoor.Wide.mk32 hx132_0 hx132_1 hx132_2 hx132_3 hx132_4 hx132_5 hx132_6 hx132_7 hx132_8 hx132_9 hx132_10 hx132_11 hx132_12 hx132_13 hx132_14 hx132_15 hx132_16 hx132_17 hx132_18 hx132_19 hx132_20 hx132_21 hx132_22 hx132_23 hx132_24 hx132_25 hx132_26 hx132_27 hx132_28 hx132_29 hx132_30 hx132_31
                        have hw132_0_33 := Go.Proofs.YtmoecidfmgeafaaDoor.Wide.mk33 hx132_0 hx132_1 hx132_2 hx132_3 hx132_4 hx132_5 hx132_6 hx132_7 hx132_8 hx132_9 hx132_10 hx132_11 hx132_12 hx132_13 hx132_14 hx132_15 hx132_16 hx132_17 hx132_18 hx132_19 hx132_20 hx132_21 hx132_22 hx132_23 hx132_24 hx132_25 hx132_26 hx132_27 hx132_28 hx132_29 hx132_30 hx132_31 hx132_32
                        refine start_ (n := 14) (S := fun w' => Go.Proofs.YtmoecidfmgeafaaDoor.Wide.cellsAt w' (ad131.add ((x4_1).toNat * 33)) 33 = some (.int .u8 ((rd_T25 l0 x4_1).f0.f0) :: .int .u8 ((rd_T25 l0 x4_1).f0.f1) :: .int .u8 ((rd_T25 l0 x4_1).f0.f2) :: .int .u8 ((rd_T25 l0 x4_1).f0.f3) :: .int .u8 ((rd_T25 l0 x4_1).f0.f4) :: .int .u8 ((rd_T25 l0 x4_1).f0.f5) :: .int .u8 ((rd_T25 l0 x4_1).f0.f6) :: .int .u8 ((rd_T25 l0 x4_1).f0.f7) :: .int .u8 ((rd_T25 l0 x4_1).f0.f8) :: .int .u8 ((rd_T25 l0 x4_1).f0.f9) :: .int .u8 ((rd_T25 l0 x4_1).f0.f10) :: .int .u8 ((rd_T25 l0 x4_1).f0.f11) :: .int .u8 ((rd_T25 l0 x4_1).f0.f12) :: .int .u8 ((rd_T25 l0 x4_1).f0.f13) :: .int .u8 ((rd_T25 l0 x4_1).f0.f14) :: .int .u8 ((rd_T25 l0 x4_1).f0.f15) :: .int .u8 ((rd_T25 l0 x4_1).f0.f16) :: .int .u8 ((rd_T25 l0 x4_1).f0.f17) :: .int .u8 ((rd_T25 l0 x4_1).f0.f18) :: .int .u8 ((rd_T25 l0 x4_1).f0.f19) :: .int .u8 ((rd_T25 l0 x4_1).f0.f20) :: .int .u8 ((rd_T25 l0 x4_1).f0.f21) :: .int .u8 ((rd_T25 l0 x4_1).f0.f22) :: .int .u8 ((rd_T25 l0 x4_1).f0.f23) :: .int .u8 ((rd_T25 l0 x4_1).f0.f24) :: .int .u8 ((rd_T25 l0 x4_1).f0.f25) :: .int .u8 ((rd_T25 l0 x4_1).f0.f26) :: .int .u8 ((rd_T25 l0 x4_1).f0.f27) :: .int .u8 ((rd_T25 l0 x4_1).f0.f28) :: .int .u8 ((rd_T25 l0 x4_1).f0.f29) :: .int .u8 ((rd_T25 l0 x4_1).f0.f30) :: .int .u8 ((rd_T25 l0 x4_1).f0.f31) :: .int .i64 ((rd_T25 l0 x4_1).f1) :: []) ∧ Go.Proofs.YtmoecidfmgeafaaDoor.Wide.cellsAt w' (ad132.add (((ji8)).toNat * 33)) 33 = some (.int .u8 ((rd_T25 x3_1 (ji8)).f0.f0) :: .int .u8 ((rd_T25 x3_1 (ji8)).f0.f1) :: .int .u8 ((rd_T25 x3_1 (ji8)).f0.f2) :: .int .u8 ((rd_T25 x3_1 (ji8)).f0.f3) :: .int .u8 ((rd_T25 x3_1 (ji8)).f0.f4) :: .int .u8 ((rd_T25 x3_1 (ji8)).f0.f5) :: .int .u8 ((rd_T25 x3_1 (ji8)).f0.f6) :: .int .u8 ((rd_T25 x3_1 (ji8)).f0.f7) :: .int .u8 ((rd_T25 x3_1 (ji8)).f0.f8) :: .int .u8 ((rd_T25 x3_1 (ji8)).f0.f9) :: .int .u8 ((rd_T25 x3_1 (ji8)).f0.f10) :: .int .u8 ((rd_T25 x3_1 (ji8)).f0.f11) :: .int .u8 ((rd_T25 x3_1 (ji8)).f0.f12) :: .int .u8 ((rd_T25 x3_1 (ji8)).f0.f13) :: .int .u8 ((rd_T25 x3_1 (ji8)).f0.f14) :: .int .u8 ((rd_T25 x3_1 (ji8)).f0.f15) :: .int .u8 ((rd_T25 x3_1 (ji8)).f0.f16) :: .int .u8 ((rd_T25 x3_1 (ji8)).f0.f17) :: .int .u8 ((rd_T25 x3_1 (ji8)).f0.f18) :: .int .u8 ((rd_T25 x3_1 (ji8)).f0.f19) :: .int .u8 ((rd_T25 x3_1 (ji8)).f0.f20) :: .int .u8 ((rd_T25 x3_1 (ji8)).f0.f21) :: .int .u8 ((rd_T25 x3_1 (ji8)).f0.f22) :: .int .u8 ((rd_T25 x3_1 (ji8)).f0.f23) :: .int .u8 ((rd_T25 x3_1 (ji8)).f0.f24) :: .int .u8 ((rd_T25 x3_1 (ji8)).f0.f25) :: .int .u8 ((rd_T25 x3_1 (ji8)).f0.f26) :: .int .u8 ((rd_T25 x3_1 (ji8)).f0.f27) :: .int .u8 ((rd_T25 x3_1 (ji8)).f0.f28) :: .int .u8 ((rd_T25 x3_1 (ji8)).f0.f29) :: .int .u8 ((rd_T25 x3_1 (ji8)).f0.f30) :: .int .u8 ((rd_T25 x3_1 (ji8)).f0.f31) :: .int .i64 ((rd_T25 x3_1 (ji8)).f1) :: [])) (ds := []) #[false, false, false, false, false, false, false, false, false, false, false, false, false, false] (by kernel_rfl) rfl rfl ⟨Go.Proofs.YtmoecidfmgeafaaDoor.Wide.mk33 (((HB.out.cell (World.block_lt_of_cell? w _ hw131_0)).trans hw131_0)) (((HB.out.cell (World.block_lt_of_cell? w _ hw131_1)).trans hw131_1)) (((HB.out.cell (World.block_lt_of_cell? w _ hw131_2)).trans hw131_2)) (((HB.out.cell (World.block_lt_of_cell? w _ hw131_3)).trans hw131_3)) (((HB.out.cell (World.block_lt_of_cell? w _ hw131_4)).trans hw131_4)) (((HB.out.cell (World.block_lt_of_cell? w _ hw131_5)).trans hw131_5)) (((HB.out.cell (World.block_lt_of_cell? w _ hw131_6)).trans hw131_6)) (((HB.out.cell (World.block_lt_of_cell? w _ hw131_7)).trans hw131_7)) (((HB.out.cell (World.block_lt_of_cell? w _ hw131_8)).trans hw131_8)) (((HB.out.cell (World.block_lt_of_cell? w _ hw131_9)).trans hw131_9)) (((HB.out.cell (World.block_lt_of_cell? w _ hw131_10)).trans hw131_10)) (((HB.out.cell (World.block_lt_of_cell? w _ hw131_11)).trans hw131_11)) (((HB.out.cell (World.block_lt_of_cell? w _ hw131_12)).trans hw131_12)) (((HB.out.cell (World.block_lt_of_cell? w _ hw131_13)).trans hw131_13)) (((HB.out.cell (World.block_lt_of_cell? w _ hw131_14)).trans hw131_14)) (((HB.out.cell (World.block_lt_of_cell? w _ hw131_15)).trans hw131_15)) (((HB.out.cell (World.block_lt_of_cell? w _ hw131_16)).trans hw131_16)) (((HB.out.cell (World.block_lt_of_cell? w _ hw131_17)).trans hw131_17)) (((HB.out.cell (World.block_lt_of_cell? w _ hw131_18)).trans hw131_18)) (((HB.out.cell (World.block_lt_of_cell? w _ hw131_19)).trans hw131_19)) (((HB.out.cell (World.block_lt_of_cell? w _ hw131_20)).trans hw131_20)) (((HB.out.cell (World.block_lt_of_cell? w _ hw131_21)).trans hw131_21)) (((HB.out.cell (World.block_lt_of_cell? w _ hw131_22)).trans hw131_22)) (((HB.out.cell (World.block_lt_of_cell? w _ hw131_23)).trans hw131_23)) (((HB.out.cell (World.block_lt_of_cell? w _ hw131_24)).trans hw131_24)) (((HB.out.cell (World.block_lt_of_cell? w _ hw131_25)).trans hw131_25)) (((HB.out.cell (World.block_lt_of_cell? w _ hw131_26)).trans hw131_26)) (((HB.out.cell (World.block_lt_of_cell? w _ hw131_27)).trans hw131_27)) (((HB.out.cell (World.block_lt_of_cell? w _ hw131_28)).trans hw131_28)) (((HB.out.cell (World.block_lt_of_cell? w _ hw131_29)).trans hw131_29)) (((HB.out.cell (World.block_lt_of_cell? w _ hw131_30)).trans hw131_30)) (((HB.out.cell (World.block_lt_of_cell? w _ hw131_31)).trans hw131_31)) (((HB.out.cell (World.block_lt_of_cell? w _ hw131_32)).trans hw131_32)), Go.Proofs.YtmoecidfmgeafaaDoor.Wide.mk33 hx132_0 hx132_1 hx132_2 hx132_3 hx132_4 hx132_5 hx132_6 hx132_7 hx132_8 hx132_9 hx132_10 hx132_11 hx132_12 hx132_13 hx132_14 hx132_15 hx132_16 hx132_17 hx132_18 hx132_19 hx132_20 hx132_21 hx132_22 hx132_23 hx132_24 hx132_25 hx132_26 hx132_27 hx132_28 hx132_29 hx132_30 hx132_31 hx132_32⟩ (fun hHeld => ?_); refine with_tabW coracleref1_Sorted.tab6 coracleref1_Sorted.bits6 (fun HT_ HW_ => ?_)
                        generalize wr.drew = w12 at HO_3 HB hx131_0 hx131_1 hx131_10 hx131_11 hx131_12 hx131_13 hx131_14 hx131_15 hx131_16 hx131_17 hx131_18 hx131_19 hx131_2 hx131_20 hx131_21 hx131_22 hx131_23 hx131_24 hx131_25 hx131_26 hx131_27 hx131_28 hx131_29 hx131_3 hx131_30 hx131_31 hx131_32 hx131_4 hx131_5 hx131_6 hx131_7 hx131_8 hx131_9 hx132_0 hx132_1 hx132_10 hx132_11 hx132_12 hx132_13 hx132_14 hx132_15 hx132_16 hx132_17 hx132_18 hx132_19 hx132_2 hx132_20 hx132_21 hx132_22 hx132_23 hx132_24 hx132_25 hx132_26 hx132_27 hx132_28 hx132_29 hx132_3 hx132_30 hx132_31 hx132_32 hx132_4 hx132_5 hx132_6 hx132_7 hx132_8 hx132_9 hHeld ⊢
                        refine pure_ (i := 0) (N := some 14) (v := ?_) (a' := ?_) #[true, false, false, false, false, false, false, false, false, false, false, false, false, false] rfl rfl (any_of HT_.out (by kernel_rfl)) (fun _ _ _ h => h) (Or.inl ⟨by rfl, ?_⟩) ?_ ?_
                        rotate_left
                        · intro w'
                          go_simp
                          with_reducible rfl
                        rotate_left
                        · simp only [Act.put, List.setIfInBounds_toArray, List.set_cons_zero, List.set_cons_succ, i64_w, i32_w]
                          rfl
                        refine pure_ (i := 1) (N := some 15) (v := ?_) (a' := ?_) #[true, true, false, false, false, false, false, false, false, false, false, false, false, false] rfl rfl (any_of HT_.out (by kernel_rfl)) (fun _ _ _ h => h) (Or.inl ⟨by rfl, ?_⟩) ?_ ?_
                        rotate_left
                        · intro w'
                          go_simp
                          with_reducible rfl
                        rotate_left
                        · simp only [Act.put, List.setIfInBounds_toArray, List.set_cons_zero, List.set_cons_succ, i64_w, i32_w]
                          rfl
                        refine pure_ (i := 2) (N := some 16) (v := ?_) (a' := ?_) #[true, true, true, false, false, false, false, false, false, false, false, false, false, false] rfl rfl (any_of HT_.out (by kernel_rfl)) (fun _ _ _ h => h) (Or.inl ⟨by rfl, ?_⟩) ?_ ?_
                        rotate_left
                        · intro w'
                          go_simp
                          with_reducible rfl
                        rotate_left
                        · simp only [Act.put, List.setIfInBounds_toArray, List.set_cons_zero, List.set_cons_succ, i64_w, i32_w]
                          rfl
                        refine pure_ (i := 3) (N := some 17) (v := ?_) (a' := ?_) #[true, true, true, true, false, false, false, false, false, false, false, false, false, false] rfl rfl (any_of HT_.out (by kernel_rfl)) (fun _ _ _ h => h) (Or.inl ⟨by rfl, ?_⟩) ?_ ?_
                        rotate_left
                        · intro w'
                          go_simp
                          with_reducible rfl
                        rotate_left
                        · simp only [Act.put, List.setIfInBounds_toArray, List.set_cons_zero, List.set_cons_succ, i64_w, i32_w]
                          rfl
                        refine pure_ (i := 4) (N := some 18) (v := ?_) (a' := ?_) #[true, true, true, true, true, false, false, false, false, false, false, false, false, false] rfl rfl (any_of HT_.out (by kernel_rfl)) (fun _ _ _ h => h) (Or.inl ⟨by rfl, ?_⟩) ?_ ?_
                        rotate_left
                        · intro w'
                          go_simp
                          with_reducible rfl
                        rotate_left
                        · simp only [Act.put, List.setIfInBounds_toArray, List.set_cons_zero, List.set_cons_succ, i64_w, i32_w]
                          rfl
                        refine pure_ (i := 5) (N := some 19) (v := ?_) (a' := ?_) #[true, true, true, true, true, true, false, false, false, false, false, false, false, false] rfl rfl (any_of HT_.out (by kernel_rfl)) (fun _ _ _ h => h) (Or.inl ⟨by rfl, ?_⟩) ?_ ?_
                        rotate_left
                        · intro w'
                          go_simp
                          with_reducible rfl
                        rotate_left
                        · simp only [Act.put, List.setIfInBounds_toArray, List.set_cons_zero, List.set_cons_succ, i64_w, i32_w]
                          rfl
                        refine pure_ (i := 7) (N := some 21) (v := ?_) (a' := ?_) #[true, true, true, true, true, true, false, true, false, false, false, false, false, false] rfl rfl (any_of HT_.out (by kernel_rfl)) (fun _ _ _ h => h) (Or.inl ⟨by rfl, ?_⟩) ?_ ?_
                        rotate_left
                        · intro w'
                          go_simp
                          with_reducible rfl
                        rotate_left
                        · simp only [Act.put, List.setIfInBounds_toArray, List.set_cons_zero, List.set_cons_succ, i64_w, i32_w]
                          rfl
                        refine pure_ (i := 8) (N := some 22) (v := ?_) (a' := ?_) #[true, true, true, true, true, true, false, true, true, false, false, false, false, false] rfl rfl (any_of HT_.out (by kernel_rfl)) (fun _ _ _ h => h) (Or.inl ⟨by rfl, ?_⟩) ?_ ?_
                        rotate_left
                        · intro w'
                          go_simp
                          with_reducible rfl
                        rotate_left
                        · simp only [Act.put, List.setIfInBounds_toArray, List.set_cons_zero, List.set_cons_succ, i64_w, i32_w]
                          rfl
                        refine pure_ (i := 9) (N := some 23) (v := ?_) (a' := ?_) #[true, true, true, true, true, true, false, true, true, true, false, false, false, false] rfl rfl (any_of HT_.out (by kernel_rfl)) (fun _ _ _ h => h) (Or.inl ⟨by rfl, ?_⟩) ?_ ?_
                        rotate_left
                        · intro w'
                          go_simp
                          with_reducible rfl
                        rotate_left
                        · simp only [Act.put, List.setIfInBounds_toArray, List.set_cons_zero, List.set_cons_succ, i64_w, i32_w]
                          rfl
                        refine pure_ (i := 10) (N := some 24) (v := ?_) (a' := ?_) #[true, true, true, true, true, true, false, true, true, true, true, false, false, false] rfl rfl (any_of HT_.out (by kernel_rfl)) (fun _ _ _ h => h) (Or.inl ⟨by rfl, ?_⟩) ?_ ?_
                        rotate_left
                        · intro w'
                          go_simp
                          with_reducible rfl
                        rotate_left
                        · simp only [Act.put, List.setIfInBounds_toArray, List.set_cons_zero, List.set_cons_succ, i64_w, i32_w]
                          rfl
                        refine take_ (i := 6) (N := some 20) (v := ?_) (a' := ?_) #[true, true, true, true, true, true, true, true, true, true, true, false, false, false] rfl rfl (take_ofW HT_.out HW_.out (by kernel_rfl)) (fun _ _ _ h => h) (Or.inl ⟨by rfl, ?_⟩) hHeld ?_ ?_
                        rotate_left
                        · rintro w' ⟨s0, s1⟩
                          go_simp
                          with_reducible rfl
                        rotate_left
                        · simp only [Act.put, List.setIfInBounds_toArray, List.set_cons_zero, List.set_cons_succ, i64_w, i32_w]
                          rfl
                        refine take_ (i := 11) (N := some 25) (v := ?_) (a' := ?_) #[true, true, true, true, true, true, true, true, true, true, true, true, false, false] rfl rfl (take_ofW HT_.out HW_.out (by kernel_rfl)) (fun _ _ _ h => h) (Or.inl ⟨by rfl, ?_⟩) hHeld ?_ ?_
                        rotate_left
                        · rintro w' ⟨s0, s1⟩
                          go_simp
                          with_reducible rfl
                        rotate_left
                        · simp only [Act.put, List.setIfInBounds_toArray, List.set_cons_zero, List.set_cons_succ, i64_w, i32_w]
                          rfl
                        refine one_ (i := 12) (N := some 26) #[true, true, true, true, true, true, true, true, true, true, true, true, true, false] rfl rfl (one_of HT_.out (by kernel_rfl)) (by decide) (fun K hK => ?_)
                        refine goes_ Tryd.func36 (by kernel_rfl) rfl #[.agg #[.int .u8 ((rd_T25 l0 x4_1).f0.f0), .int .u8 ((rd_T25 l0 x4_1).f0.f1), .int .u8 ((rd_T25 l0 x4_1).f0.f2), .int .u8 ((rd_T25 l0 x4_1).f0.f3), .int .u8 ((rd_T25 l0 x4_1).f0.f4), .int .u8 ((rd_T25 l0 x4_1).f0.f5), .int .u8 ((rd_T25 l0 x4_1).f0.f6), .int .u8 ((rd_T25 l0 x4_1).f0.f7), .int .u8 ((rd_T25 l0 x4_1).f0.f8), .int .u8 ((rd_T25 l0 x4_1).f0.f9), .int .u8 ((rd_T25 l0 x4_1).f0.f10), .int .u8 ((rd_T25 l0 x4_1).f0.f11), .int .u8 ((rd_T25 l0 x4_1).f0.f12), .int .u8 ((rd_T25 l0 x4_1).f0.f13), .int .u8 ((rd_T25 l0 x4_1).f0.f14), .int .u8 ((rd_T25 l0 x4_1).f0.f15), .int .u8 ((rd_T25 l0 x4_1).f0.f16), .int .u8 ((rd_T25 l0 x4_1).f0.f17), .int .u8 ((rd_T25 l0 x4_1).f0.f18), .int .u8 ((rd_T25 l0 x4_1).f0.f19), .int .u8 ((rd_T25 l0 x4_1).f0.f20), .int .u8 ((rd_T25 l0 x4_1).f0.f21), .int .u8 ((rd_T25 l0 x4_1).f0.f22), .int .u8 ((rd_T25 l0 x4_1).f0.f23), .int .u8 ((rd_T25 l0 x4_1).f0.f24), .int .u8 ((rd_T25 l0 x4_1).f0.f25), .int .u8 ((rd_T25 l0 x4_1).f0.f26), .int .u8 ((rd_T25 l0 x4_1).f0.f27), .int .u8 ((rd_T25 l0 x4_1).f0.f28), .int .u8 ((rd_T25 l0 x4_1).f0.f29), .int .u8 ((rd_T25 l0 x4_1).f0.f30), .int .u8 ((rd_T25 l0 x4_1).f0.f31), .int .i64 ((rd_T25 l0 x4_1).f1)], .agg #[.int .u8 ((rd_T25 x3_1 (ji8)).f0.f0), .int .u8 ((rd_T25 x3_1 (ji8)).f0.f1), .int .u8 ((rd_T25 x3_1 (ji8)).f0.f2), .int .u8 ((rd_T25 x3_1 (ji8)).f0.f3), .int .u8 ((rd_T25 x3_1 (ji8)).f0.f4), .int .u8 ((rd_T25 x3_1 (ji8)).f0.f5), .int .u8 ((rd_T25 x3_1 (ji8)).f0.f6), .int .u8 ((rd_T25 x3_1 (ji8)).f0.f7), .int .u8 ((rd_T25 x3_1 (ji8)).f0.f8), .int .u8 ((rd_T25 x3_1 (ji8)).f0.f9), .int .u8 ((rd_T25 x3_1 (ji8)).f0.f10), .int .u8 ((rd_T25 x3_1 (ji8)).f0.f11), .int .u8 ((rd_T25 x3_1 (ji8)).f0.f12), .int .u8 ((rd_T25 x3_1 (ji8)).f0.f13), .int .u8 ((rd_T25 x3_1 (ji8)).f0.f14), .int .u8 ((rd_T25 x3_1 (ji8)).f0.f15), .int .u8 ((rd_T25 x3_1 (ji8)).f0.f16), .int .u8 ((rd_T25 x3_1 (ji8)).f0.f17), .int .u8 ((rd_T25 x3_1 (ji8)).f0.f18), .int .u8 ((rd_T25 x3_1 (ji8)).f0.f19), .int .u8 ((rd_T25 x3_1 (ji8)).f0.f20), .int .u8 ((rd_T25 x3_1 (ji8)).f0.f21), .int .u8 ((rd_T25 x3_1 (ji8)).f0.f22), .int .u8 ((rd_T25 x3_1 (ji8)).f0.f23), .int .u8 ((rd_T25 x3_1 (ji8)).f0.f24), .int .u8 ((rd_T25 x3_1 (ji8)).f0.f25), .int .u8 ((rd_T25 x3_1 (ji8)).f0.f26), .int .u8 ((rd_T25 x3_1 (ji8)).f0.f27), .int .u8 ((rd_T25 x3_1 (ji8)).f0.f28), .int .u8 ((rd_T25 x3_1 (ji8)).f0.f29), .int .u8 ((rd_T25 x3_1 (ji8)).f0.f30), .int .u8 ((rd_T25 x3_1 (ji8)).f0.f31), .int .i64 ((rd_T25 x3_1 (ji8)).f1)]] (by rfl) rfl rfl (by (try simp only [List.map_toArray, List.map_cons, List.map_nil]); first | done | (simp only [hji8]; rfl) | rfl | (simp only [List.length_drop, List.length_take]; rfl)) ?_
                        with_reducible refine (coracleref1_PointLess.calls ((rd_T25 l0 x4_1).f0.f0) ((rd_T25 l0 x4_1).f0.f1) ((rd_T25 l0 x4_1).f0.f2) ((rd_T25 l0 x4_1).f0.f3) ((rd_T25 l0 x4_1).f0.f4) ((rd_T25 l0 x4_1).f0.f5) ((rd_T25 l0 x4_1).f0.f6) ((rd_T25 l0 x4_1).f0.f7) ((rd_T25 l0 x4_1).f0.f8) ((rd_T25 l0 x4_1).f0.f9) ((rd_T25 l0 x4_1).f0.f10) ((rd_T25 l0 x4_1).f0.f11) ((rd_T25 l0 x4_1).f0.f12) ((rd_T25 l0 x4_1).f0.f13) ((rd_T25 l0 x4_1).f0.f14) ((rd_T25 l0 x4_1).f0.f15) ((rd_T25 l0 x4_1).f0.f16) ((rd_T25 l0 x4_1).f0.f17) ((rd_T25 l0 x4_1).f0.f18) ((rd_T25 l0 x4_1).f0.f19) ((rd_T25 l0 x4_1).f0.f20) ((rd_T25 l0 x4_1).f0.f21) ((rd_T25 l0 x4_1).f0.f22) ((rd_T25 l0 x4_1).f0.f23) ((rd_T25 l0 x4_1).f0.f24) ((rd_T25 l0 x4_1).f0.f25) ((rd_T25 l0 x4_1).f0.f26) ((rd_T25 l0 x4_1).f0.f27) ((rd_T25 l0 x4_1).f0.f28) ((rd_T25 l0 x4_1).f0.f29) ((rd_T25 l0 x4_1).f0.f30) ((rd_T25 l0 x4_1).f0.f31) ((rd_T25 l0 x4_1).f1) ((rd_T25 x3_1 (ji8)).f0.f0) ((rd_T25 x3_1 (ji8)).f0.f1) ((rd_T25 x3_1 (ji8)).f0.f2) ((rd_T25 x3_1 (ji8)).f0.f3) ((rd_T25 x3_1 (ji8)).f0.f4) ((rd_T25 x3_1 (ji8)).f0.f5) ((rd_T25 x3_1 (ji8)).f0.f6) ((rd_T25 x3_1 (ji8)).f0.f7) ((rd_T25 x3_1 (ji8)).f0.f8) ((rd_T25 x3_1 (ji8)).f0.f9) ((rd_T25 x3_1 (ji8)).f0.f10) ((rd_T25 x3_1 (ji8)).f0.f11) ((rd_T25 x3_1 (ji8)).f0.f12) ((rd_T25 x3_1 (ji8)).f0.f13) ((rd_T25 x3_1 (ji8)).f0.f14) ((rd_T25 x3_1 (ji8)).f0.f15) ((rd_T25 x3_1 (ji8)).f0.f16) ((rd_T25 x3_1 (ji8)).f0.f17) ((rd_T25 x3_1 (ji8)).f0.f18) ((rd_T25 x3_1 (ji8)).f0.f19) ((rd_T25 x3_1 (ji8)).f0.f20) ((rd_T25 x3_1 (ji8)).f0.f21) ((rd_T25 x3_1 (ji8)).f0.f22) ((rd_T25 x3_1 (ji8)).f0.f23) ((rd_T25 x3_1 (ji8)).f0.f24) ((rd_T25 x3_1 (ji8)).f0.f25) ((rd_T25 x3_1 (ji8)).f0.f26) ((rd_T25 x3_1 (ji8)).f0.f27) ((rd_T25 x3_1 (ji8)).f0.f28) ((rd_T25 x3_1 (ji8)).f0.f29) ((rd_T25 x3_1 (ji8)).f0.f30) ((rd_T25 x3_1 (ji8)).f0.f31) ((rd_T25 x3_1 (ji8)).f1) t133 _ A11.out).mono ?_
                        rintro e w13 ⟨rfl, hb⟩
                        have HS33_ := Go.Proofs.YtmoecidfmgeafaaDoor.Wide.cells_below hb 33 0 _ (hHeld.2)
                        refine ⟨_, rfl, ?_⟩
                        have n0_ := Aside0.mk (Kd.R_below (by (with_reducible repeat (first | apply Kd.R_alloc | apply Kd.R_drewN | apply Kd.R_drew)); exact HO_3.out) hb)
                        have n1_ := Aside0.mk (below_step (by repeat (first | (with_reducible first | exact HB.out | apply below_alloc | apply pw_below_drewN | apply below_drew1) | exact HB.out)) hb)
                        clear HO_3
                        clear HB
                        have HO_3 := n0_
                        have HB := n1_
                        clear n0_ n1_
                        (try clear hb)
                        (try clear hb2)
                        (try clear hk)
                        (try clear hi)
                        refine hK.out _ _ ⟨Go.Proofs.YtmoecidfmgeafaaDoor.Wide.mk33 (((HB.out.cell (World.block_lt_of_cell? w _ hw131_0)).trans hw131_0)) (((HB.out.cell (World.block_lt_of_cell? w _ hw131_1)).trans hw131_1)) (((HB.out.cell (World.block_lt_of_cell? w _ hw131_2)).trans hw131_2)) (((HB.out.cell (World.block_lt_of_cell? w _ hw131_3)).trans hw131_3)) (((HB.out.cell (World.block_lt_of_cell? w _ hw131_4)).trans hw131_4)) (((HB.out.cell (World.block_lt_of_cell? w _ hw131_5)).trans hw131_5)) (((HB.out.cell (World.block_lt_of_cell? w _ hw131_6)).trans hw131_6)) (((HB.out.cell (World.block_lt_of_cell? w _ hw131_7)).trans hw131_7)) (((HB.out.cell (World.block_lt_of_cell? w _ hw131_8)).trans hw131_8)) (((HB.out.cell (World.block_lt_of_cell? w _ hw131_9)).trans hw131_9)) (((HB.out.cell (World.block_lt_of_cell? w _ hw131_10)).trans hw131_10)) (((HB.out.cell (World.block_lt_of_cell? w _ hw131_11)).trans hw131_11)) (((HB.out.cell (World.block_lt_of_cell? w _ hw131_12)).trans hw131_12)) (((HB.out.cell (World.block_lt_of_cell? w _ hw131_13)).trans hw131_13)) (((HB.out.cell (World.block_lt_of_cell? w _ hw131_14)).trans hw131_14)) (((HB.out.cell (World.block_lt_of_cell? w _ hw131_15)).trans hw131_15)) (((HB.out.cell (World.block_lt_of_cell? w _ hw131_16)).trans hw131_16)) (((HB.out.cell (World.block_lt_of_cell? w _ hw131_17)).trans hw131_17)) (((HB.out.cell (World.block_lt_of_cell? w _ hw131_18)).trans hw131_18)) (((HB.out.cell (World.block_lt_of_cell? w _ hw131_19)).trans hw131_19)) (((HB.out.cell (World.block_lt_of_cell? w _ hw131_20)).trans hw131_20)) (((HB.out.cell (World.block_lt_of_cell? w _ hw131_21)).trans hw131_21)) (((HB.out.cell (World.block_lt_of_cell? w _ hw131_22)).trans hw131_22)) (((HB.out.cell (World.block_lt_of_cell? w _ hw131_23)).trans hw131_23)) (((HB.out.cell (World.block_lt_of_cell? w _ hw131_24)).trans hw131_24)) (((HB.out.cell (World.block_lt_of_cell? w _ hw131_25)).trans hw131_25)) (((HB.out.cell (World.block_lt_of_cell? w _ hw131_26)).trans hw131_26)) (((HB.out.cell (World.block_lt_of_cell? w _ hw131_27)).trans hw131_27)) (((HB.out.cell (World.block_lt_of_cell? w _ hw131_28)).trans hw131_28)) (((HB.out.cell (World.block_lt_of_cell? w _ hw131_29)).trans hw131_29)) (((HB.out.cell (World.block_lt_of_cell? w _ hw131_30)).trans hw131_30)) (((HB.out.cell (World.block_lt_of_cell? w _ hw131_31)).trans hw131_31)) (((HB.out.cell (World.block_lt_of_cell? w _ hw131_32)).trans hw131_32)), HS33_⟩ (fun hHeld => ?_)
                        clear hK K
                        refine norm_ (a' := ?_) ?_ ?_
                        rotate_left
                        · show Act.put _ (some 26) _ = _
                          simp only [Act.put, List.setIfInBounds_toArray, List.set_cons_zero, List.set_cons_succ, i64_w, i32_w]
                          rfl
                        refine pure_ (i := 13) (N := some 27) (v := ?_) (a' := ?_) #[true, true, true, true, true, true, true, true, true, true, true, true, true, true] rfl rfl (any_of HT_.out (by kernel_rfl)) (fun _ _ _ h => h) (Or.inl ⟨by rfl, ?_⟩) ?_ ?_
                        rotate_left
                        · intro w'
                          go_simp
                          with_reducible rfl
                        rotate_left
                        · simp only [Act.put, List.setIfInBounds_toArray, List.set_cons_zero, List.set_cons_succ, i64_w, i32_w]
                          rfl
                        refine done_ (done_of HT_.out (by kernel_rfl)) ?_
                        try go_wp2
                        go_meet
                        case rel => exact ⟨_, (t133), (by first | rfl | (simp; done) | (simp [*]; done)), H', ⟨by have := HK1.out; have := HK2.out; first | omega | exact Nat.le_refl _⟩, ⟨by (with_reducible repeat (first | apply Kd.R_alloc | apply Kd.R_drewN | apply Kd.R_drew)); exact HO_3.out⟩, ⟨by repeat (first | (with_reducible first | exact HB.out | apply below_alloc | apply pw_below_drewN | apply below_drew1) | exact HB.out)⟩⟩
                      · rw [if_neg c10] at H
                        exact absurd H (by simp)
                    · rw [if_neg c9] at H
                      exact absurd H (by simp)
                  · rw [if_neg c7] at H
                    exact absurd H (by simp)
                · rw [if_neg c6] at H
                  exact absurd H (by simp)
              · rw [if_neg c5] at H
                have c5b0 : decide (0 < x5_2) = false := decide_eq_false c5
                clear c5
                (first | rw [c5b0] | (simp only [i64_w, i32_w]; rw [c5b0]) | skip)
                have H' := Aside0.mk H
                clear H
                try go_wp2
                have n0_ := Aside0.mk (Kd.R_drew HO_3.out)
                have n1_ := Aside0.mk (below_drew1 HB.out)
                clear HO_3
                clear HB
                have HO_3 := n0_
                have HB := n1_
                clear n0_ n1_
                refine start_ (n := 14) (S := fun w' => True) (ds := []) #[false, false, false, false, false, false, false, false, false, false, false, false, false, false] (by kernel_rfl) rfl rfl trivial (fun hHeld => ?_); refine with_tabW coracleref1_Sorted.tab6 coracleref1_Sorted.bits6 (fun HT_ HW_ => ?_)
                generalize wr.drew = w14 at HO_3 HB hHeld ⊢
                refine pure_ (i := 0) (N := some 14) (v := ?_) (a' := ?_) #[true, false, false, false, false, false, false, false, false, false, false, false, false, false] rfl rfl (any_of HT_.out (by kernel_rfl)) (fun _ _ _ h => h) (Or.inl ⟨by rfl, ?_⟩) ?_ ?_
                rotate_left
                · intro w'
                  go_simp
                  with_reducible rfl
                rotate_left
                · simp only [Act.put, List.setIfInBounds_toArray, List.set_cons_zero, List.set_cons_succ, i64_w, i32_w]
                  rfl
                refine pure_ (i := 1) (N := some 15) (v := ?_) (a' := ?_) #[true, true, false, false, false, false, false, false, false, false, false, false, false, false] rfl rfl (any_of HT_.out (by kernel_rfl)) (fun _ _ _ h => h) (Or.inl ⟨by rfl, ?_⟩) ?_ ?_
                rotate_left
                · intro w'
                  go_simp
                  with_reducible rfl
                rotate_left
                · simp only [Act.put, List.setIfInBounds_toArray, List.set_cons_zero, List.set_cons_succ, i64_w, i32_w]
                  rfl
                refine pure_ (i := 2) (N := some 16) (v := ?_) (a' := ?_) #[true, true, true, false, false, false, false, false, false, false, false, false, false, false] rfl rfl (any_of HT_.out (by kernel_rfl)) (fun _ _ _ h => h) (Or.inl ⟨by rfl, ?_⟩) ?_ ?_
                rotate_left
                · intro w'
                  go_simp
                  with_reducible rfl
                rotate_left
                · simp only [Act.put, List.setIfInBounds_toArray, List.set_cons_zero, List.set_cons_succ, i64_w, i32_w]
                  rfl
                refine pure_ (i := 3) (N := some 17) (v := undef) (a' := ?_) #[true, true, true, true, false, false, false, false, false, false, false, false, false, false] rfl rfl (any_of HT_.out (by kernel_rfl)) (fun _ _ _ h => h) (Or.inr ⟨by rfl, rfl⟩) ?_ ?_
                rotate_left
                · simp only [Act.put, List.setIfInBounds_toArray, List.set_cons_zero, List.set_cons_succ, i64_w, i32_w]
                  rfl
                refine pure_ (i := 4) (N := some 18) (v := undef) (a' := ?_) #[true, true, true, true, true, false, false, false, false, false, false, false, false, false] rfl rfl (any_of HT_.out (by kernel_rfl)) (fun _ _ _ h => h) (Or.inr ⟨by rfl, rfl⟩) ?_ ?_
                rotate_left
                · simp only [Act.put, List.setIfInBounds_toArray, List.set_cons_zero, List.set_cons_succ, i64_w, i32_w]
                  rfl
                refine pure_ (i := 5) (N := some 19) (v := undef) (a' := ?_) #[true, true, true, true, true, true, false, false, false, false, false, false, false, false] rfl rfl (any_of HT_.out (by kernel_rfl)) (fun _ _ _ h => h) (Or.inr ⟨by rfl, rfl⟩) ?_ ?_
                rotate_left
                · simp only [Act.put, List.setIfInBounds_toArray, List.set_cons_zero, List.set_cons_succ, i64_w, i32_w]
                  rfl
                refine pure_ (i := 6) (N := some 20) (v := undef) (a' := ?_) #[true, true, true, true, true, true, true, false, false, false, false, false, false, false] rfl rfl (any_of HT_.out (by kernel_rfl)) (fun _ _ _ h => h) (Or.inr ⟨by rfl, rfl⟩) ?_ ?_
                rotate_left
                · simp only [Act.put, List.setIfInBounds_toArray, List.set_cons_zero, List.set_cons_succ, i64_w, i32_w]
                  rfl
                refine pure_ (i := 7) (N := some 21) (v := undef) (a' := ?_) #[true, true, true, true, true, true, true, true, false, false, false, false, false, false] rfl rfl (any_of HT_.out (by kernel_rfl)) (fun _ _ _ h => h) (Or.inr ⟨by rfl, rfl⟩) ?_ ?_
                rotate_left
                · simp only [Act.put, List.setIfInBounds_toArray, List.set_cons_zero, List.set_cons_succ, i64_w, i32_w]
                  rfl
                refine pure_ (i := 8) (N := some 22) (v := undef) (a' := ?_) #[true, true, true, true, true, true, true, true, true, false, false, false, false, false] rfl rfl (any_of HT_.out (by kernel_rfl)) (fun _ _ _ h => h) (Or.inr ⟨by rfl, rfl⟩) ?_ ?_
                rotate_left
                · simp only [Act.put, List.setIfInBounds_toArray, List.set_cons_zero, List.set_cons_succ, i64_w, i32_w]
                  rfl
                refine pure_ (i := 9) (N := some 23) (v := undef) (a' := ?_) #[true, true, true, true, true, true, true, true, true, true, false, false, false, false] rfl rfl (any_of HT_.out (by kernel_rfl)) (fun _ _ _ h => h) (Or.inr ⟨by rfl, rfl⟩) ?_ ?_
                rotate_left
                · simp only [Act.put, List.setIfInBounds_toArray, List.set_cons_zero, List.set_cons_succ, i64_w, i32_w]
                  rfl
                refine pure_ (i := 10) (N := some 24) (v := undef) (a' := ?_) #[true, true, true, true, true, true, true, true, true, true, true, false, false, false] rfl rfl (any_of HT_.out (by kernel_rfl)) (fun _ _ _ h => h) (Or.inr ⟨by rfl, rfl⟩) ?_ ?_
                rotate_left
                · simp only [Act.put, List.setIfInBounds_toArray, List.set_cons_zero, List.set_cons_succ, i64_w, i32_w]
                  rfl
                refine pure_ (i := 11) (N := some 25) (v := undef) (a' := ?_) #[true, true, true, true, true, true, true, true, true, true, true, true, false, false] rfl rfl (any_of HT_.out (by kernel_rfl)) (fun _ _ _ h => h) (Or.inr ⟨by rfl, rfl⟩) ?_ ?_
                rotate_left
                · simp only [Act.put, List.setIfInBounds_toArray, List.set_cons_zero, List.set_cons_succ, i64_w, i32_w]
                  rfl
                refine pure_ (i := 12) (N := some 26) (v := undef) (a' := ?_) #[true, true, true, true, true, true, true, true, true, true, true, true, true, false] rfl rfl (any_of HT_.out (by kernel_rfl)) (fun _ _ _ h => h) (Or.inr ⟨by rfl, rfl⟩) ?_ ?_
                rotate_left
                · simp only [Act.put, List.setIfInBounds_toArray, List.set_cons_zero, List.set_cons_succ, i64_w, i32_w]
                  rfl
                refine pure_ (i := 13) (N := some 27) (v := ?_) (a' := ?_) #[true, true, true, true, true, true, true, true, true, true, true, true, true, true] rfl rfl (any_of HT_.out (by kernel_rfl)) (fun _ _ _ h => h) (Or.inl ⟨by rfl, ?_⟩) ?_ ?_
                rotate_left
                · intro w'
                  go_simp
                  with_reducible rfl
                rotate_left
                · simp only [Act.put, List.setIfInBounds_toArray, List.set_cons_zero, List.set_cons_succ, i64_w, i32_w]
                  rfl
                refine done_ (done_of HT_.out (by kernel_rfl)) ?_
                try go_wp2
                go_meet
                case rel => exact ⟨_, (false), (by first | rfl | (simp; done) | (simp [*]; done)), H', ⟨by have := HK1.out; have := HK2.out; first | omega | exact Nat.le_refl _⟩, ⟨by (with_reducible repeat (first | apply Kd.R_alloc | apply Kd.R_drewN | apply Kd.R_drew)); exact HO_3.out⟩, ⟨by repeat (first | (with_reducible first | exact HB.out | apply below_alloc | apply pw_below_drewN | apply below_drew1) | exact HB.out)⟩⟩
            case rest =>
              clear HC4
              try clear c1
              try clear p1
              try clear q1
              try clear hx1
              try clear c2
              try clear c2b0
              try clear p2
              try clear c3
              try clear c5
              try clear c5b0
              try clear c6
              try clear c6b0
              try clear p6
              try clear c7
              try clear c7b0
              try clear c9
              try clear c9b0
              try clear c10
              try clear c10b0
              try clear p13
              try clear q13
              try clear hx13
              try clear hx131_0
              try clear hx131_1
              try clear hx131_10
              try clear hx131_11
              try clear hx131_12
              try clear hx131_13
              try clear hx131_14
              try clear hx131_15
              try clear hx131_16
              try clear hx131_17
              try clear hx131_18
              try clear hx131_19
              try clear hx131_2
              try clear hx131_20
              try clear hx131_21
              try clear hx131_22
              try clear hx131_23
              try clear hx131_24
              try clear hx131_25
              try clear hx131_26
              try clear hx131_27
              try clear hx131_28
              try clear hx131_29
              try clear hx131_3
              try clear hx131_30
              try clear hx131_31
              try clear hx131_32
              try clear hx131_4
              try clear hx131_5
              try clear hx131_6
              try clear hx131_7
              try clear hx131_8
              try clear hx131_9
              try clear hx132_0
              try clear hx132_1
              try clear hx132_10
              try clear hx132_11
              try clear hx132_12
              try clear hx132_13
              try clear hx132_14
              try clear hx132_15
              try clear hx132_16
              try clear hx132_17
              try clear hx132_18
              try clear hx132_19
              try clear hx132_2
              try clear hx132_20
              try clear hx132_21
              try clear hx132_22
              try clear hx132_23
              try clear hx132_24
              try clear hx132_25
              try clear hx132_26
              try clear hx132_27
              try clear hx132_28
              try clear hx132_29
              try clear hx132_3
              try clear hx132_30
              try clear hx132_31
              try clear hx132_32
              try clear hx132_4
              try clear hx132_5
              try clear hx132_6
              try clear hx132_7
              try clear hx132_8
              try clear hx132_9
              try clear p131
              try clear p132
              try clear p2
              try clear q131
              try clear q132
              obtain ⟨kq, x27_3, rfl, HA, HJ3, HO_3, HB⟩ := hcut
              cases kq with
              | zero => exact absurd HA.out (by simp [coracleref1_Sorted.j2])
              | succ kj3 =>
                have H := HA.out
                clear HA
                simp only [coracleref1_Sorted.j2] at H
                by_cases c15 : x27_3 = true
                · subst c15
                  have H1 : (coracleref1_Sorted.l1 kj3 l0 x3_1 x4_1 (wrap64 (x5_2 - 1))) = some r := by rw [if_pos rfl] at H; exact H
                  clear H
                  have H := H1
                  clear H1
                  have H' := Aside0.mk H
                  clear H
                  go_wp2
                  go_roundg kj3
                  case measure => have := HK1.out; have := HK2.out; have := HJ3.out; omega
                  case rel => exact ⟨(wrap64 (x5_2 - 1)), (by first | rfl | (simp; done) | (simp [*]; done)), H', ⟨by have := HK1.out; have := HK2.out; have := HJ3.out; omega⟩, ⟨by (with_reducible repeat (first | apply Kd.R_alloc | apply Kd.R_drewN | apply Kd.R_drew)); exact HO_3.out⟩, ⟨by repeat (first | (with_reducible first | exact HB.out | apply below_alloc | apply pw_below_drewN | apply below_drew1) | exact HB.out)⟩⟩
                · replace c15 := Bool.eq_false_iff.mpr c15
                  subst c15
                  have H1 : (if x5_2 = 0 then ((some (([] : List (S25)) : List (S25))).bind fun y134 => (if 0 ≤ x5_2 then (if x5_2 ≤ (x3_1.length : Int) then ((some (x3_1.take (x5_2 : Int).toNat : List (S25))).bind fun y137 => (if y134.length + y137.length < 3518437208883 then ((some (y134 ++ y137 : List (S25))).bind fun y141 => (if 0 ≤ x4_1 then (if x4_1 < (l0.length : Int) then (if y141.length < 3518437208883 then ((some (y141 ++ [(⟨(⟨(rd_T25 l0 x4_1).f0.f0, (rd_T25 l0 x4_1).f0.f1, (rd_T25 l0 x4_1).f0.f2, (rd_T25 l0 x4_1).f0.f3, (rd_T25 l0 x4_1).f0.f4, (rd_T25 l0 x4_1).f0.f5, (rd_T25 l0 x4_1).f0.f6, (rd_T25 l0 x4_1).f0.f7, (rd_T25 l0 x4_1).f0.f8, (rd_T25 l0 x4_1).f0.f9, (rd_T25 l0 x4_1).f0.f10, (rd_T25 l0 x4_1).f0.f11, (rd_T25 l0 x4_1).f0.f12, (rd_T25 l0 x4_1).f0.f13, (rd_T25 l0 x4_1).f0.f14, (rd_T25 l0 x4_1).f0.f15, (rd_T25 l0 x4_1).f0.f16, (rd_T25 l0 x4_1).f0.f17, (rd_T25 l0 x4_1).f0.f18, (rd_T25 l0 x4_1).f0.f19, (rd_T25 l0 x4_1).f0.f20, (rd_T25 l0 x4_1).f0.f21, (rd_T25 l0 x4_1).f0.f22, (rd_T25 l0 x4_1).f0.f23, (rd_T25 l0 x4_1).f0.f24, (rd_T25 l0 x4_1).f0.f25, (rd_T25 l0 x4_1).f0.f26, (rd_T25 l0 x4_1).f0.f27, (rd_T25 l0 x4_1).f0.f28, (rd_T25 l0 x4_1).f0.f29, (rd_T25 l0 x4_1).f0.f30, (rd_T25 l0 x4_1).f0.f31⟩ : S23), (rd_T25 l0 x4_1).f1⟩ : S25)] : List (S25))).bind fun y145 => ((some (x3_1.drop (x5_2 : Int).toNat : List (S25))).bind fun y148 => (if y145.length + y148.length < 3518437208883 then (coracleref1_Sorted.l0 kj3 l0 (y145 ++ y148) (wrap64 (x4_1 + 1))) else (none)))) else (none)) else (none)) else (none))) else (none))) else (none)) else (none))) else (if 0 ≤ (wrap64 (x5_2 - 1)) then (if (wrap64 (x5_2 - 1)) < (x3_1.length : Int) then (if 0 ≤ x4_1 then (if x4_1 < (l0.length : Int) then (if ((!(((rd_T25 x3_1 (wrap64 (x5_2 - 1))).f0.f0) == ((rd_T25 l0 x4_1).f0.f0)) || (!(((rd_T25 x3_1 (wrap64 (x5_2 - 1))).f0.f1) == ((rd_T25 l0 x4_1).f0.f1)) || (!(((rd_T25 x3_1 (wrap64 (x5_2 - 1))).f0.f2) == ((rd_T25 l0 x4_1).f0.f2)) || (!(((rd_T25 x3_1 (wrap64 (x5_2 - 1))).f0.f3) == ((rd_T25 l0 x4_1).f0.f3)) || (!(((rd_T25 x3_1 (wrap64 (x5_2 - 1))).f0.f4) == ((rd_T25 l0 x4_1).f0.f4)) || (!(((rd_T25 x3_1 (wrap64 (x5_2 - 1))).f0.f5) == ((rd_T25 l0 x4_1).f0.f5)) || (!(((rd_T25 x3_1 (wrap64 (x5_2 - 1))).f0.f6) == ((rd_T25 l0 x4_1).f0.f6)) || (!(((rd_T25 x3_1 (wrap64 (x5_2 - 1))).f0.f7) == ((rd_T25 l0 x4_1).f0.f7)) || (!(((rd_T25 x3_1 (wrap64 (x5_2 - 1))).f0.f8) == ((rd_T25 l0 x4_1).f0.f8)) || (!(((rd_T25 x3_1 (wrap64 (x5_2 - 1))).f0.f9) == ((rd_T25 l0 x4_1).f0.f9)) || (!(((rd_T25 x3_1 (wrap64 (x5_2 - 1))).f0.f10) == ((rd_T25 l0 x4_1).f0.f10)) || (!(((rd_T25 x3_1 (wrap64 (x5_2 - 1))).f0.f11) == ((rd_T25 l0 x4_1).f0.f11)) || (!(((rd_T25 x3_1 (wrap64 (x5_2 - 1))).f0.f12) == ((rd_T25 l0 x4_1).f0.f12)) || (!(((rd_T25 x3_1 (wrap64 (x5_2 - 1))).f0.f13) == ((rd_T25 l0 x4_1).f0.f13)) || (!(((rd_T25 x3_1 (wrap64 (x5_2 - 1))).f0.f14) == ((rd_T25 l0 x4_1).f0.f14)) || (!(((rd_T25 x3_1 (wrap64 (x5_2 - 1))).f0.f15) == ((rd_T25 l0 x4_1).f0.f15)) || (!(((rd_T25 x3_1 (wrap64 (x5_2 - 1))).f0.f16) == ((rd_T25 l0 x4_1).f0.f16)) || (!(((rd_T25 x3_1 (wrap64 (x5_2 - 1))).f0.f17) == ((rd_T25 l0 x4_1).f0.f17)) || (!(((rd_T25 x3_1 (wrap64 (x5_2 - 1))).f0.f18) == ((rd_T25 l0 x4_1).f0.f18)) || (!(((rd_T25 x3_1 (wrap64 (x5_2 - 1))).f0.f19) == ((rd_T25 l0 x4_1).f0.f19)) || (!(((rd_T25 x3_1 (wrap64 (x5_2 - 1))).f0.f20) == ((rd_T25 l0 x4_1).f0.f20)) || (!(((rd_T25 x3_1 (wrap64 (x5_2 - 1))).f0.f21) == ((rd_T25 l0 x4_1).f0.f21)) || (!(((rd_T25 x3_1 (wrap64 (x5_2 - 1))).f0.f22) == ((rd_T25 l0 x4_1).f0.f22)) || (!(((rd_T25 x3_1 (wrap64 (x5_2 - 1))).f0.f23) == ((rd_T25 l0 x4_1).f0.f23)) || (!(((rd_T25 x3_1 (wrap64 (x5_2 - 1))).f0.f24) == ((rd_T25 l0 x4_1).f0.f24)) || (!(((rd_T25 x3_1 (wrap64 (x5_2 - 1))).f0.f25) == ((rd_T25 l0 x4_1).f0.f25)) || (!(((rd_T25 x3_1 (wrap64 (x5_2 - 1))).f0.f26) == ((rd_T25 l0 x4_1).f0.f26)) || (!(((rd_T25 x3_1 (wrap64 (x5_2 - 1))).f0.f27) == ((rd_T25 l0 x4_1).f0.f27)) || (!(((rd_T25 x3_1 (wrap64 (x5_2 - 1))).f0.f28) == ((rd_T25 l0 x4_1).f0.f28)) || (!(((rd_T25 x3_1 (wrap64 (x5_2 - 1))).f0.f29) == ((rd_T25 l0 x4_1).f0.f29)) || (!(((rd_T25 x3_1 (wrap64 (x5_2 - 1))).f0.f30) == ((rd_T25 l0 x4_1).f0.f30)) || (!(((rd_T25 x3_1 (wrap64 (x5_2 - 1))).f0.f31) == ((rd_T25 l0 x4_1).f0.f31)))))))))))))))))))))))))))))))))) || (!(((rd_T25 x3_1 (wrap64 (x5_2 - 1))).f1) == ((rd_T25 l0 x4_1).f1)))) = true then ((some (([] : List (S25)) : List (S25))).bind fun y157 => (if 0 ≤ x5_2 then (if x5_2 ≤ (x3_1.length : Int) then ((some (x3_1.take (x5_2 : Int).toNat : List (S25))).bind fun y160 => (if y157.length + y160.length < 3518437208883 then ((some (y157 ++ y160 : List (S25))).bind fun y164 => (if y164.length < 3518437208883 then ((some (y164 ++ [(⟨(⟨(rd_T25 l0 x4_1).f0.f0, (rd_T25 l0 x4_1).f0.f1, (rd_T25 l0 x4_1).f0.f2, (rd_T25 l0 x4_1).f0.f3, (rd_T25 l0 x4_1).f0.f4, (rd_T25 l0 x4_1).f0.f5, (rd_T25 l0 x4_1).f0.f6, (rd_T25 l0 x4_1).f0.f7, (rd_T25 l0 x4_1).f0.f8, (rd_T25 l0 x4_1).f0.f9, (rd_T25 l0 x4_1).f0.f10, (rd_T25 l0 x4_1).f0.f11, (rd_T25 l0 x4_1).f0.f12, (rd_T25 l0 x4_1).f0.f13, (rd_T25 l0 x4_1).f0.f14, (rd_T25 l0 x4_1).f0.f15, (rd_T25 l0 x4_1).f0.f16, (rd_T25 l0 x4_1).f0.f17, (rd_T25 l0 x4_1).f0.f18, (rd_T25 l0 x4_1).f0.f19, (rd_T25 l0 x4_1).f0.f20, (rd_T25 l0 x4_1).f0.f21, (rd_T25 l0 x4_1).f0.f22, (rd_T25 l0 x4_1).f0.f23, (rd_T25 l0 x4_1).f0.f24, (rd_T25 l0 x4_1).f0.f25, (rd_T25 l0 x4_1).f0.f26, (rd_T25 l0 x4_1).f0.f27, (rd_T25 l0 x4_1).f0.f28, (rd_T25 l0 x4_1).f0.f29, (rd_T25 l0 x4_1).f0.f30, (rd_T25 l0 x4_1).f0.f31⟩ : S23), (rd_T25 l0 x4_1).f1⟩ : S25)] : List (S25))).bind fun y168 => ((some (x3_1.drop (x5_2 : Int).toNat : List (S25))).bind fun y171 => (if y168.length + y171.length < 3518437208883 then (coracleref1_Sorted.l0 kj3 l0 (y168 ++ y171) (wrap64 (x4_1 + 1))) else (none)))) else (none))) else (none))) else (none)) else (none))) else (coracleref1_Sorted.l0 kj3 l0 x3_1 (wrap64 (x4_1 + 1)))) else (none)) else (none)) else (none)) else (none))) = some r := by rw [if_neg (show ¬ (false = true) by decide)] at H; exact H
                  clear H
                  have H := H1
                  clear H1
                  by_cases c16 : x5_2 = 0
                  · rw [if_pos c16] at H
                    have c16b0 : (x5_2 == 0) = true := beq_iff_eq.mpr c16
                    have c16b1 : (x5_2 != 0) = false := bne_eq_false_iff_eq.mpr c16
                    clear c16
                    obtain ⟨y134, hy134⟩ : ∃ y_ : List (S25), y_ = (([] : List (S25))) := ⟨_, rfl⟩
                    replace H : (if 0 ≤ x5_2 then (if x5_2 ≤ (x3_1.length : Int) then ((some (x3_1.take (x5_2 : Int).toNat : List (S25))).bind fun y137 => (if y134.length + y137.length < 3518437208883 then ((some (y134 ++ y137 : List (S25))).bind fun y141 => (if 0 ≤ x4_1 then (if x4_1 < (l0.length : Int) then (if y141.length < 3518437208883 then ((some (y141 ++ [(⟨(⟨(rd_T25 l0 x4_1).f0.f0, (rd_T25 l0 x4_1).f0.f1, (rd_T25 l0 x4_1).f0.f2, (rd_T25 l0 x4_1).f0.f3, (rd_T25 l0 x4_1).f0.f4, (rd_T25 l0 x4_1).f0.f5, (rd_T25 l0 x4_1).f0.f6, (rd_T25 l0 x4_1).f0.f7, (rd_T25 l0 x4_1).f0.f8, (rd_T25 l0 x4_1).f0.f9, (rd_T25 l0 x4_1).f0.f10, (rd_T25 l0 x4_1).f0.f11, (rd_T25 l0 x4_1).f0.f12, (rd_T25 l0 x4_1).f0.f13, (rd_T25 l0 x4_1).f0.f14, (rd_T25 l0 x4_1).f0.f15, (rd_T25 l0 x4_1).f0.f16, (rd_T25 l0 x4_1).f0.f17, (rd_T25 l0 x4_1).f0.f18, (rd_T25 l0 x4_1).f0.f19, (rd_T25 l0 x4_1).f0.f20, (rd_T25 l0 x4_1).f0.f21, (rd_T25 l0 x4_1).f0.f22, (rd_T25 l0 x4_1).f0.f23, (rd_T25 l0 x4_1).f0.f24, (rd_T25 l0 x4_1).f0.f25, (rd_T25 l0 x4_1).f0.f26, (rd_T25 l0 x4_1).f0.f27, (rd_T25 l0 x4_1).f0.f28, (rd_T25 l0 x4_1).f0.f29, (rd_T25 l0 x4_1).f0.f30, (rd_T25 l0 x4_1).f0.f31⟩ : S23), (rd_T25 l0 x4_1).f1⟩ : S25)] : List (S25))).bind fun y145 => ((some (x3_1.drop (x5_2 : Int).toNat : List (S25))).bind fun y148 => (if y145.length + y148.length < 3518437208883 then (coracleref1_Sorted.l0 kj3 l0 (y145 ++ y148) (wrap64 (x4_1 + 1))) else (none)))) else (none)) else (none)) else (none))) else (none))) else (none)) else (none)) = some r := by first | (rw [hy134]; with_reducible exact H) | (have H2_ := (Option.bind_some _ _).symm.trans H; rw [hy134]; with_reducible exact H2_) | (have H2_ := (Option.bind_some _ _).symm.trans H; with_reducible exact H2_) | with_reducible exact H | (rw [hy134]; exact H) | exact H
                    have Ny134 := Aside0.mk hy134
                    clear hy134
                    by_cases c17 : 0 ≤ x5_2
                    · rw [if_pos c17] at H
                      have c17b0 := eq_true c17
                      have c17b1 : decide (0 ≤ x5_2) = true := decide_eq_true c17
                      clear c17
                      by_cases c18 : x5_2 ≤ (x3_1.length : Int)
                      · rw [if_pos c18] at H
                        have c18b0 := eq_true c18
                        have c18b1 : decide (x5_2 ≤ (x3_1.length : Int)) = true := decide_eq_true c18
                        clear c18
                        obtain ⟨y137, hy137⟩ : ∃ y_ : List (S25), y_ = (x3_1.take (x5_2 : Int).toNat) := ⟨_, rfl⟩
                        replace H : (if y134.length + y137.length < 3518437208883 then ((some (y134 ++ y137 : List (S25))).bind fun y141 => (if 0 ≤ x4_1 then (if x4_1 < (l0.length : Int) then (if y141.length < 3518437208883 then ((some (y141 ++ [(⟨(⟨(rd_T25 l0 x4_1).f0.f0, (rd_T25 l0 x4_1).f0.f1, (rd_T25 l0 x4_1).f0.f2, (rd_T25 l0 x4_1).f0.f3, (rd_T25 l0 x4_1).f0.f4, (rd_T25 l0 x4_1).f0.f5, (rd_T25 l0 x4_1).f0.f6, (rd_T25 l0 x4_1).f0.f7, (rd_T25 l0 x4_1).f0.f8, (rd_T25 l0 x4_1).f0.f9, (rd_T25 l0 x4_1).f0.f10, (rd_T25 l0 x4_1).f0.f11, (rd_T25 l0 x4_1).f0.f12, (rd_T25 l0 x4_1).f0.f13, (rd_T25 l0 x4_1).f0.f14, (rd_T25 l0 x4_1).f0.f15, (rd_T25 l0 x4_1).f0.f16, (rd_T25 l0 x4_1).f0.f17, (rd_T25 l0 x4_1).f0.f18, (rd_T25 l0 x4_1).f0.f19, (rd_T25 l0 x4_1).f0.f20, (rd_T25 l0 x4_1).f0.f21, (rd_T25 l0 x4_1).f0.f22, (rd_T25 l0 x4_1).f0.f23, (rd_T25 l0 x4_1).f0.f24, (rd_T25 l0 x4_1).f0.f25, (rd_T25 l0 x4_1).f0.f26, (rd_T25 l0 x4_1).f0.f27, (rd_T25 l0 x4_1).f0.f28, (rd_T25 l0 x4_1).f0.f29, (rd_T25 l0 x4_1).f0.f30, (rd_T25 l0 x4_1).f0.f31⟩ : S23), (rd_T25 l0 x4_1).f1⟩ : S25)] : List (S25))).bind fun y145 => ((some (x3_1.drop (x5_2 : Int).toNat : List (S25))).bind fun y148 => (if y145.length + y148.length < 3518437208883 then (coracleref1_Sorted.l0 kj3 l0 (y145 ++ y148) (wrap64 (x4_1 + 1))) else (none)))) else (none)) else (none)) else (none))) else (none)) = some r := by first | (rw [hy137]; with_reducible exact H) | (have H2_ := (Option.bind_some _ _).symm.trans H; rw [hy137]; with_reducible exact H2_) | (have H2_ := (Option.bind_some _ _).symm.trans H; with_reducible exact H2_) | with_reducible exact H | (rw [hy137]; exact H) | exact H
                        have Ny137 := Aside0.mk hy137
                        clear hy137
                        by_cases c19 : y134.length + y137.length < 3518437208883
                        · rw [if_pos c19] at H
                          have LMc19 := Aside0.mk c19
                          clear c19
                          obtain ⟨y141, hy141⟩ : ∃ y_ : List (S25), y_ = (y134 ++ y137) := ⟨_, rfl⟩
                          replace H : (if 0 ≤ x4_1 then (if x4_1 < (l0.length : Int) then (if y141.length < 3518437208883 then ((some (y141 ++ [(⟨(⟨(rd_T25 l0 x4_1).f0.f0, (rd_T25 l0 x4_1).f0.f1, (rd_T25 l0 x4_1).f0.f2, (rd_T25 l0 x4_1).f0.f3, (rd_T25 l0 x4_1).f0.f4, (rd_T25 l0 x4_1).f0.f5, (rd_T25 l0 x4_1).f0.f6, (rd_T25 l0 x4_1).f0.f7, (rd_T25 l0 x4_1).f0.f8, (rd_T25 l0 x4_1).f0.f9, (rd_T25 l0 x4_1).f0.f10, (rd_T25 l0 x4_1).f0.f11, (rd_T25 l0 x4_1).f0.f12, (rd_T25 l0 x4_1).f0.f13, (rd_T25 l0 x4_1).f0.f14, (rd_T25 l0 x4_1).f0.f15, (rd_T25 l0 x4_1).f0.f16, (rd_T25 l0 x4_1).f0.f17, (rd_T25 l0 x4_1).f0.f18, (rd_T25 l0 x4_1).f0.f19, (rd_T25 l0 x4_1).f0.f20, (rd_T25 l0 x4_1).f0.f21, (rd_T25 l0 x4_1).f0.f22, (rd_T25 l0 x4_1).f0.f23, (rd_T25 l0 x4_1).f0.f24, (rd_T25 l0 x4_1).f0.f25, (rd_T25 l0 x4_1).f0.f26, (rd_T25 l0 x4_1).f0.f27, (rd_T25 l0 x4_1).f0.f28, (rd_T25 l0 x4_1).f0.f29, (rd_T25 l0 x4_1).f0.f30, (rd_T25 l0 x4_1).f0.f31⟩ : S23), (rd_T25 l0 x4_1).f1⟩ : S25)] : List (S25))).bind fun y145 => ((some (x3_1.drop (x5_2 : Int).toNat : List (S25))).bind fun y148 => (if y145.length + y148.length < 3518437208883 then (coracleref1_Sorted.l0 kj3 l0 (y145 ++ y148) (wrap64 (x4_1 + 1))) else (none)))) else (none)) else (none)) else (none)) = some r := by first | (rw [hy141]; with_reducible exact H) | (have H2_ := (Option.bind_some _ _).symm.trans H; rw [hy141]; with_reducible exact H2_) | (have H2_ := (Option.bind_some _ _).symm.trans H; with_reducible exact H2_) | with_reducible exact H | (rw [hy141]; exact H) | exact H
                          have Ny141 := Aside0.mk hy141
                          clear hy141
                          by_cases c20 : 0 ≤ x4_1
                          · rw [if_pos c20] at H
                            have c20b0 : decide (0 ≤ x4_1) = true := decide_eq_true c20
                            clear c20
                            by_cases c21 : x4_1 < (l0.length : Int)
                            · rw [if_pos c21] at H
                              have c21b0 : decide (x4_1 < (l0.length : Int)) = true := decide_eq_true c21
                              clear c21
                              by_cases c22 : y141.length < 3518437208883
                              · rw [if_pos c22] at H
                                have LMc22 := Aside0.mk c22
                                clear c22
                                obtain ⟨y145, hy145⟩ : ∃ y_ : List (S25), y_ = (y141 ++ [(⟨(⟨(rd_T25 l0 x4_1).f0.f0, (rd_T25 l0 x4_1).f0.f1, (rd_T25 l0 x4_1).f0.f2, (rd_T25 l0 x4_1).f0.f3, (rd_T25 l0 x4_1).f0.f4, (rd_T25 l0 x4_1).f0.f5, (rd_T25 l0 x4_1).f0.f6, (rd_T25 l0 x4_1).f0.f7, (rd_T25 l0 x4_1).f0.f8, (rd_T25 l0 x4_1).f0.f9, (rd_T25 l0 x4_1).f0.f10, (rd_T25 l0 x4_1).f0.f11, (rd_T25 l0 x4_1).f0.f12, (rd_T25 l0 x4_1).f0.f13, (rd_T25 l0 x4_1).f0.f14, (rd_T25 l0 x4_1).f0.f15, (rd_T25 l0 x4_1).f0.f16, (rd_T25 l0 x4_1).f0.f17, (rd_T25 l0 x4_1).f0.f18, (rd_T25 l0 x4_1).f0.f19, (rd_T25 l0 x4_1).f0.f20, (rd_T25 l0 x4_1).f0.f21, (rd_T25 l0 x4_1).f0.f22, (rd_T25 l0 x4_1).f0.f23, (rd_T25 l0 x4_1).f0.f24, (rd_T25 l0 x4_1).f0.f25, (rd_T25 l0 x4_1).f0.f26, (rd_T25 l0 x4_1).f0.f27, (rd_T25 l0 x4_1).f0.f28, (rd_T25 l0 x4_1).f0.f29, (rd_T25 l0 x4_1).f0.f30, (rd_T25 l0 x4_1).f0.f31⟩ : S23), (rd_T25 l0 x4_1).f1⟩ : S25)]) := ⟨_, rfl⟩
                                replace H : ((some (x3_1.drop (x5_2 : Int).toNat : List (S25))).bind fun y148 => (if y145.length + y148.length < 3518437208883 then (coracleref1_Sorted.l0 kj3 l0 (y145 ++ y148) (wrap64 (x4_1 + 1))) else (none))) = some r := by first | (rw [hy145]; with_reducible exact H) | (have H2_ := (Option.bind_some _ _).symm.trans H; rw [hy145]; with_reducible exact H2_) | (have H2_ := (Option.bind_some _ _).symm.trans H; with_reducible exact H2_) | with_reducible exact H | (rw [hy145]; exact H) | exact H
                                have Ny145 := Aside0.mk hy145
                                clear hy145
                                have c23b0 := eq_true (of_decide_eq_true (by first | (with_reducible assumption) | assumption) : 0 ≤ x5_2)
                                have c24b0 := eq_true (of_decide_eq_true (by first | (with_reducible assumption) | assumption) : x5_2 ≤ (x3_1.length : Int))
                                obtain ⟨y148, hy148⟩ : ∃ y_ : List (S25), y_ = (x3_1.drop (x5_2 : Int).toNat) := ⟨_, rfl⟩
                                replace H : (if y145.length + y148.length < 3518437208883 then (coracleref1_Sorted.l0 kj3 l0 (y145 ++ y148) (wrap64 (x4_1 + 1))) else (none)) = some r := by first | (rw [hy148]; with_reducible exact H) | (have H2_ := (Option.bind_some _ _).symm.trans H; rw [hy148]; with_reducible exact H2_) | (have H2_ := (Option.bind_some _ _).symm.trans H; with_reducible exact H2_) | with_reducible exact H | (rw [hy148]; exact H) | exact H
                                have Ny148 := Aside0.mk hy148
                                clear hy148
                                by_cases c25 : y145.length + y148.length < 3518437208883
                                · rw [if_pos c25] at H
                                  have LMc25 := Aside0.mk c25
                                  clear c25
                                  obtain ⟨y152, hy152⟩ : ∃ y_ : List (S25), y_ = (y145 ++ y148) := ⟨_, rfl⟩
                                  replace H : (coracleref1_Sorted.l0 kj3 l0 y152 (wrap64 (x4_1 + 1))) = some r := by first | (rw [hy152]; with_reducible exact H) | (have H2_ := (Option.bind_some _ _).symm.trans H; rw [hy152]; with_reducible exact H2_) | (have H2_ := (Option.bind_some _ _).symm.trans H; with_reducible exact H2_) | with_reducible exact H | (rw [hy152]; exact H) | exact H
                                  have Ny152 := Aside0.mk hy152
                                  clear hy152
                                  have H' := Aside0.mk H
                                  clear H
                                  try go_wp2
                                  have n0_ := Aside0.mk (Kd.R_drew HO_3.out)
                                  have n1_ := Aside0.mk (below_drew1 HB.out)
                                  clear HO_3
                                  clear HB
                                  have HO_3 := n0_
                                  have HB := n1_
                                  clear n0_ n1_
                                  refine start_ (n := 14) (S := fun w' => True) (ds := []) #[false, false, false, false, false, false, false, false, false, false, false, false, false, false] (by kernel_rfl) rfl rfl trivial (fun hHeld => ?_); refine with_tabW coracleref1_Sorted.tab8 coracleref1_Sorted.bits8 (fun HT_ HW_ => ?_)
                                  generalize wc.drew = w26 at HO_3 HB hHeld ⊢
                                  refine pure_ (i := 0) (N := some 30) (v := ?_) (a' := ?_) #[true, false, false, false, false, false, false, false, false, false, false, false, false, false] rfl rfl (any_of HT_.out (by kernel_rfl)) (fun _ _ _ h => h) (Or.inl ⟨by rfl, ?_⟩) ?_ ?_
                                  rotate_left
                                  · intro w'
                                    go_simp
                                    with_reducible rfl
                                  rotate_left
                                  · simp only [Act.put, List.setIfInBounds_toArray, List.set_cons_zero, List.set_cons_succ, i64_w, i32_w]
                                    rfl
                                  refine pure_ (i := 1) (N := some 31) (v := ?_) (a' := ?_) #[true, true, false, false, false, false, false, false, false, false, false, false, false, false] rfl rfl (any_of HT_.out (by kernel_rfl)) (fun _ _ _ h => h) (Or.inl ⟨by rfl, ?_⟩) ?_ ?_
                                  rotate_left
                                  · intro w'
                                    go_simp
                                    with_reducible rfl
                                  rotate_left
                                  · simp only [Act.put, List.setIfInBounds_toArray, List.set_cons_zero, List.set_cons_succ, i64_w, i32_w]
                                    rfl
                                  refine pure_ (i := 2) (N := some 32) (v := ?_) (a' := ?_) #[true, true, true, false, false, false, false, false, false, false, false, false, false, false] rfl rfl (any_of HT_.out (by kernel_rfl)) (fun _ _ _ h => h) (Or.inl ⟨by rfl, ?_⟩) ?_ ?_
                                  rotate_left
                                  · intro w'
                                    go_simp
                                    with_reducible rfl
                                  rotate_left
                                  · simp only [Act.put, List.setIfInBounds_toArray, List.set_cons_zero, List.set_cons_succ, i64_w, i32_w]
                                    rfl
                                  refine pure_ (i := 3) (N := some 33) (v := undef) (a' := ?_) #[true, true, true, true, false, false, false, false, false, false, false, false, false, false] rfl rfl (any_of HT_.out (by kernel_rfl)) (fun _ _ _ h => h) (Or.inr ⟨by rfl, rfl⟩) ?_ ?_
                                  rotate_left
                                  · simp only [Act.put, List.setIfInBounds_toArray, List.set_cons_zero, List.set_cons_succ, i64_w, i32_w]
                                    rfl
                                  refine pure_ (i := 4) (N := some 34) (v := undef) (a' := ?_) #[true, true, true, true, true, false, false, false, false, false, false, false, false, false] rfl rfl (any_of HT_.out (by kernel_rfl)) (fun _ _ _ h => h) (Or.inr ⟨by rfl, rfl⟩) ?_ ?_
                                  rotate_left
                                  · simp only [Act.put, List.setIfInBounds_toArray, List.set_cons_zero, List.set_cons_succ, i64_w, i32_w]
                                    rfl
                                  refine pure_ (i := 5) (N := some 35) (v := undef) (a' := ?_) #[true, true, true, true, true, true, false, false, false, false, false, false, false, false] rfl rfl (any_of HT_.out (by kernel_rfl)) (fun _ _ _ h => h) (Or.inr ⟨by rfl, rfl⟩) ?_ ?_
                                  rotate_left
                                  · simp only [Act.put, List.setIfInBounds_toArray, List.set_cons_zero, List.set_cons_succ, i64_w, i32_w]
                                    rfl
                                  refine pure_ (i := 6) (N := some 36) (v := undef) (a' := ?_) #[true, true, true, true, true, true, true, false, false, false, false, false, false, false] rfl rfl (any_of HT_.out (by kernel_rfl)) (fun _ _ _ h => h) (Or.inr ⟨by rfl, rfl⟩) ?_ ?_
                                  rotate_left
                                  · simp only [Act.put, List.setIfInBounds_toArray, List.set_cons_zero, List.set_cons_succ, i64_w, i32_w]
                                    rfl
                                  refine pure_ (i := 7) (N := some 37) (v := undef) (a' := ?_) #[true, true, true, true, true, true, true, true, false, false, false, false, false, false] rfl rfl (any_of HT_.out (by kernel_rfl)) (fun _ _ _ h => h) (Or.inr ⟨by rfl, rfl⟩) ?_ ?_
                                  rotate_left
                                  · simp only [Act.put, List.setIfInBounds_toArray, List.set_cons_zero, List.set_cons_succ, i64_w, i32_w]
                                    rfl
                                  refine pure_ (i := 8) (N := some 38) (v := undef) (a' := ?_) #[true, true, true, true, true, true, true, true, true, false, false, false, false, false] rfl rfl (any_of HT_.out (by kernel_rfl)) (fun _ _ _ h => h) (Or.inr ⟨by rfl, rfl⟩) ?_ ?_
                                  rotate_left
                                  · simp only [Act.put, List.setIfInBounds_toArray, List.set_cons_zero, List.set_cons_succ, i64_w, i32_w]
                                    rfl
                                  refine pure_ (i := 9) (N := some 39) (v := undef) (a' := ?_) #[true, true, true, true, true, true, true, true, true, true, false, false, false, false] rfl rfl (any_of HT_.out (by kernel_rfl)) (fun _ _ _ h => h) (Or.inr ⟨by rfl, rfl⟩) ?_ ?_
                                  rotate_left
                                  · simp only [Act.put, List.setIfInBounds_toArray, List.set_cons_zero, List.set_cons_succ, i64_w, i32_w]
                                    rfl
                                  refine pure_ (i := 10) (N := some 40) (v := undef) (a' := ?_) #[true, true, true, true, true, true, true, true, true, true, true, false, false, false] rfl rfl (any_of HT_.out (by kernel_rfl)) (fun _ _ _ h => h) (Or.inr ⟨by rfl, rfl⟩) ?_ ?_
                                  rotate_left
                                  · simp only [Act.put, List.setIfInBounds_toArray, List.set_cons_zero, List.set_cons_succ, i64_w, i32_w]
                                    rfl
                                  refine pure_ (i := 11) (N := some 41) (v := undef) (a' := ?_) #[true, true, true, true, true, true, true, true, true, true, true, true, false, false] rfl rfl (any_of HT_.out (by kernel_rfl)) (fun _ _ _ h => h) (Or.inr ⟨by rfl, rfl⟩) ?_ ?_
                                  rotate_left
                                  · simp only [Act.put, List.setIfInBounds_toArray, List.set_cons_zero, List.set_cons_succ, i64_w, i32_w]
                                    rfl
                                  refine pure_ (i := 12) (N := some 42) (v := undef) (a' := ?_) #[true, true, true, true, true, true, true, true, true, true, true, true, true, false] rfl rfl (any_of HT_.out (by kernel_rfl)) (fun _ _ _ h => h) (Or.inr ⟨by rfl, rfl⟩) ?_ ?_
                                  rotate_left
                                  · simp only [Act.put, List.setIfInBounds_toArray, List.set_cons_zero, List.set_cons_succ, i64_w, i32_w]
                                    rfl
                                  refine pure_ (i := 13) (N := some 43) (v := ?_) (a' := ?_) #[true, true, true, true, true, true, true, true, true, true, true, true, true, true] rfl rfl (any_of HT_.out (by kernel_rfl)) (fun _ _ _ h => h) (Or.inl ⟨by rfl, ?_⟩) ?_ ?_
                                  rotate_left
                                  · intro w'
                                    go_simp
                                    with_reducible rfl
                                  rotate_left
                                  · simp only [Act.put, List.setIfInBounds_toArray, List.set_cons_zero, List.set_cons_succ, i64_w, i32_w]
                                    rfl
                                  refine done_ (done_of HT_.out (by kernel_rfl)) ?_
                                  try go_wp2
                                  obtain ⟨ad9, e9, _⟩ := at_T25 HR0.out x4_1 (of_decide_eq_true (by first | (with_reducible assumption) | assumption)) (of_decide_eq_true (by first | (with_reducible assumption) | assumption))
                                  cases e9
                                  refine sorted.reg9 (l0 := l0) (xs := x3_1) (w0 := w) (i := x4_1) (x5 := x5_2) (ok := fun _ => True) (by rfl) (by rfl) (by rfl) (by rfl) (by rfl) (of_decide_eq_true (by first | (with_reducible assumption) | assumption)) (of_decide_eq_true (by first | (with_reducible assumption) | assumption)) (of_decide_eq_true (by first | (with_reducible assumption) | assumption)) (of_decide_eq_true (by first | (with_reducible assumption) | assumption)) ?l9 (by (with_reducible repeat (first | apply Kd.R_alloc | apply Kd.R_drewN | apply Kd.R_drew)); exact HO_3.out) HR0.out (by repeat (first | (with_reducible first | exact HB.out | apply below_alloc | apply pw_below_drewN | apply below_drew1) | exact HB.out)) ?_
                                  case l9 => (have h := LMc25.out; rw [Ny145.out, Ny141.out, Ny134.out, Ny137.out, Ny148.out] at h; simp only [List.length_append, List.length_take, List.length_drop, List.length_cons, List.length_nil] at h; omega)
                                  intro m44 m48 m53 m54 m57 m58 w9 hR9 hB9
                                  replace hR9 : Kd.R k25 25 w9 w.heap.size (fun _ => True) m58 y152 := by rw [Ny152.out, Ny145.out, Ny141.out, Ny134.out, Ny137.out, Ny148.out]; exact hR9
                                  have HO9 := Aside0.mk hR9
                                  have HB9 := Aside0.mk hB9
                                  clear hR9 hB9 HO_3 HB
                                  go_wp2
                                  go_roundg kj3
                                  case measure => have := HK1.out; have := HK2.out; have := HJ3.out; omega
                                  case rel => exact ⟨(y152), (wrap64 (x4_1 + 1)), (by first | rfl | (simp; done) | (simp [*]; done)), H', ⟨by have := HK1.out; have := HK2.out; have := HJ3.out; omega⟩, ⟨by (with_reducible repeat (first | apply Kd.R_alloc | apply Kd.R_drewN | apply Kd.R_drew)); exact Kd.R_mono HO9.out (fun _ hk => trivial)⟩, ⟨by repeat (first | (with_reducible first | exact HB9.out | apply below_alloc | apply pw_below_drewN | apply below_drew1) | exact HB9.out)⟩⟩
                                · rw [if_neg c25] at H
                                  exact absurd H (by simp)
                              · rw [if_neg c22] at H
                                exact absurd H (by simp)
                            · rw [if_neg c21] at H
                              exact absurd H (by simp)
                          · rw [if_neg c20] at H
                            exact absurd H (by simp)
                        · rw [if_neg c19] at H
                          exact absurd H (by simp)
                      · rw [if_neg c18] at H
                        exact absurd H (by simp)
                    · rw [if_neg c17] at H
                      exact absurd H (by simp)
                  · rw [if_neg c16] at H
                    have c16b0 : (x5_2 == 0) = false := beq_eq_false_iff_ne.mpr c16
                    have c16b1 : (x5_2 != 0) = true := bne_iff_ne.mpr c16
                    obtain ⟨ji34, hji34⟩ : ∃ j_ : Int, (wrap64 (x5_2 - 1)) = j_ := ⟨_, rfl⟩
                    replace H : (if 0 ≤ (ji34) then (if (ji34) < (x3_1.length : Int) then (if 0 ≤ x4_1 then (if x4_1 < (l0.length : Int) then (if ((!(((rd_T25 x3_1 (ji34)).f0.f0) == ((rd_T25 l0 x4_1).f0.f0)) || (!(((rd_T25 x3_1 (ji34)).f0.f1) == ((rd_T25 l0 x4_1).f0.f1)) || (!(((rd_T25 x3_1 (ji34)).f0.f2) == ((rd_T25 l0 x4_1).f0.f2)) || (!(((rd_T25 x3_1 (ji34)).f0.f3) == ((rd_T25 l0 x4_1).f0.f3)) || (!(((rd_T25 x3_1 (ji34)).f0.f4) == ((rd_T25 l0 x4_1).f0.f4)) || (!(((rd_T25 x3_1 (ji34)).f0.f5) == ((rd_T25 l0 x4_1).f0.f5)) || (!(((rd_T25 x3_1 (ji34)).f0.f6) == ((rd_T25 l0 x4_1).f0.f6)) || (!(((rd_T25 x3_1 (ji34)).f0.f7) == ((rd_T25 l0 x4_1).f0.f7)) || (!(((rd_T25 x3_1 (ji34)).f0.f8) == ((rd_T25 l0 x4_1).f0.f8)) || (!(((rd_T25 x3_1 (ji34)).f0.f9) == ((rd_T25 l0 x4_1).f0.f9)) || (!(((rd_T25 x3_1 (ji34)).f0.f10) == ((rd_T25 l0 x4_1).f0.f10)) || (!(((rd_T25 x3_1 (ji34)).f0.f11) == ((rd_T25 l0 x4_1).f0.f11)) || (!(((rd_T25 x3_1 (ji34)).f0.f12) == ((rd_T25 l0 x4_1).f0.f12)) || (!(((rd_T25 x3_1 (ji34)).f0.f13) == ((rd_T25 l0 x4_1).f0.f13)) || (!(((rd_T25 x3_1 (ji34)).f0.f14) == ((rd_T25 l0 x4_1).f0.f14)) || (!(((rd_T25 x3_1 (ji34)).f0.f15) == ((rd_T25 l0 x4_1).f0.f15)) || (!(((rd_T25 x3_1 (ji34)).f0.f16) == ((rd_T25 l0 x4_1).f0.f16)) || (!(((rd_T25 x3_1 (ji34)).f0.f17) == ((rd_T25 l0 x4_1).f0.f17)) || (!(((rd_T25 x3_1 (ji34)).f0.f18) == ((rd_T25 l0 x4_1).f0.f18)) || (!(((rd_T25 x3_1 (ji34)).f0.f19) == ((rd_T25 l0 x4_1).f0.f19)) || (!(((rd_T25 x3_1 (ji34)).f0.f20) == ((rd_T25 l0 x4_1).f0.f20)) || (!(((rd_T25 x3_1 (ji34)).f0.f21) == ((rd_T25 l0 x4_1).f0.f21)) || (!(((rd_T25 x3_1 (ji34)).f0.f22) == ((rd_T25 l0 x4_1).f0.f22)) || (!(((rd_T25 x3_1 (ji34)).f0.f23) == ((rd_T25 l0 x4_1).f0.f23)) || (!(((rd_T25 x3_1 (ji34)).f0.f24) == ((rd_T25 l0 x4_1).f0.f24)) || (!(((rd_T25 x3_1 (ji34)).f0.f25) == ((rd_T25 l0 x4_1).f0.f25)) || (!(((rd_T25 x3_1 (ji34)).f0.f26) == ((rd_T25 l0 x4_1).f0.f26)) || (!(((rd_T25 x3_1 (ji34)).f0.f27) == ((rd_T25 l0 x4_1).f0.f27)) || (!(((rd_T25 x3_1 (ji34)).f0.f28) == ((rd_T25 l0 x4_1).f0.f28)) || (!(((rd_T25 x3_1 (ji34)).f0.f29) == ((rd_T25 l0 x4_1).f0.f29)) || (!(((rd_T25 x3_1 (ji34)).f0.f30) == ((rd_T25 l0 x4_1).f0.f30)) || (!(((rd_T25 x3_1 (ji34)).f0.f31) == ((rd_T25 l0 x4_1).f0.f31)))))))))))))))))))))))))))))))))) || (!(((rd_T25 x3_1 (ji34)).f1) == ((rd_T25 l0 x4_1).f1)))) = true then ((some (([] : List (S25)) : List (S25))).bind fun y157 => (if 0 ≤ x5_2 then (if x5_2 ≤ (x3_1.length : Int) then ((some (x3_1.take (x5_2 : Int).toNat : List (S25))).bind fun y160 => (if y157.length + y160.length < 3518437208883 then ((some (y157 ++ y160 : List (S25))).bind fun y164 => (if y164.length < 3518437208883 then ((some (y164 ++ [(⟨(⟨(rd_T25 l0 x4_1).f0.f0, (rd_T25 l0 x4_1).f0.f1, (rd_T25 l0 x4_1).f0.f2, (rd_T25 l0 x4_1).f0.f3, (rd_T25 l0 x4_1).f0.f4, (rd_T25 l0 x4_1).f0.f5, (rd_T25 l0 x4_1).f0.f6, (rd_T25 l0 x4_1).f0.f7, (rd_T25 l0 x4_1).f0.f8, (rd_T25 l0 x4_1).f0.f9, (rd_T25 l0 x4_1).f0.f10, (rd_T25 l0 x4_1).f0.f11, (rd_T25 l0 x4_1).f0.f12, (rd_T25 l0 x4_1).f0.f13, (rd_T25 l0 x4_1).f0.f14, (rd_T25 l0 x4_1).f0.f15, (rd_T25 l0 x4_1).f0.f16, (rd_T25 l0 x4_1).f0.f17, (rd_T25 l0 x4_1).f0.f18, (rd_T25 l0 x4_1).f0.f19, (rd_T25 l0 x4_1).f0.f20, (rd_T25 l0 x4_1).f0.f21, (rd_T25 l0 x4_1).f0.f22, (rd_T25 l0 x4_1).f0.f23, (rd_T25 l0 x4_1).f0.f24, (rd_T25 l0 x4_1).f0.f25, (rd_T25 l0 x4_1).f0.f26, (rd_T25 l0 x4_1).f0.f27, (rd_T25 l0 x4_1).f0.f28, (rd_T25 l0 x4_1).f0.f29, (rd_T25 l0 x4_1).f0.f30, (rd_T25 l0 x4_1).f0.f31⟩ : S23), (rd_T25 l0 x4_1).f1⟩ : S25)] : List (S25))).bind fun y168 => ((some (x3_1.drop (x5_2 : Int).toNat : List (S25))).bind fun y171 => (if y168.length + y171.length < 3518437208883 then (coracleref1_Sorted.l0 kj3 l0 (y168 ++ y171) (wrap64 (x4_1 + 1))) else (none)))) else (none))) else (none))) else (none)) else (none))) else (coracleref1_Sorted.l0 kj3 l0 x3_1 (wrap64 (x4_1 + 1)))) else (none)) else (none)) else (none)) else (none)) = some r := by first | (rw [hji34] at H; exact H) | (simp only [hji34] at H ⊢; exact H)
                    have hji34w : (IntKind.i64.wrap (x5_2 - 1)) = ji34 := (i64_w _).trans hji34
                    by_cases c35 : 0 ≤ (ji34)
                    · rw [if_pos c35] at H
                      have c35b0 : decide (0 ≤ (ji34)) = true := decide_eq_true c35
                      clear c35
                      by_cases c36 : (ji34) < (x3_1.length : Int)
                      · rw [if_pos c36] at H
                        have c36b0 : decide ((ji34) < (x3_1.length : Int)) = true := decide_eq_true c36
                        clear c36
                        by_cases c37 : 0 ≤ x4_1
                        · rw [if_pos c37] at H
                          have c37b0 : decide (0 ≤ x4_1) = true := decide_eq_true c37
                          clear c37
                          by_cases c38 : x4_1 < (l0.length : Int)
                          · rw [if_pos c38] at H
                            have c38b0 : decide (x4_1 < (l0.length : Int)) = true := decide_eq_true c38
                            clear c38
                            by_cases c39 : ((!(((rd_T25 x3_1 (ji34)).f0.f0) == ((rd_T25 l0 x4_1).f0.f0)) || (!(((rd_T25 x3_1 (ji34)).f0.f1) == ((rd_T25 l0 x4_1).f0.f1)) || (!(((rd_T25 x3_1 (ji34)).f0.f2) == ((rd_T25 l0 x4_1).f0.f2)) || (!(((rd_T25 x3_1 (ji34)).f0.f3) == ((rd_T25 l0 x4_1).f0.f3)) || (!(((rd_T25 x3_1 (ji34)).f0.f4) == ((rd_T25 l0 x4_1).f0.f4)) || (!(((rd_T25 x3_1 (ji34)).f0.f5) == ((rd_T25 l0 x4_1).f0.f5)) || (!(((rd_T25 x3_1 (ji34)).f0.f6) == ((rd_T25 l0 x4_1).f0.f6)) || (!(((rd_T25 x3_1 (ji34)).f0.f7) == ((rd_T25 l0 x4_1).f0.f7)) || (!(((rd_T25 x3_1 (ji34)).f0.f8) == ((rd_T25 l0 x4_1).f0.f8)) || (!(((rd_T25 x3_1 (ji34)).f0.f9) == ((rd_T25 l0 x4_1).f0.f9)) || (!(((rd_T25 x3_1 (ji34)).f0.f10) == ((rd_T25 l0 x4_1).f0.f10)) || (!(((rd_T25 x3_1 (ji34)).f0.f11) == ((rd_T25 l0 x4_1).f0.f11)) || (!(((rd_T25 x3_1 (ji34)).f0.f12) == ((rd_T25 l0 x4_1).f0.f12)) || (!(((rd_T25 x3_1 (ji34)).f0.f13) == ((rd_T25 l0 x4_1).f0.f13)) || (!(((rd_T25 x3_1 (ji34)).f0.f14) == ((rd_T25 l0 x4_1).f0.f14)) || (!(((rd_T25 x3_1 (ji34)).f0.f15) == ((rd_T25 l0 x4_1).f0.f15)) || (!(((rd_T25 x3_1 (ji34)).f0.f16) == ((rd_T25 l0 x4_1).f0.f16)) || (!(((rd_T25 x3_1 (ji34)).f0.f17) == ((rd_T25 l0 x4_1).f0.f17)) || (!(((rd_T25 x3_1 (ji34)).f0.f18) == ((rd_T25 l0 x4_1).f0.f18)) || (!(((rd_T25 x3_1 (ji34)).f0.f19) == ((rd_T25 l0 x4_1).f0.f19)) || (!(((rd_T25 x3_1 (ji34)).f0.f20) == ((rd_T25 l0 x4_1).f0.f20)) || (!(((rd_T25 x3_1 (ji34)).f0.f21) == ((rd_T25 l0 x4_1).f0.f21)) || (!(((rd_T25 x3_1 (ji34)).f0.f22) == ((rd_T25 l0 x4_1).f0.f22)) || (!(((rd_T25 x3_1 (ji34)).f0.f23) == ((rd_T25 l0 x4_1).f0.f23)) || (!(((rd_T25 x3_1 (ji34)).f0.f24) == ((rd_T25 l0 x4_1).f0.f24)) || (!(((rd_T25 x3_1 (ji34)).f0.f25) == ((rd_T25 l0 x4_1).f0.f25)) || (!(((rd_T25 x3_1 (ji34)).f0.f26) == ((rd_T25 l0 x4_1).f0.f26)) || (!(((rd_T25 x3_1 (ji34)).f0.f27) == ((rd_T25 l0 x4_1).f0.f27)) || (!(((rd_T25 x3_1 (ji34)).f0.f28) == ((rd_T25 l0 x4_1).f0.f28)) || (!(((rd_T25 x3_1 (ji34)).f0.f29) == ((rd_T25 l0 x4_1).f0.f29)) || (!(((rd_T25 x3_1 (ji34)).f0.f30) == ((rd_T25 l0 x4_1).f0.f30)) || (!(((rd_T25 x3_1 (ji34)).f0.f31) == ((rd_T25 l0 x4_1).f0.f31)))))))))))))))))))))))))))))))))) || (!(((rd_T25 x3_1 (ji34)).f1) == ((rd_T25 l0 x4_1).f1)))) = true
                            · rw [if_pos c39] at H
                              have c39b0 : ((!(((rd_T25 x3_1 (ji34)).f0.f0) == ((rd_T25 l0 x4_1).f0.f0)) || (!(((rd_T25 x3_1 (ji34)).f0.f1) == ((rd_T25 l0 x4_1).f0.f1)) || (!(((rd_T25 x3_1 (ji34)).f0.f2) == ((rd_T25 l0 x4_1).f0.f2)) || (!(((rd_T25 x3_1 (ji34)).f0.f3) == ((rd_T25 l0 x4_1).f0.f3)) || (!(((rd_T25 x3_1 (ji34)).f0.f4) == ((rd_T25 l0 x4_1).f0.f4)) || (!(((rd_T25 x3_1 (ji34)).f0.f5) == ((rd_T25 l0 x4_1).f0.f5)) || (!(((rd_T25 x3_1 (ji34)).f0.f6) == ((rd_T25 l0 x4_1).f0.f6)) || (!(((rd_T25 x3_1 (ji34)).f0.f7) == ((rd_T25 l0 x4_1).f0.f7)) || (!(((rd_T25 x3_1 (ji34)).f0.f8) == ((rd_T25 l0 x4_1).f0.f8)) || (!(((rd_T25 x3_1 (ji34)).f0.f9) == ((rd_T25 l0 x4_1).f0.f9)) || (!(((rd_T25 x3_1 (ji34)).f0.f10) == ((rd_T25 l0 x4_1).f0.f10)) || (!(((rd_T25 x3_1 (ji34)).f0.f11) == ((rd_T25 l0 x4_1).f0.f11)) || (!(((rd_T25 x3_1 (ji34)).f0.f12) == ((rd_T25 l0 x4_1).f0.f12)) || (!(((rd_T25 x3_1 (ji34)).f0.f13) == ((rd_T25 l0 x4_1).f0.f13)) || (!(((rd_T25 x3_1 (ji34)).f0.f14) == ((rd_T25 l0 x4_1).f0.f14)) || (!(((rd_T25 x3_1 (ji34)).f0.f15) == ((rd_T25 l0 x4_1).f0.f15)) || (!(((rd_T25 x3_1 (ji34)).f0.f16) == ((rd_T25 l0 x4_1).f0.f16)) || (!(((rd_T25 x3_1 (ji34)).f0.f17) == ((rd_T25 l0 x4_1).f0.f17)) || (!(((rd_T25 x3_1 (ji34)).f0.f18) == ((rd_T25 l0 x4_1).f0.f18)) || (!(((rd_T25 x3_1 (ji34)).f0.f19) == ((rd_T25 l0 x4_1).f0.f19)) || (!(((rd_T25 x3_1 (ji34)).f0.f20) == ((rd_T25 l0 x4_1).f0.f20)) || (!(((rd_T25 x3_1 (ji34)).f0.f21) == ((rd_T25 l0 x4_1).f0.f21)) || (!(((rd_T25 x3_1 (ji34)).f0.f22) == ((rd_T25 l0 x4_1).f0.f22)) || (!(((rd_T25 x3_1 (ji34)).f0.f23) == ((rd_T25 l0 x4_1).f0.f23)) || (!(((rd_T25 x3_1 (ji34)).f0.f24) == ((rd_T25 l0 x4_1).f0.f24)) || (!(((rd_T25 x3_1 (ji34)).f0.f25) == ((rd_T25 l0 x4_1).f0.f25)) || (!(((rd_T25 x3_1 (ji34)).f0.f26) == ((rd_T25 l0 x4_1).f0.f26)) || (!(((rd_T25 x3_1 (ji34)).f0.f27) == ((rd_T25 l0 x4_1).f0.f27)) || (!(((rd_T25 x3_1 (ji34)).f0.f28) == ((rd_T25 l0 x4_1).f0.f28)) || (!(((rd_T25 x3_1 (ji34)).f0.f29) == ((rd_T25 l0 x4_1).f0.f29)) || (!(((rd_T25 x3_1 (ji34)).f0.f30) == ((rd_T25 l0 x4_1).f0.f30)) || (!(((rd_T25 x3_1 (ji34)).f0.f31) == ((rd_T25 l0 x4_1).f0.f31)))))))))))))))))))))))))))))))))) || (!(((rd_T25 x3_1 (ji34)).f1) == ((rd_T25 l0 x4_1).f1)))) = true := c39
                              clear c39
                              obtain ⟨y157, hy157⟩ : ∃ y_ : List (S25), y_ = (([] : List (S25))) := ⟨_, rfl⟩
                              replace H : (if 0 ≤ x5_2 then (if x5_2 ≤ (x3_1.length : Int) then ((some (x3_1.take (x5_2 : Int).toNat : List (S25))).bind fun y160 => (if y157.length + y160.length < 3518437208883 then ((some (y157 ++ y160 : List (S25))).bind fun y164 => (if y164.length < 3518437208883 then ((some (y164 ++ [(⟨(⟨(rd_T25 l0 x4_1).f0.f0, (rd_T25 l0 x4_1).f0.f1, (rd_T25 l0 x4_1).f0.f2, (rd_T25 l0 x4_1).f0.f3, (rd_T25 l0 x4_1).f0.f4, (rd_T25 l0 x4_1).f0.f5, (rd_T25 l0 x4_1).f0.f6, (rd_T25 l0 x4_1).f0.f7, (rd_T25 l0 x4_1).f0.f8, (rd_T25 l0 x4_1).f0.f9, (rd_T25 l0 x4_1).f0.f10, (rd_T25 l0 x4_1).f0.f11, (rd_T25 l0 x4_1).f0.f12, (rd_T25 l0 x4_1).f0.f13, (rd_T25 l0 x4_1).f0.f14, (rd_T25 l0 x4_1).f0.f15, (rd_T25 l0 x4_1).f0.f16, (rd_T25 l0 x4_1).f0.f17, (rd_T25 l0 x4_1).f0.f18, (rd_T25 l0 x4_1).f0.f19, (rd_T25 l0 x4_1).f0.f20, (rd_T25 l0 x4_1).f0.f21, (rd_T25 l0 x4_1).f0.f22, (rd_T25 l0 x4_1).f0.f23, (rd_T25 l0 x4_1).f0.f24, (rd_T25 l0 x4_1).f0.f25, (rd_T25 l0 x4_1).f0.f26, (rd_T25 l0 x4_1).f0.f27, (rd_T25 l0 x4_1).f0.f28, (rd_T25 l0 x4_1).f0.f29, (rd_T25 l0 x4_1).f0.f30, (rd_T25 l0 x4_1).f0.f31⟩ : S23), (rd_T25 l0 x4_1).f1⟩ : S25)] : List (S25))).bind fun y168 => ((some (x3_1.drop (x5_2 : Int).toNat : List (S25))).bind fun y171 => (if y168.length + y171.length < 3518437208883 then (coracleref1_Sorted.l0 kj3 l0 (y168 ++ y171) (wrap64 (x4_1 + 1))) else (none)))) else (none))) else (none))) else (none)) else (none)) = some r := by first | (rw [hy157]; with_reducible exact H) | (have H2_ := (Option.bind_some _ _).symm.trans H; rw [hy157]; with_reducible exact H2_) | (have H2_ := (Option.bind_some _ _).symm.trans H; with_reducible exact H2_) | with_reducible exact H | (rw [hy157]; exact H) | exact H
                              have Ny157 := Aside0.mk hy157
                              clear hy157
                              by_cases c40 : 0 ≤ x5_2
                              · rw [if_pos c40] at H
                                have c40b0 := eq_true c40
                                have c40b1 : decide (0 ≤ x5_2) = true := decide_eq_true c40
                                clear c40
                                by_cases c41 : x5_2 ≤ (x3_1.length : Int)
                                · rw [if_pos c41] at H
                                  have c41b0 := eq_true c41
                                  have c41b1 : decide (x5_2 ≤ (x3_1.length : Int)) = true := decide_eq_true c41
                                  clear c41
                                  obtain ⟨y160, hy160⟩ : ∃ y_ : List (S25), y_ = (x3_1.take (x5_2 : Int).toNat) := ⟨_, rfl⟩
                                  replace H : (if y157.length + y160.length < 3518437208883 then ((some (y157 ++ y160 : List (S25))).bind fun y164 => (if y164.length < 3518437208883 then ((some (y164 ++ [(⟨(⟨(rd_T25 l0 x4_1).f0.f0, (rd_T25 l0 x4_1).f0.f1, (rd_T25 l0 x4_1).f0.f2, (rd_T25 l0 x4_1).f0.f3, (rd_T25 l0 x4_1).f0.f4, (rd_T25 l0 x4_1).f0.f5, (rd_T25 l0 x4_1).f0.f6, (rd_T25 l0 x4_1).f0.f7, (rd_T25 l0 x4_1).f0.f8, (rd_T25 l0 x4_1).f0.f9, (rd_T25 l0 x4_1).f0.f10, (rd_T25 l0 x4_1).f0.f11, (rd_T25 l0 x4_1).f0.f12, (rd_T25 l0 x4_1).f0.f13, (rd_T25 l0 x4_1).f0.f14, (rd_T25 l0 x4_1).f0.f15, (rd_T25 l0 x4_1).f0.f16, (rd_T25 l0 x4_1).f0.f17, (rd_T25 l0 x4_1).f0.f18, (rd_T25 l0 x4_1).f0.f19, (rd_T25 l0 x4_1).f0.f20, (rd_T25 l0 x4_1).f0.f21, (rd_T25 l0 x4_1).f0.f22, (rd_T25 l0 x4_1).f0.f23, (rd_T25 l0 x4_1).f0.f24, (rd_T25 l0 x4_1).f0.f25, (rd_T25 l0 x4_1).f0.f26, (rd_T25 l0 x4_1).f0.f27, (rd_T25 l0 x4_1).f0.f28, (rd_T25 l0 x4_1).f0.f29, (rd_T25 l0 x4_1).f0.f30, (rd_T25 l0 x4_1).f0.f31⟩ : S23), (rd_T25 l0 x4_1).f1⟩ : S25)] : List (S25))).bind fun y168 => ((some (x3_1.drop (x5_2 : Int).toNat : List (S25))).bind fun y171 => (if y168.length + y171.length < 3518437208883 then (coracleref1_Sorted.l0 kj3 l0 (y168 ++ y171) (wrap64 (x4_1 + 1))) else (none)))) else (none))) else (none)) = some r := by first | (rw [hy160]; with_reducible exact H) | (have H2_ := (Option.bind_some _ _).symm.trans H; rw [hy160]; with_reducible exact H2_) | (have H2_ := (Option.bind_some _ _).symm.trans H; with_reducible exact H2_) | with_reducible exact H | (rw [hy160]; exact H) | exact H
                                  have Ny160 := Aside0.mk hy160
                                  clear hy160
                                  by_cases c42 : y157.length + y160.length < 3518437208883
                                  · rw [if_pos c42] at H
                                    have LMc42 := Aside0.mk c42
                                    clear c42
                                    obtain ⟨y164, hy164⟩ : ∃ y_ : List (S25), y_ = (y157 ++ y160) := ⟨_, rfl⟩
                                    replace H : (if y164.length < 3518437208883 then ((some (y164 ++ [(⟨(⟨(rd_T25 l0 x4_1).f0.f0, (rd_T25 l0 x4_1).f0.f1, (rd_T25 l0 x4_1).f0.f2, (rd_T25 l0 x4_1).f0.f3, (rd_T25 l0 x4_1).f0.f4, (rd_T25 l0 x4_1).f0.f5, (rd_T25 l0 x4_1).f0.f6, (rd_T25 l0 x4_1).f0.f7, (rd_T25 l0 x4_1).f0.f8, (rd_T25 l0 x4_1).f0.f9, (rd_T25 l0 x4_1).f0.f10, (rd_T25 l0 x4_1).f0.f11, (rd_T25 l0 x4_1).f0.f12, (rd_T25 l0 x4_1).f0.f13, (rd_T25 l0 x4_1).f0.f14, (rd_T25 l0 x4_1).f0.f15, (rd_T25 l0 x4_1).f0.f16, (rd_T25 l0 x4_1).f0.f17, (rd_T25 l0 x4_1).f0.f18, (rd_T25 l0 x4_1).f0.f19, (rd_T25 l0 x4_1).f0.f20, (rd_T25 l0 x4_1).f0.f21, (rd_T25 l0 x4_1).f0.f22, (rd_T25 l0 x4_1).f0.f23, (rd_T25 l0 x4_1).f0.f24, (rd_T25 l0 x4_1).f0.f25, (rd_T25 l0 x4_1).f0.f26, (rd_T25 l0 x4_1).f0.f27, (rd_T25 l0 x4_1).f0.f28, (rd_T25 l0 x4_1).f0.f29, (rd_T25 l0 x4_1).f0.f30, (rd_T25 l0 x4_1).f0.f31⟩ : S23), (rd_T25 l0 x4_1).f1⟩ : S25)] : List (S25))).bind fun y168 => ((some (x3_1.drop (x5_2 : Int).toNat : List (S25))).bind fun y171 => (if y168.length + y171.length < 3518437208883 then (coracleref1_Sorted.l0 kj3 l0 (y168 ++ y171) (wrap64 (x4_1 + 1))) else (none)))) else (none)) = some r := by first | (rw [hy164]; with_reducible exact H) | (have H2_ := (Option.bind_some _ _).symm.trans H; rw [hy164]; with_reducible exact H2_) | (have H2_ := (Option.bind_some _ _).symm.trans H; with_reducible exact H2_) | with_reducible exact H | (rw [hy164]; exact H) | exact H
                                    have Ny164 := Aside0.mk hy164
                                    clear hy164
                                    by_cases c43 : y164.length < 3518437208883
                                    · rw [if_pos c43] at H
                                      have LMc43 := Aside0.mk c43
                                      clear c43
                                      obtain ⟨y168, hy168⟩ : ∃ y_ : List (S25), y_ = (y164 ++ [(⟨(⟨(rd_T25 l0 x4_1).f0.f0, (rd_T25 l0 x4_1).f0.f1, (rd_T25 l0 x4_1).f0.f2, (rd_T25 l0 x4_1).f0.f3, (rd_T25 l0 x4_1).f0.f4, (rd_T25 l0 x4_1).f0.f5, (rd_T25 l0 x4_1).f0.f6, (rd_T25 l0 x4_1).f0.f7, (rd_T25 l0 x4_1).f0.f8, (rd_T25 l0 x4_1).f0.f9, (rd_T25 l0 x4_1).f0.f10, (rd_T25 l0 x4_1).f0.f11, (rd_T25 l0 x4_1).f0.f12, (rd_T25 l0 x4_1).f0.f13, (rd_T25 l0 x4_1).f0.f14, (rd_T25 l0 x4_1).f0.f15, (rd_T25 l0 x4_1).f0.f16, (rd_T25 l0 x4_1).f0.f17, (rd_T25 l0 x4_1).f0.f18, (rd_T25 l0 x4_1).f0.f19, (rd_T25 l0 x4_1).f0.f20, (rd_T25 l0 x4_1).f0.f21, (rd_T25 l0 x4_1).f0.f22, (rd_T25 l0 x4_1).f0.f23, (rd_T25 l0 x4_1).f0.f24, (rd_T25 l0 x4_1).f0.f25, (rd_T25 l0 x4_1).f0.f26, (rd_T25 l0 x4_1).f0.f27, (rd_T25 l0 x4_1).f0.f28, (rd_T25 l0 x4_1).f0.f29, (rd_T25 l0 x4_1).f0.f30, (rd_T25 l0 x4_1).f0.f31⟩ : S23), (rd_T25 l0 x4_1).f1⟩ : S25)]) := ⟨_, rfl⟩
                                      replace H : ((some (x3_1.drop (x5_2 : Int).toNat : List (S25))).bind fun y171 => (if y168.length + y171.length < 3518437208883 then (coracleref1_Sorted.l0 kj3 l0 (y168 ++ y171) (wrap64 (x4_1 + 1))) else (none))) = some r := by first | (rw [hy168]; with_reducible exact H) | (have H2_ := (Option.bind_some _ _).symm.trans H; rw [hy168]; with_reducible exact H2_) | (have H2_ := (Option.bind_some _ _).symm.trans H; with_reducible exact H2_) | with_reducible exact H | (rw [hy168]; exact H) | exact H
                                      have Ny168 := Aside0.mk hy168
                                      clear hy168
                                      have c44b0 := eq_true (of_decide_eq_true (by first | (with_reducible assumption) | assumption) : 0 ≤ x5_2)
                                      have c45b0 := eq_true (of_decide_eq_true (by first | (with_reducible assumption) | assumption) : x5_2 ≤ (x3_1.length : Int))
                                      obtain ⟨y171, hy171⟩ : ∃ y_ : List (S25), y_ = (x3_1.drop (x5_2 : Int).toNat) := ⟨_, rfl⟩
                                      replace H : (if y168.length + y171.length < 3518437208883 then (coracleref1_Sorted.l0 kj3 l0 (y168 ++ y171) (wrap64 (x4_1 + 1))) else (none)) = some r := by first | (rw [hy171]; with_reducible exact H) | (have H2_ := (Option.bind_some _ _).symm.trans H; rw [hy171]; with_reducible exact H2_) | (have H2_ := (Option.bind_some _ _).symm.trans H; with_reducible exact H2_) | with_reducible exact H | (rw [hy171]; exact H) | exact H
                                      have Ny171 := Aside0.mk hy171
                                      clear hy171
                                      by_cases c46 : y168.length + y171.length < 3518437208883
                                      · rw [if_pos c46] at H
                                        have LMc46 := Aside0.mk c46
                                        clear c46
                                        obtain ⟨y175, hy175⟩ : ∃ y_ : List (S25), y_ = (y168 ++ y171) := ⟨_, rfl⟩
                                        replace H : (coracleref1_Sorted.l0 kj3 l0 y175 (wrap64 (x4_1 + 1))) = some r := by first | (rw [hy175]; with_reducible exact H) | (have H2_ := (Option.bind_some _ _).symm.trans H; rw [hy175]; with_reducible exact H2_) | (have H2_ := (Option.bind_some _ _).symm.trans H; with_reducible exact H2_) | with_reducible exact H | (rw [hy175]; exact H) | exact H
                                        have Ny175 := Aside0.mk hy175
                                        clear hy175
                                        have H' := Aside0.mk H
                                        clear H
                                        try go_wp2
                                        have n0_ := Aside0.mk (Kd.R_drew HO_3.out)
                                        have n1_ := Aside0.mk (below_drew1 HB.out)
                                        clear HO_3
                                        clear HB
                                        have HO_3 := n0_
                                        have HB := n1_
                                        clear n0_ n1_
                                        have p155 : 0 ≤ ((ji34) : Int) := of_decide_eq_true (by first | (with_reducible assumption) | assumption)
                                        have q155 : (ji34) < (x3_1.length : Int) := of_decide_eq_true (by first | (with_reducible assumption) | assumption)
                                        obtain ⟨ad155, e155, hx155_0, hx155_1, hx155_2, hx155_3, hx155_4, hx155_5, hx155_6, hx155_7, hx155_8, hx155_9, hx155_10, hx155_11, hx155_12, hx155_13, hx155_14, hx155_15, hx155_16, hx155_17, hx155_18, hx155_19, hx155_20, hx155_21, hx155_22, hx155_23, hx155_24, hx155_25, hx155_26, hx155_27, hx155_28, hx155_29, hx155_30, hx155_31, hx155_32⟩ := at_T25 (Kd.R_reads' HO_3.out).2.2 (ji34) p155 q155
                                        cases e155
                                        replace p155 := eq_true p155
                                        replace q155 := eq_true q155
                                        have hw155_0_32 := Go.Proofs.YtmoecidfmgeafaaDoor.Wide.mk32 hx155_0 hx155_1 hx155_2 hx155_3 hx155_4 hx155_5 hx155_6 hx155_7 hx155_8 hx155_9 hx155_10 hx155_11 hx155_12 hx155_13 hx155_14 hx155_15 hx155_16 hx155_17 hx155_18 hx155_19 hx155_20 hx155_21 hx155_22 hx155_23 hx155_24 hx155_25 hx155_26 hx155_27 hx155_28 hx155_29 hx155_30 hx155_31
                                        have hw155_0_33 := Go.Proofs.YtmoecidfmgeafaaDoor.Wide.mk33 hx155_0 hx155_1 hx155_2 hx155_3 hx155_4 hx155_5 hx155_6 hx155_7 hx155_8 hx155_9 hx155_10 hx155_11 hx155_12 hx155_13 hx155_14 hx155_15 hx155_16 hx155_17 hx155_18 hx155_19 hx155_20 hx155_21 hx155_22 hx155_23 hx155_24 hx155_25 hx155_26 hx155_27 hx155_28 hx155_29 hx155_30 hx155_31 hx155_32
                                        have p156 : 0 ≤ (x4_1 : Int) := of_decide_eq_true (by first | (with_reducible assumption) | assumption)
                                        have q156 : x4_1 < (l0.length : Int) := of_decide_eq_true (by first | (with_reducible assumption) | assumption)
                                        obtain ⟨ad156, e156, hx156_0, hx156_1, hx156_2, hx156_3, hx156_4, hx156_5, hx156_6, hx156_7, hx156_8, hx156_9, hx156_10, hx156_11, hx156_12, hx156_13, hx156_14, hx156_15, hx156_16, hx156_17, hx156_18, hx156_19, hx156_20, hx156_21, hx156_22, hx156_23, hx156_24, hx156_25, hx156_26, hx156_27, hx156_28, hx156_29, hx156_30, hx156_31, hx156_32⟩ := at_T25 HR0.out x4_1 p156 q156
                                        have hw156_0_32 := Go.Proofs.YtmoecidfmgeafaaDoor.Wide.mk32 hx156_0 hx156_1 hx156_2 hx156_3 hx156_4 hx156_5 hx156_6 hx156_7 hx156_8 hx156_9 hx156_10 hx156_11 hx156_12 hx156_13 hx156_14 hx156_15 hx156_16 hx156_17 hx156_18 hx156_19 hx156_20 hx156_21 hx156_22 hx156_23 hx156_24 hx156_25 hx156_26 hx156_27 hx156_28 hx156_29 hx156_30 hx156_31
                                        have hw156_0_33 := Go.Proofs.YtmoecidfmgeafaaDoor.Wide.mk33 hx156_0 hx156_1 hx156_2 hx156_3 hx156_4 hx156_5 hx156_6 hx156_7 hx156_8 hx156_9 hx156_10 hx156_11 hx156_12 hx156_13 hx156_14 hx156_15 hx156_16 hx156_17 hx156_18 hx156_19 hx156_20 hx156_21 hx156_22 hx156_23 hx156_24 hx156_25 hx156_26 hx156_27 hx156_28 hx156_29 hx156_30 hx156_31 hx156_32
                                        have hw156_32 := hx156_32
                                        have hw156_31 := hx156_31
                                        have hw156_30 := hx156_30
                                        have hw156_29 := hx156_29
                                        have hw156_28 := hx156_28
                                        have hw156_27 := hx156_27
                                        have hw156_26 := hx156_26
                                        have hw156_25 := hx156_25
                                        have hw156_24 := hx156_24
                                        have hw156_23 := hx156_23
                                        have hw156_22 := hx156_22
                                        have hw156_21 := hx156_21
                                        have hw156_20 := hx156_20
                                        have hw156_19 := hx156_19
                                        have hw156_18 := hx156_18
                                        have hw156_17 := hx156_17
                                        have hw156_16 := hx156_16
                                        have hw156_15 := hx156_15
                                        have hw156_14 := hx156_14
                                        have hw156_13 := hx156_13
                                        have hw156_12 := hx156_12
                                        have hw156_11 := hx156_11
                                        have hw156_10 := hx156_10
                                        have hw156_9 := hx156_9
                                        have hw156_8 := hx156_8
                                        have hw156_7 := hx156_7
                                        have hw156_6 := hx156_6
                                        have hw156_5 := hx156_5
                                        have hw156_4 := hx156_4
                                        have hw156_3 := hx156_3
                                        have hw156_2 := hx156_2
                                        have hw156_1 := hx156_1
                                        have hw156_0 := hx156_0
                                        cases e156
                                        replace hx156_0 := (HB.out.cell (World.block_lt_of_cell? w _ hx156_0)).trans hx156_0
                                        replace hx156_1 := (HB.out.cell (World.block_lt_of_cell? w _ hx156_1)).trans hx156_1
                                        replace hx156_2 := (HB.out.cell (World.block_lt_of_cell? w _ hx156_2)).trans hx156_2
                                        replace hx156_3 := (HB.out.cell (World.block_lt_of_cell? w _ hx156_3)).trans hx156_3
                                        replace hx156_4 := (HB.out.cell (World.block_lt_of_cell? w _ hx156_4)).trans hx156_4
                                        replace hx156_5 := (HB.out.cell (World.block_lt_of_cell? w _ hx156_5)).trans hx156_5
                                        replace hx156_6 := (HB.out.cell (World.block_lt_of_cell? w _ hx156_6)).trans hx156_6
                                        replace hx156_7 := (HB.out.cell (World.block_lt_of_cell? w _ hx156_7)).trans hx156_7
                                        replace hx156_8 := (HB.out.cell (World.block_lt_of_cell? w _ hx156_8)).trans hx156_8
                                        replace hx156_9 := (HB.out.cell (World.block_lt_of_cell? w _ hx156_9)).trans hx156_9
                                        replace hx156_10 := (HB.out.cell (World.block_lt_of_cell? w _ hx156_10)).trans hx156_10
                                        replace hx156_11 := (HB.out.cell (World.block_lt_of_cell? w _ hx156_11)).trans hx156_11
                                        replace hx156_12 := (HB.out.cell (World.block_lt_of_cell? w _ hx156_12)).trans hx156_12
                                        replace hx156_13 := (HB.out.cell (World.block_lt_of_cell? w _ hx156_13)).trans hx156_13
                                        replace hx156_14 := (HB.out.cell (World.block_lt_of_cell? w _ hx156_14)).trans hx156_14
                                        replace hx156_15 := (HB.out.cell (World.block_lt_of_cell? w _ hx156_15)).trans hx156_15
                                        replace hx156_16 := (HB.out.cell (World.block_lt_of_cell? w _ hx156_16)).trans hx156_16
                                        replace hx156_17 := (HB.out.cell (World.block_lt_of_cell? w _ hx156_17)).trans hx156_17
                                        replace hx156_18 := (HB.out.cell (World.block_lt_of_cell? w _ hx156_18)).trans hx156_18
                                        replace hx156_19 := (HB.out.cell (World.block_lt_of_cell? w _ hx156_19)).trans hx156_19
                                        replace hx156_20 := (HB.out.cell (World.block_lt_of_cell? w _ hx156_20)).trans hx156_20
                                        replace hx156_21 := (HB.out.cell (World.block_lt_of_cell? w _ hx156_21)).trans hx156_21
                                        replace hx156_22 := (HB.out.cell (World.block_lt_of_cell? w _ hx156_22)).trans hx156_22
                                        replace hx156_23 := (HB.out.cell (World.block_lt_of_cell? w _ hx156_23)).trans hx156_23
                                        replace hx156_24 := (HB.out.cell (World.block_lt_of_cell? w _ hx156_24)).trans hx156_24
                                        replace hx156_25 := (HB.out.cell (World.block_lt_of_cell? w _ hx156_25)).trans hx156_25
                                        replace hx156_26 := (HB.out.cell (World.block_lt_of_cell? w _ hx156_26)).trans hx156_26
                                        replace hx156_27 := (HB.out.cell (World.block_lt_of_cell? w _ hx156_27)).trans hx156_27
                                        replace hx156_28 := (HB.out.cell (World.block_lt_of_cell? w _ hx156_28)).trans hx156_28
                                        replace hx156_29 := (HB.out.cell (World.block_lt_of_cell? w _ hx156_29)).trans hx156_29
                                        replace hx156_30 := (HB.out.cell (World.block_lt_of_cell? w _ hx156_30)).trans hx156_30
                                        replace hx156_31 := (HB.out.cell (World.block_lt_of_cell? w _ hx156_31)).trans hx156_31
                                        replace hx156_32 := (HB.out.cell (World.block_lt_of_cell? w _ hx156_32)).trans hx156_32
                                        replace p156 := eq_true p156
                                        replace q156 := eq_true q156
                                        refine start_ (n := 14) (S := fun w' => Go.Proofs.YtmoecidfmgeafaaDoor.Wide.cellsAt w' (ad155.add (((ji34)).toNat * 33)) 33 = some (.int .u8 ((rd_T25 x3_1 (ji34)).f0.f0) :: .int .u8 ((rd_T25 x3_1 (ji34)).f0.f1) :: .int .u8 ((rd_T25 x3_1 (ji34)).f0.f2) :: .int .u8 ((rd_T25 x3_1 (ji34)).f0.f3) :: .int .u8 ((rd_T25 x3_1 (ji34)).f0.f4) :: .int .u8 ((rd_T25 x3_1 (ji34)).f0.f5) :: .int .u8 ((rd_T25 x3_1 (ji34)).f0.f6) :: .int .u8 ((rd_T25 x3_1 (ji34)).f0.f7) :: .int .u8 ((rd_T25 x3_1 (ji34)).f0.f8) :: .int .u8 ((rd_T25 x3_1 (ji34)).f0.f9) :: .int .u8 ((rd_T25 x3_1 (ji34)).f0.f10) :: .int .u8 ((rd_T25 x3_1 (ji34)).f0.f11) :: .int .u8 ((rd_T25 x3_1 (ji34)).f0.f12) :: .int .u8 ((rd_T25 x3_1 (ji34)).f0.f13) :: .int .u8 ((rd_T25 x3_1 (ji34)).f0.f14) :: .int .u8 ((rd_T25 x3_1 (ji34)).f0.f15) :: .int .u8 ((rd_T25 x3_1 (ji34)).f0.f16) :: .int .u8 ((rd_T25 x3_1 (ji34)).f0.f17) :: .int .u8 ((rd_T25 x3_1 (ji34)).f0.f18) :: .int .u8 ((rd_T25 x3_1 (ji34)).f0.f19) :: .int .u8 ((rd_T25 x3_1 (ji34)).f0.f20) :: .int .u8 ((rd_T25 x3_1 (ji34)).f0.f21) :: .int .u8 ((rd_T25 x3_1 (ji34)).f0.f22) :: .int .u8 ((rd_T25 x3_1 (ji34)).f0.f23) :: .int .u8 ((rd_T25 x3_1 (ji34)).f0.f24) :: .int .u8 ((rd_T25 x3_1 (ji34)).f0.f25) :: .int .u8 ((rd_T25 x3_1 (ji34)).f0.f26) :: .int .u8 ((rd_T25 x3_1 (ji34)).f0.f27) :: .int .u8 ((rd_T25 x3_1 (ji34)).f0.f28) :: .int .u8 ((rd_T25 x3_1 (ji34)).f0.f29) :: .int .u8 ((rd_T25 x3_1 (ji34)).f0.f30) :: .int .u8 ((rd_T25 x3_1 (ji34)).f0.f31) :: .int .i64 ((rd_T25 x3_1 (ji34)).f1) :: []) ∧ Go.Proofs.YtmoecidfmgeafaaDoor.Wide.cellsAt w' (ad156.add ((x4_1).toNat * 33)) 33 = some (.int .u8 ((rd_T25 l0 x4_1).f0.f0) :: .int .u8 ((rd_T25 l0 x4_1).f0.f1) :: .int .u8 ((rd_T25 l0 x4_1).f0.f2) :: .int .u8 ((rd_T25 l0 x4_1).f0.f3) :: .int .u8 ((rd_T25 l0 x4_1).f0.f4) :: .int .u8 ((rd_T25 l0 x4_1).f0.f5) :: .int .u8 ((rd_T25 l0 x4_1).f0.f6) :: .int .u8 ((rd_T25 l0 x4_1).f0.f7) :: .int .u8 ((rd_T25 l0 x4_1).f0.f8) :: .int .u8 ((rd_T25 l0 x4_1).f0.f9) :: .int .u8 ((rd_T25 l0 x4_1).f0.f10) :: .int .u8 ((rd_T25 l0 x4_1).f0.f11) :: .int .u8 ((rd_T25 l0 x4_1).f0.f12) :: .int .u8 ((rd_T25 l0 x4_1).f0.f13) :: .int .u8 ((rd_T25 l0 x4_1).f0.f14) :: .int .u8 ((rd_T25 l0 x4_1).f0.f15) :: .int .u8 ((rd_T25 l0 x4_1).f0.f16) :: .int .u8 ((rd_T25 l0 x4_1).f0.f17) :: .int .u8 ((rd_T25 l0 x4_1).f0.f18) :: .int .u8 ((rd_T25 l0 x4_1).f0.f19) :: .int .u8 ((rd_T25 l0 x4_1).f0.f20) :: .int .u8 ((rd_T25 l0 x4_1).f0.f21) :: .int .u8 ((rd_T25 l0 x4_1).f0.f22) :: .int .u8 ((rd_T25 l0 x4_1).f0.f23) :: .int .u8 ((rd_T25 l0 x4_1).f0.f24) :: .int .u8 ((rd_T25 l0 x4_1).f0.f25) :: .int .u8 ((rd_T25 l0 x4_1).f0.f26) :: .int .u8 ((rd_T25 l0 x4_1).f0.f27) :: .int .u8 ((rd_T25 l0 x4_1).f0.f28) :: .int .u8 ((rd_T25 l0 x4_1).f0.f29) :: .int .u8 ((rd_T25 l0 x4_1).f0.f30) :: .int .u8 ((rd_T25 l0 x4_1).f0.f31) :: .int .i64 ((rd_T25 l0 x4_1).f1) :: [])) (ds := []) #[false, false, false, false, false, false, false, false, false, false, false, false, false, false] (by kernel_rfl) rfl rfl ⟨Go.Proofs.YtmoecidfmgeafaaDoor.Wide.mk33 hx155_0 hx155_1 hx155_2 hx155_3 hx155_4 hx155_5 hx155_6 hx155_7 hx155_8 hx155_9 hx155_10 hx155_11 hx155_12 hx155_13 hx155_14 hx155_15 hx155_16 hx155_17 hx155_18 hx155_19 hx155_20 hx155_21 hx155_22 hx155_23 hx155_24 hx155_25 hx155_26 hx155_27 hx155_28 hx155_29 hx155_30 hx155_31 hx155_32, Go.Proofs.YtmoecidfmgeafaaDoor.Wide.mk33 (((HB.out.cell (World.block_lt_of_cell? w _ hw156_0)).trans hw156_0)) (((HB.out.cell (World.block_lt_of_cell? w _ hw156_1)).trans hw156_1)) (((HB.out.cell (World.block_lt_of_cell? w _ hw156_2)).trans hw156_2)) (((HB.out.cell (World.block_lt_of_cell? w _ hw156_3)).trans hw156_3)) (((HB.out.cell (World.block_lt_of_cell? w _ hw156_4)).trans hw156_4)) (((HB.out.cell (World.block_lt_of_cell? w _ hw156_5)).trans hw156_5)) (((HB.out.cell (World.block_lt_of_cell? w _ hw156_6)).trans hw156_6)) (((HB.out.cell (World.block_lt_of_cell? w _ hw156_7)).trans hw156_7)) (((HB.out.cell (World.block_lt_of_cell? w _ hw156_8)).trans hw156_8)) (((HB.out.cell (World.block_lt_of_cell? w _ hw156_9)).trans hw156_9)) (((HB.out.cell (World.block_lt_of_cell? w _ hw156_10)).trans hw156_10)) (((HB.out.cell (World.block_lt_of_cell? w _ hw156_11)).trans hw156_11)) (((HB.out.cell (World.block_lt_of_cell? w _ hw156_12)).trans hw156_12)) (((HB.out.cell (World.block_lt_of_cell? w _ hw156_13)).trans hw156_13)) (((HB.out.cell (World.block_lt_of_cell? w _ hw156_14)).trans hw156_14)) (((HB.out.cell (World.block_lt_of_cell? w _ hw156_15)).trans hw156_15)) (((HB.out.cell (World.block_lt_of_cell? w _ hw156_16)).trans hw156_16)) (((HB.out.cell (World.block_lt_of_cell? w _ hw156_17)).trans hw156_17)) (((HB.out.cell (World.block_lt_of_cell? w _ hw156_18)).trans hw156_18)) (((HB.out.cell (World.block_lt_of_cell? w _ hw156_19)).trans hw156_19)) (((HB.out.cell (World.block_lt_of_cell? w _ hw156_20)).trans hw156_20)) (((HB.out.cell (World.block_lt_of_cell? w _ hw156_21)).trans hw156_21)) (((HB.out.cell (World.block_lt_of_cell? w _ hw156_22)).trans hw156_22)) (((HB.out.cell (World.block_lt_of_cell? w _ hw156_23)).trans hw156_23)) (((HB.out.cell (World.block_lt_of_cell? w _ hw156_24)).trans hw156_24)) (((HB.out.cell (World.block_lt_of_cell? w _ hw156_25)).trans hw156_25)) (((HB.out.cell (World.block_lt_of_cell? w _ hw156_26)).trans hw156_26)) (((HB.out.cell (World.block_lt_of_cell? w _ hw156_27)).trans hw156_27)) (((HB.out.cell (World.block_lt_of_cell? w _ hw156_28)).trans hw156_28)) (((HB.out.cell (World.block_lt_of_cell? w _ hw156_29)).trans hw156_29)) (((HB.out.cell (World.block_lt_of_cell? w _ hw156_30)).trans hw156_30)) (((HB.out.cell (World.block_lt_of_cell? w _ hw156_31)).trans hw156_31)) (((HB.out.cell (World.block_lt_of_cell? w _ hw156_32)).trans hw156_32))⟩ (fun hHeld => ?_); refine with_tabW coracleref1_Sorted.tab8 coracleref1_Sorted.bits8 (fun HT_ HW_ => ?_)
                                        generalize wc.drew = w47 at HO_3 HB hx155_0 hx155_1 hx155_10 hx155_11 hx155_12 hx155_13 hx155_14 hx155_15 hx155_16 hx155_17 hx155_18 hx155_19 hx155_2 hx155_20 hx155_21 hx155_22 hx155_23 hx155_24 hx155_25 hx155_26 hx155_27 hx155_28 hx155_29 hx155_3 hx155_30 hx155_31 hx155_32 hx155_4 hx155_5 hx155_6 hx155_7 hx155_8 hx155_9 hx156_0 hx156_1 hx156_10 hx156_11 hx156_12 hx156_13 hx156_14 hx156_15 hx156_16 hx156_17 hx156_18 hx156_19 hx156_2 hx156_20 hx156_21 hx156_22 hx156_23 hx156_24 hx156_25 hx156_26 hx156_27 hx156_28 hx156_29 hx156_3 hx156_30 hx156_31 hx156_32 hx156_4 hx156_5 hx156_6 hx156_7 hx156_8 hx156_9 hHeld ⊢
                                        refine pure_ (i := 0) (N := some 30) (v := ?_) (a' := ?_) #[true, false, false, false, false, false, false, false, false, false, false, false, false, false] rfl rfl (any_of HT_.out (by kernel_rfl)) (fun _ _ _ h => h) (Or.inl ⟨by rfl, ?_⟩) ?_ ?_
                                        rotate_left
                                        · intro w'
                                          go_simp
                                          with_reducible rfl
                                        rotate_left
                                        · simp only [Act.put, List.setIfInBounds_toArray, List.set_cons_zero, List.set_cons_succ, i64_w, i32_w]
                                          rfl
                                        refine pure_ (i := 1) (N := some 31) (v := ?_) (a' := ?_) #[true, true, false, false, false, false, false, false, false, false, false, false, false, false] rfl rfl (any_of HT_.out (by kernel_rfl)) (fun _ _ _ h => h) (Or.inl ⟨by rfl, ?_⟩) ?_ ?_
                                        rotate_left
                                        · intro w'
                                          go_simp
                                          with_reducible rfl
                                        rotate_left
                                        · simp only [Act.put, List.setIfInBounds_toArray, List.set_cons_zero, List.set_cons_succ, i64_w, i32_w]
                                          rfl
                                        refine pure_ (i := 2) (N := some 32) (v := ?_) (a' := ?_) #[true, true, true, false, false, false, false, false, false, false, false, false, false, false] rfl rfl (any_of HT_.out (by kernel_rfl)) (fun _ _ _ h => h) (Or.inl ⟨by rfl, ?_⟩) ?_ ?_
                                        rotate_left
                                        · intro w'
                                          go_simp
                                          with_reducible rfl
                                        rotate_left
                                        · simp only [Act.put, List.setIfInBounds_toArray, List.set_cons_zero, List.set_cons_succ, i64_w, i32_w]
                                          rfl
                                        refine pure_ (i := 3) (N := some 33) (v := ?_) (a' := ?_) #[true, true, true, true, false, false, false, false, false, false, false, false, false, false] rfl rfl (any_of HT_.out (by kernel_rfl)) (fun _ _ _ h => h) (Or.inl ⟨by rfl, ?_⟩) ?_ ?_
                                        rotate_left
                                        · intro w'
                                          go_simp
                                          with_reducible rfl
                                        rotate_left
                                        · simp only [Act.put, List.setIfInBounds_toArray, List.set_cons_zero, List.set_cons_succ, i64_w, i32_w]
                                          rfl
                                        refine pure_ (i := 4) (N := some 34) (v := ?_) (a' := ?_) #[true, true, true, true, true, false, false, false, false, false, false, false, false, false] rfl rfl (any_of HT_.out (by kernel_rfl)) (fun _ _ _ h => h) (Or.inl ⟨by rfl, ?_⟩) ?_ ?_
                                        rotate_left
                                        · intro w'
                                          go_simp
                                          with_reducible rfl
                                        rotate_left
                                        · simp only [Act.put, List.setIfInBounds_toArray, List.set_cons_zero, List.set_cons_succ, i64_w, i32_w]
                                          rfl
                                        refine pure_ (i := 5) (N := some 35) (v := ?_) (a' := ?_) #[true, true, true, true, true, true, false, false, false, false, false, false, false, false] rfl rfl (any_of HT_.out (by kernel_rfl)) (fun _ _ _ h => h) (Or.inl ⟨by rfl, ?_⟩) ?_ ?_
                                        rotate_left
                                        · intro w'
                                          go_simp
                                          with_reducible rfl
                                        rotate_left
                                        · simp only [Act.put, List.setIfInBounds_toArray, List.set_cons_zero, List.set_cons_succ, i64_w, i32_w]
                                          rfl
                                        refine pure_ (i := 6) (N := some 36) (v := ?_) (a' := ?_) #[true, true, true, true, true, true, true, false, false, false, false, false, false, false] rfl rfl (any_of HT_.out (by kernel_rfl)) (fun _ _ _ h => h) (Or.inl ⟨by rfl, ?_⟩) ?_ ?_
                                        rotate_left
                                        · intro w'
                                          go_simp
                                          with_reducible rfl
                                        rotate_left
                                        · simp only [Act.put, List.setIfInBounds_toArray, List.set_cons_zero, List.set_cons_succ, i64_w, i32_w]
                                          rfl
                                        refine pure_ (i := 8) (N := some 38) (v := ?_) (a' := ?_) #[true, true, true, true, true, true, true, false, true, false, false, false, false, false] rfl rfl (any_of HT_.out (by kernel_rfl)) (fun _ _ _ h => h) (Or.inl ⟨by rfl, ?_⟩) ?_ ?_
                                        rotate_left
                                        · intro w'
                                          go_simp
                                          with_reducible rfl
                                        rotate_left
                                        · simp only [Act.put, List.setIfInBounds_toArray, List.set_cons_zero, List.set_cons_succ, i64_w, i32_w]
                                          rfl
                                        refine pure_ (i := 9) (N := some 39) (v := ?_) (a' := ?_) #[true, true, true, true, true, true, true, false, true, true, false, false, false, false] rfl rfl (any_of HT_.out (by kernel_rfl)) (fun _ _ _ h => h) (Or.inl ⟨by rfl, ?_⟩) ?_ ?_
                                        rotate_left
                                        · intro w'
                                          go_simp
                                          with_reducible rfl
                                        rotate_left
                                        · simp only [Act.put, List.setIfInBounds_toArray, List.set_cons_zero, List.set_cons_succ, i64_w, i32_w]
                                          rfl
                                        refine pure_ (i := 10) (N := some 40) (v := ?_) (a' := ?_) #[true, true, true, true, true, true, true, false, true, true, true, false, false, false] rfl rfl (any_of HT_.out (by kernel_rfl)) (fun _ _ _ h => h) (Or.inl ⟨by rfl, ?_⟩) ?_ ?_
                                        rotate_left
                                        · intro w'
                                          go_simp
                                          with_reducible rfl
                                        rotate_left
                                        · simp only [Act.put, List.setIfInBounds_toArray, List.set_cons_zero, List.set_cons_succ, i64_w, i32_w]
                                          rfl
                                        refine take_ (i := 7) (N := some 37) (v := ?_) (a' := ?_) #[true, true, true, true, true, true, true, true, true, true, true, false, false, false] rfl rfl (take_ofW HT_.out HW_.out (by kernel_rfl)) (fun _ _ _ h => h) (Or.inl ⟨by rfl, ?_⟩) hHeld ?_ ?_
                                        rotate_left
                                        · rintro w' ⟨s0, s1⟩
                                          go_simp
                                          with_reducible rfl
                                        rotate_left
                                        · simp only [Act.put, List.setIfInBounds_toArray, List.set_cons_zero, List.set_cons_succ, i64_w, i32_w]
                                          rfl
                                        refine take_ (i := 11) (N := some 41) (v := ?_) (a' := ?_) #[true, true, true, true, true, true, true, true, true, true, true, true, false, false] rfl rfl (take_ofW HT_.out HW_.out (by kernel_rfl)) (fun _ _ _ h => h) (Or.inl ⟨by rfl, ?_⟩) hHeld ?_ ?_
                                        rotate_left
                                        · rintro w' ⟨s0, s1⟩
                                          go_simp
                                          with_reducible rfl
                                        rotate_left
                                        · simp only [Act.put, List.setIfInBounds_toArray, List.set_cons_zero, List.set_cons_succ, i64_w, i32_w]
                                          rfl
                                        refine pure_ (i := 12) (N := some 42) (v := ?_) (a' := ?_) #[true, true, true, true, true, true, true, true, true, true, true, true, true, false] rfl rfl (any_of HT_.out (by kernel_rfl)) (fun _ _ _ h => h) (Or.inl ⟨by rfl, ?_⟩) ?_ ?_
                                        rotate_left
                                        · intro w'
                                          go_simp
                                          with_reducible rfl
                                        rotate_left
                                        · simp only [Act.put, List.setIfInBounds_toArray, List.set_cons_zero, List.set_cons_succ, i64_w, i32_w]
                                          rfl
                                        refine pure_ (i := 13) (N := some 43) (v := ?_) (a' := ?_) #[true, true, true, true, true, true, true, true, true, true, true, true, true, true] rfl rfl (any_of HT_.out (by kernel_rfl)) (fun _ _ _ h => h) (Or.inl ⟨by rfl, ?_⟩) ?_ ?_
                                        rotate_left
                                        · intro w'
                                          go_simp
                                          with_reducible rfl
                                        rotate_left
                                        · simp only [Act.put, List.setIfInBounds_toArray, List.set_cons_zero, List.set_cons_succ, i64_w, i32_w]
                                          rfl
                                        refine done_ (done_of HT_.out (by kernel_rfl)) ?_
                                        try go_wp2
                                        obtain ⟨ad9, e9, _⟩ := at_T25 HR0.out x4_1 (of_decide_eq_true (by first | (with_reducible assumption) | assumption)) (of_decide_eq_true (by first | (with_reducible assumption) | assumption))
                                        cases e9
                                        refine sorted.reg9 (l0 := l0) (xs := x3_1) (w0 := w) (i := x4_1) (x5 := x5_2) (ok := fun _ => True) (by rfl) (by rfl) (by rfl) (by rfl) (by rfl) (of_decide_eq_true (by first | (with_reducible assumption) | assumption)) (of_decide_eq_true (by first | (with_reducible assumption) | assumption)) (of_decide_eq_true (by first | (with_reducible assumption) | assumption)) (of_decide_eq_true (by first | (with_reducible assumption) | assumption)) ?l9 (by (with_reducible repeat (first | apply Kd.R_alloc | apply Kd.R_drewN | apply Kd.R_drew)); exact HO_3.out) HR0.out (by repeat (first | (with_reducible first | exact HB.out | apply below_alloc | apply pw_below_drewN | apply below_drew1) | exact HB.out)) ?_
                                        case l9 => (have h := LMc46.out; rw [Ny168.out, Ny164.out, Ny157.out, Ny160.out, Ny171.out] at h; simp only [List.length_append, List.length_take, List.length_drop, List.length_cons, List.length_nil] at h; omega)
                                        intro m44 m48 m53 m54 m57 m58 w9 hR9 hB9
                                        replace hR9 : Kd.R k25 25 w9 w.heap.size (fun _ => True) m58 y175 := by rw [Ny175.out, Ny168.out, Ny164.out, Ny157.out, Ny160.out, Ny171.out]; exact hR9
                                        have HO9 := Aside0.mk hR9
                                        have HB9 := Aside0.mk hB9
                                        clear hR9 hB9 HO_3 HB
                                        go_wp2
                                        go_roundg kj3
                                        case measure => have := HK1.out; have := HK2.out; have := HJ3.out; omega
                                        case rel => exact ⟨(y175), (wrap64 (x4_1 + 1)), (by first | rfl | (simp; done) | (simp [*]; done)), H', ⟨by have := HK1.out; have := HK2.out; have := HJ3.out; omega⟩, ⟨by (with_reducible repeat (first | apply Kd.R_alloc | apply Kd.R_drewN | apply Kd.R_drew)); exact Kd.R_mono HO9.out (fun _ hk => trivial)⟩, ⟨by repeat (first | (with_reducible first | exact HB9.out | apply below_alloc | apply pw_below_drewN | apply below_drew1) | exact HB9.out)⟩⟩
                                      · rw [if_neg c46] at H
                                        exact absurd H (by simp)
                                    · rw [if_neg c43] at H
                                      exact absurd H (by simp)
                                  · rw [if_neg c42] at H
                                    exact absurd H (by simp)
                                · rw [if_neg c41] at H
                                  exact absurd H (by simp)
                              · rw [if_neg c40] at H
                                exact absurd H (by simp)
                            · rw [if_neg c39] at H
                              have c39b0 : ((!(((rd_T25 x3_1 (ji34)).f0.f0) == ((rd_T25 l0 x4_1).f0.f0)) || (!(((rd_T25 x3_1 (ji34)).f0.f1) == ((rd_T25 l0 x4_1).f0.f1)) || (!(((rd_T25 x3_1 (ji34)).f0.f2) == ((rd_T25 l0 x4_1).f0.f2)) || (!(((rd_T25 x3_1 (ji34)).f0.f3) == ((rd_T25 l0 x4_1).f0.f3)) || (!(((rd_T25 x3_1 (ji34)).f0.f4) == ((rd_T25 l0 x4_1).f0.f4)) || (!(((rd_T25 x3_1 (ji34)).f0.f5) == ((rd_T25 l0 x4_1).f0.f5)) || (!(((rd_T25 x3_1 (ji34)).f0.f6) == ((rd_T25 l0 x4_1).f0.f6)) || (!(((rd_T25 x3_1 (ji34)).f0.f7) == ((rd_T25 l0 x4_1).f0.f7)) || (!(((rd_T25 x3_1 (ji34)).f0.f8) == ((rd_T25 l0 x4_1).f0.f8)) || (!(((rd_T25 x3_1 (ji34)).f0.f9) == ((rd_T25 l0 x4_1).f0.f9)) || (!(((rd_T25 x3_1 (ji34)).f0.f10) == ((rd_T25 l0 x4_1).f0.f10)) || (!(((rd_T25 x3_1 (ji34)).f0.f11) == ((rd_T25 l0 x4_1).f0.f11)) || (!(((rd_T25 x3_1 (ji34)).f0.f12) == ((rd_T25 l0 x4_1).f0.f12)) || (!(((rd_T25 x3_1 (ji34)).f0.f13) == ((rd_T25 l0 x4_1).f0.f13)) || (!(((rd_T25 x3_1 (ji34)).f0.f14) == ((rd_T25 l0 x4_1).f0.f14)) || (!(((rd_T25 x3_1 (ji34)).f0.f15) == ((rd_T25 l0 x4_1).f0.f15)) || (!(((rd_T25 x3_1 (ji34)).f0.f16) == ((rd_T25 l0 x4_1).f0.f16)) || (!(((rd_T25 x3_1 (ji34)).f0.f17) == ((rd_T25 l0 x4_1).f0.f17)) || (!(((rd_T25 x3_1 (ji34)).f0.f18) == ((rd_T25 l0 x4_1).f0.f18)) || (!(((rd_T25 x3_1 (ji34)).f0.f19) == ((rd_T25 l0 x4_1).f0.f19)) || (!(((rd_T25 x3_1 (ji34)).f0.f20) == ((rd_T25 l0 x4_1).f0.f20)) || (!(((rd_T25 x3_1 (ji34)).f0.f21) == ((rd_T25 l0 x4_1).f0.f21)) || (!(((rd_T25 x3_1 (ji34)).f0.f22) == ((rd_T25 l0 x4_1).f0.f22)) || (!(((rd_T25 x3_1 (ji34)).f0.f23) == ((rd_T25 l0 x4_1).f0.f23)) || (!(((rd_T25 x3_1 (ji34)).f0.f24) == ((rd_T25 l0 x4_1).f0.f24)) || (!(((rd_T25 x3_1 (ji34)).f0.f25) == ((rd_T25 l0 x4_1).f0.f25)) || (!(((rd_T25 x3_1 (ji34)).f0.f26) == ((rd_T25 l0 x4_1).f0.f26)) || (!(((rd_T25 x3_1 (ji34)).f0.f27) == ((rd_T25 l0 x4_1).f0.f27)) || (!(((rd_T25 x3_1 (ji34)).f0.f28) == ((rd_T25 l0 x4_1).f0.f28)) || (!(((rd_T25 x3_1 (ji34)).f0.f29) == ((rd_T25 l0 x4_1).f0.f29)) || (!(((rd_T25 x3_1 (ji34)).f0.f30) == ((rd_T25 l0 x4_1).f0.f30)) || (!(((rd_T25 x3_1 (ji34)).f0.f31) == ((rd_T25 l0 x4_1).f0.f31)))))))))))))))))))))))))))))))))) || (!(((rd_T25 x3_1 (ji34)).f1) == ((rd_T25 l0 x4_1).f1)))) = false := by simpa using c39
                              clear c39
                              have H' := Aside0.mk H
                              clear H
                              try go_wp2
                              have n0_ := Aside0.mk (Kd.R_drew HO_3.out)
                              have n1_ := Aside0.mk (below_drew1 HB.out)
                              clear HO_3
                              clear HB
                              have HO_3 := n0_
                              have HB := n1_
                              clear n0_ n1_
                              have p155 : 0 ≤ ((ji34) : Int) := of_decide_eq_true (by first | (with_reducible assumption) | assumption)
                              have q155 : (ji34) < (x3_1.length : Int) := of_decide_eq_true (by first | (with_reducible assumption) | assumption)
                              obtain ⟨ad155, e155, hx155_0, hx155_1, hx155_2, hx155_3, hx155_4, hx155_5, hx155_6, hx155_7, hx155_8, hx155_9, hx155_10, hx155_11, hx155_12, hx155_13, hx155_14, hx155_15, hx155_16, hx155_17, hx155_18, hx155_19, hx155_20, hx155_21, hx155_22, hx155_23, hx155_24, hx155_25, hx155_26, hx155_27, hx155_28, hx155_29, hx155_30, hx155_31, hx155_32⟩ := at_T25 (Kd.R_reads' HO_3.out).2.2 (ji34) p155 q155
                              cases e155
                              replace p155 := eq_true p155
                              replace q155 := eq_true q155
                              have hw155_0_32 := Go.Proofs.YtmoecidfmgeafaaDoor.Wide.mk32 hx155_0 hx155_1 hx155_2 hx155_3 hx155_4 hx155_5 hx155_6 hx155_7 hx155_8 hx155_9 hx155_10 hx155_11 hx155_12 hx155_13 hx155_14 hx155_15 hx155_16 hx155_17 hx155_18 hx155_19 hx155_20 hx155_21 hx155_22 hx155_23 hx155_24 hx155_25 hx155_26 hx155_27 hx155_28 hx155_29 hx155_30 hx155_31
                              have hw155_0_33 := Go.Proofs.YtmoecidfmgeafaaDoor.Wide.mk33 hx155_0 hx155_1 hx155_2 hx155_3 hx155_4 hx155_5 hx155_6 hx155_7 hx155_8 hx155_9 hx155_10 hx155_11 hx155_12 hx155_13 hx155_14 hx155_15 hx155_16 hx155_17 hx155_18 hx155_19 hx155_20 hx155_21 hx155_22 hx155_23 hx155_24 hx155_25 hx155_26 hx155_27 hx155_28 hx155_29 hx155_30 hx155_31 hx155_32
                              have p156 : 0 ≤ (x4_1 : Int) := of_decide_eq_true (by first | (with_reducible assumption) | assumption)
                              have q156 : x4_1 < (l0.length : Int) := of_decide_eq_true (by first | (with_reducible assumption) | assumption)
                              obtain ⟨ad156, e156, hx156_0, hx156_1, hx156_2, hx156_3, hx156_4, hx156_5, hx156_6, hx156_7, hx156_8, hx156_9, hx156_10, hx156_11, hx156_12, hx156_13, hx156_14, hx156_15, hx156_16, hx156_17, hx156_18, hx156_19, hx156_20, hx156_21, hx156_22, hx156_23, hx156_24, hx156_25, hx156_26, hx156_27, hx156_28, hx156_29, hx156_30, hx156_31, hx156_32⟩ := at_T25 HR0.out x4_1 p156 q156
                              have hw156_0_32 := Go.Proofs.YtmoecidfmgeafaaDoor.Wide.mk32 hx156_0 hx156_1 hx156_2 hx156_3 hx156_4 hx156_5 hx156_6 hx156_7 hx156_8 hx156_9 hx156_10 hx156_11 hx156_12 hx156_13 hx156_14 hx156_15 hx156_16 hx156_17 hx156_18 hx156_19 hx156_20 hx156_21 hx156_22 hx156_23 hx156_24 hx156_25 hx156_26 hx156_27 hx156_28 hx156_29 hx156_30 hx156_31
                              have hw156_0_33 := Go.Proofs.YtmoecidfmgeafaaDoor.Wide.mk33 hx156_0 hx156_1 hx156_2 hx156_3 hx156_4 hx156_5 hx156_6 hx156_7 hx156_8 hx156_9 hx156_10 hx156_11 hx156_12 hx156_13 hx156_14 hx156_15 hx156_16 hx156_17 hx156_18 hx156_19 hx156_20 hx156_21 hx156_22 hx156_23 hx156_24 hx156_25 hx156_26 hx156_27 hx156_28 hx156_29 hx156_30 hx156_31 hx156_32
                              have hw156_32 := hx156_32
                              have hw156_31 := hx156_31
                              have hw156_30 := hx156_30
                              have hw156_29 := hx156_29
                              have hw156_28 := hx156_28
                              have hw156_27 := hx156_27
                              have hw156_26 := hx156_26
                              have hw156_25 := hx156_25
                              have hw156_24 := hx156_24
                              have hw156_23 := hx156_23
                              have hw156_22 := hx156_22
                              have hw156_21 := hx156_21
                              have hw156_20 := hx156_20
                              have hw156_19 := hx156_19
                              have hw156_18 := hx156_18
                              have hw156_17 := hx156_17
                              have hw156_16 := hx156_16
                              have hw156_15 := hx156_15
                              have hw156_14 := hx156_14
                              have hw156_13 := hx156_13
                              have hw156_12 := hx156_12
                              have hw156_11 := hx156_11
                              have hw156_10 := hx156_10
                              have hw156_9 := hx156_9
                              have hw156_8 := hx156_8
                              have hw156_7 := hx156_7
                              have hw156_6 := hx156_6
                              have hw156_5 := hx156_5
                              have hw156_4 := hx156_4
                              have hw156_3 := hx156_3
                              have hw156_2 := hx156_2
                              have hw156_1 := hx156_1
                              have hw156_0 := hx156_0
                              cases e156
                              replace hx156_0 := (HB.out.cell (World.block_lt_of_cell? w _ hx156_0)).trans hx156_0
                              replace hx156_1 := (HB.out.cell (World.block_lt_of_cell? w _ hx156_1)).trans hx156_1
                              replace hx156_2 := (HB.out.cell (World.block_lt_of_cell? w _ hx156_2)).trans hx156_2
                              replace hx156_3 := (HB.out.cell (World.block_lt_of_cell? w _ hx156_3)).trans hx156_3
                              replace hx156_4 := (HB.out.cell (World.block_lt_of_cell? w _ hx156_4)).trans hx156_4
                              replace hx156_5 := (HB.out.cell (World.block_lt_of_cell? w _ hx156_5)).trans hx156_5
                              replace hx156_6 := (HB.out.cell (World.block_lt_of_cell? w _ hx156_6)).trans hx156_6
                              replace hx156_7 := (HB.out.cell (World.block_lt_of_cell? w _ hx156_7)).trans hx156_7
                              replace hx156_8 := (HB.out.cell (World.block_lt_of_cell? w _ hx156_8)).trans hx156_8
                              replace hx156_9 := (HB.out.cell (World.block_lt_of_cell? w _ hx156_9)).trans hx156_9
                              replace hx156_10 := (HB.out.cell (World.block_lt_of_cell? w _ hx156_10)).trans hx156_10
                              replace hx156_11 := (HB.out.cell (World.block_lt_of_cell? w _ hx156_11)).trans hx156_11
                              replace hx156_12 := (HB.out.cell (World.block_lt_of_cell? w _ hx156_12)).trans hx156_12
                              replace hx156_13 := (HB.out.cell (World.block_lt_of_cell? w _ hx156_13)).trans hx156_13
                              replace hx156_14 := (HB.out.cell (World.block_lt_of_cell? w _ hx156_14)).trans hx156_14
                              replace hx156_15 := (HB.out.cell (World.block_lt_of_cell? w _ hx156_15)).trans hx156_15
                              replace hx156_16 := (HB.out.cell (World.block_lt_of_cell? w _ hx156_16)).trans hx156_16
                              replace hx156_17 := (HB.out.cell (World.block_lt_of_cell? w _ hx156_17)).trans hx156_17
                              replace hx156_18 := (HB.out.cell (World.block_lt_of_cell? w _ hx156_18)).trans hx156_18
                              replace hx156_19 := (HB.out.cell (World.block_lt_of_cell? w _ hx156_19)).trans hx156_19
                              replace hx156_20 := (HB.out.cell (World.block_lt_of_cell? w _ hx156_20)).trans hx156_20
                              replace hx156_21 := (HB.out.cell (World.block_lt_of_cell? w _ hx156_21)).trans hx156_21
                              replace hx156_22 := (HB.out.cell (World.block_lt_of_cell? w _ hx156_22)).trans hx156_22
                              replace hx156_23 := (HB.out.cell (World.block_lt_of_cell? w _ hx156_23)).trans hx156_23
                              replace hx156_24 := (HB.out.cell (World.block_lt_of_cell? w _ hx156_24)).trans hx156_24
                              replace hx156_25 := (HB.out.cell (World.block_lt_of_cell? w _ hx156_25)).trans hx156_25
                              replace hx156_26 := (HB.out.cell (World.block_lt_of_cell? w _ hx156_26)).trans hx156_26
                              replace hx156_27 := (HB.out.cell (World.block_lt_of_cell? w _ hx156_27)).trans hx156_27
                              replace hx156_28 := (HB.out.cell (World.block_lt_of_cell? w _ hx156_28)).trans hx156_28
                              replace hx156_29 := (HB.out.cell (World.block_lt_of_cell? w _ hx156_29)).trans hx156_29
                              replace hx156_30 := (HB.out.cell (World.block_lt_of_cell? w _ hx156_30)).trans hx156_30
                              replace hx156_31 := (HB.out.cell (World.block_lt_of_cell? w _ hx156_31)).trans hx156_31
                              replace hx156_32 := (HB.out.cell (World.block_lt_of_cell? w _ hx156_32)).trans hx156_32
                              replace p156 := eq_true p156
                              replace q156 := eq_true q156
                              refine start_ (n := 14) (S := fun w' => Go.Proofs.YtmoecidfmgeafaaDoor.Wide.cellsAt w' (ad155.add (((ji34)).toNat * 33)) 33 = some (.int .u8 ((rd_T25 x3_1 (ji34)).f0.f0) :: .int .u8 ((rd_T25 x3_1 (ji34)).f0.f1) :: .int .u8 ((rd_T25 x3_1 (ji34)).f0.f2) :: .int .u8 ((rd_T25 x3_1 (ji34)).f0.f3) :: .int .u8 ((rd_T25 x3_1 (ji34)).f0.f4) :: .int .u8 ((rd_T25 x3_1 (ji34)).f0.f5) :: .int .u8 ((rd_T25 x3_1 (ji34)).f0.f6) :: .int .u8 ((rd_T25 x3_1 (ji34)).f0.f7) :: .int .u8 ((rd_T25 x3_1 (ji34)).f0.f8) :: .int .u8 ((rd_T25 x3_1 (ji34)).f0.f9) :: .int .u8 ((rd_T25 x3_1 (ji34)).f0.f10) :: .int .u8 ((rd_T25 x3_1 (ji34)).f0.f11) :: .int .u8 ((rd_T25 x3_1 (ji34)).f0.f12) :: .int .u8 ((rd_T25 x3_1 (ji34)).f0.f13) :: .int .u8 ((rd_T25 x3_1 (ji34)).f0.f14) :: .int .u8 ((rd_T25 x3_1 (ji34)).f0.f15) :: .int .u8 ((rd_T25 x3_1 (ji34)).f0.f16) :: .int .u8 ((rd_T25 x3_1 (ji34)).f0.f17) :: .int .u8 ((rd_T25 x3_1 (ji34)).f0.f18) :: .int .u8 ((rd_T25 x3_1 (ji34)).f0.f19) :: .int .u8 ((rd_T25 x3_1 (ji34)).f0.f20) :: .int .u8 ((rd_T25 x3_1 (ji34)).f0.f21) :: .int .u8 ((rd_T25 x3_1 (ji34)).f0.f22) :: .int .u8 ((rd_T25 x3_1 (ji34)).f0.f23) :: .int .u8 ((rd_T25 x3_1 (ji34)).f0.f24) :: .int .u8 ((rd_T25 x3_1 (ji34)).f0.f25) :: .int .u8 ((rd_T25 x3_1 (ji34)).f0.f26) :: .int .u8 ((rd_T25 x3_1 (ji34)).f0.f27) :: .int .u8 ((rd_T25 x3_1 (ji34)).f0.f28) :: .int .u8 ((rd_T25 x3_1 (ji34)).f0.f29) :: .int .u8 ((rd_T25 x3_1 (ji34)).f0.f30) :: .int .u8 ((rd_T25 x3_1 (ji34)).f0.f31) :: .int .i64 ((rd_T25 x3_1 (ji34)).f1) :: []) ∧ Go.Proofs.YtmoecidfmgeafaaDoor.Wide.cellsAt w' (ad156.add ((x4_1).toNat * 33)) 33 = some (.int .u8 ((rd_T25 l0 x4_1).f0.f0) :: .int .u8 ((rd_T25 l0 x4_1).f0.f1) :: .int .u8 ((rd_T25 l0 x4_1).f0.f2) :: .int .u8 ((rd_T25 l0 x4_1).f0.f3) :: .int .u8 ((rd_T25 l0 x4_1).f0.f4) :: .int .u8 ((rd_T25 l0 x4_1).f0.f5) :: .int .u8 ((rd_T25 l0 x4_1).f0.f6) :: .int .u8 ((rd_T25 l0 x4_1).f0.f7) :: .int .u8 ((rd_T25 l0 x4_1).f0.f8) :: .int .u8 ((rd_T25 l0 x4_1).f0.f9) :: .int .u8 ((rd_T25 l0 x4_1).f0.f10) :: .int .u8 ((rd_T25 l0 x4_1).f0.f11) :: .int .u8 ((rd_T25 l0 x4_1).f0.f12) :: .int .u8 ((rd_T25 l0 x4_1).f0.f13) :: .int .u8 ((rd_T25 l0 x4_1).f0.f14) :: .int .u8 ((rd_T25 l0 x4_1).f0.f15) :: .int .u8 ((rd_T25 l0 x4_1).f0.f16) :: .int .u8 ((rd_T25 l0 x4_1).f0.f17) :: .int .u8 ((rd_T25 l0 x4_1).f0.f18) :: .int .u8 ((rd_T25 l0 x4_1).f0.f19) :: .int .u8 ((rd_T25 l0 x4_1).f0.f20) :: .int .u8 ((rd_T25 l0 x4_1).f0.f21) :: .int .u8 ((rd_T25 l0 x4_1).f0.f22) :: .int .u8 ((rd_T25 l0 x4_1).f0.f23) :: .int .u8 ((rd_T25 l0 x4_1).f0.f24) :: .int .u8 ((rd_T25 l0 x4_1).f0.f25) :: .int .u8 ((rd_T25 l0 x4_1).f0.f26) :: .int .u8 ((rd_T25 l0 x4_1).f0.f27) :: .int .u8 ((rd_T25 l0 x4_1).f0.f28) :: .int .u8 ((rd_T25 l0 x4_1).f0.f29) :: .int .u8 ((rd_T25 l0 x4_1).f0.f30) :: .int .u8 ((rd_T25 l0 x4_1).f0.f31) :: .int .i64 ((rd_T25 l0 x4_1).f1) :: [])) (ds := []) #[false, false, false, false, false, false, false, false, false, false, false, false, false, false] (by kernel_rfl) rfl rfl ⟨Go.Proofs.YtmoecidfmgeafaaDoor.Wide.mk33 hx155_0 hx155_1 hx155_2 hx155_3 hx155_4 hx155_5 hx155_6 hx155_7 hx155_8 hx155_9 hx155_10 hx155_11 hx155_12 hx155_13 hx155_14 hx155_15 hx155_16 hx155_17 hx155_18 hx155_19 hx155_20 hx155_21 hx155_22 hx155_23 hx155_24 hx155_25 hx155_26 hx155_27 hx155_28 hx155_29 hx155_30 hx155_31 hx155_32, Go.Proofs.YtmoecidfmgeafaaDoor.Wide.mk33 (((HB.out.cell (World.block_lt_of_cell? w _ hw156_0)).trans hw156_0)) (((HB.out.cell (World.block_lt_of_cell? w _ hw156_1)).trans hw156_1)) (((HB.out.cell (World.block_lt_of_cell? w _ hw156_2)).trans hw156_2)) (((HB.out.cell (World.block_lt_of_cell? w _ hw156_3)).trans hw156_3)) (((HB.out.cell (World.block_lt_of_cell? w _ hw156_4)).trans hw156_4)) (((HB.out.cell (World.block_lt_of_cell? w _ hw156_5)).trans hw156_5)) (((HB.out.cell (World.block_lt_of_cell? w _ hw156_6)).trans hw156_6)) (((HB.out.cell (World.block_lt_of_cell? w _ hw156_7)).trans hw156_7)) (((HB.out.cell (World.block_lt_of_cell? w _ hw156_8)).trans hw156_8)) (((HB.out.cell (World.block_lt_of_cell? w _ hw156_9)).trans hw156_9)) (((HB.out.cell (World.block_lt_of_cell? w _ hw156_10)).trans hw156_10)) (((HB.out.cell (World.block_lt_of_cell? w _ hw156_11)).trans hw156_11)) (((HB.out.cell (World.block_lt_of_cell? w _ hw156_12)).trans hw156_12)) (((HB.out.cell (World.block_lt_of_cell? w _ hw156_13)).trans hw156_13)) (((HB.out.cell (World.block_lt_of_cell? w _ hw156_14)).trans hw156_14)) (((HB.out.cell (World.block_lt_of_cell? w _ hw156_15)).trans hw156_15)) (((HB.out.cell (World.block_lt_of_cell? w _ hw156_16)).trans hw156_16)) (((HB.out.cell (World.block_lt_of_cell? w _ hw156_17)).trans hw156_17)) (((HB.out.cell (World.block_lt_of_cell? w _ hw156_18)).trans hw156_18)) (((HB.out.cell (World.block_lt_of_cell? w _ hw156_19)).trans hw156_19)) (((HB.out.cell (World.block_lt_of_cell? w _ hw156_20)).trans hw156_20)) (((HB.out.cell (World.block_lt_of_cell? w _ hw156_21)).trans hw156_21)) (((HB.out.cell (World.block_lt_of_cell? w _ hw156_22)).trans hw156_22)) (((HB.out.cell (World.block_lt_of_cell? w _ hw156_23)).trans hw156_23)) (((HB.out.cell (World.block_lt_of_cell? w _ hw156_24)).trans hw156_24)) (((HB.out.cell (World.block_lt_of_cell? w _ hw156_25)).trans hw156_25)) (((HB.out.cell (World.block_lt_of_cell? w _ hw156_26)).trans hw156_26)) (((HB.out.cell (World.block_lt_of_cell? w _ hw156_27)).trans hw156_27)) (((HB.out.cell (World.block_lt_of_cell? w _ hw156_28)).trans hw156_28)) (((HB.out.cell (World.block_lt_of_cell? w _ hw156_29)).trans hw156_29)) (((HB.out.cell (World.block_lt_of_cell? w _ hw156_30)).trans hw156_30)) (((HB.out.cell (World.block_lt_of_cell? w _ hw156_31)).trans hw156_31)) (((HB.out.cell (World.block_lt_of_cell? w _ hw156_32)).trans hw156_32))⟩ (fun hHeld => ?_); refine with_tabW coracleref1_Sorted.tab8 coracleref1_Sorted.bits8 (fun HT_ HW_ => ?_)
                              generalize wc.drew = w55 at HO_3 HB hx155_0 hx155_1 hx155_10 hx155_11 hx155_12 hx155_13 hx155_14 hx155_15 hx155_16 hx155_17 hx155_18 hx155_19 hx155_2 hx155_20 hx155_21 hx155_22 hx155_23 hx155_24 hx155_25 hx155_26 hx155_27 hx155_28 hx155_29 hx155_3 hx155_30 hx155_31 hx155_32 hx155_4 hx155_5 hx155_6 hx155_7 hx155_8 hx155_9 hx156_0 hx156_1 hx156_10 hx156_11 hx156_12 hx156_13 hx156_14 hx156_15 hx156_16 hx156_17 hx156_18 hx156_19 hx156_2 hx156_20 hx156_21 hx156_22 hx156_23 hx156_24 hx156_25 hx156_26 hx156_27 hx156_28 hx156_29 hx156_3 hx156_30 hx156_31 hx156_32 hx156_4 hx156_5 hx156_6 hx156_7 hx156_8 hx156_9 hHeld ⊢
                              refine pure_ (i := 0) (N := some 30) (v := ?_) (a' := ?_) #[true, false, false, false, false, false, false, false, false, false, false, false, false, false] rfl rfl (any_of HT_.out (by kernel_rfl)) (fun _ _ _ h => h) (Or.inl ⟨by rfl, ?_⟩) ?_ ?_
                              rotate_left
                              · intro w'
                                go_simp
                                with_reducible rfl
                              rotate_left
                              · simp only [Act.put, List.setIfInBounds_toArray, List.set_cons_zero, List.set_cons_succ, i64_w, i32_w]
                                rfl
                              refine pure_ (i := 1) (N := some 31) (v := ?_) (a' := ?_) #[true, true, false, false, false, false, false, false, false, false, false, false, false, false] rfl rfl (any_of HT_.out (by kernel_rfl)) (fun _ _ _ h => h) (Or.inl ⟨by rfl, ?_⟩) ?_ ?_
                              rotate_left
                              · intro w'
                                go_simp
                                with_reducible rfl
                              rotate_left
                              · simp only [Act.put, List.setIfInBounds_toArray, List.set_cons_zero, List.set_cons_succ, i64_w, i32_w]
                                rfl
                              refine pure_ (i := 2) (N := some 32) (v := ?_) (a' := ?_) #[true, true, true, false, false, false, false, false, false, false, false, false, false, false] rfl rfl (any_of HT_.out (by kernel_rfl)) (fun _ _ _ h => h) (Or.inl ⟨by rfl, ?_⟩) ?_ ?_
                              rotate_left
                              · intro w'
                                go_simp
                                with_reducible rfl
                              rotate_left
                              · simp only [Act.put, List.setIfInBounds_toArray, List.set_cons_zero, List.set_cons_succ, i64_w, i32_w]
                                rfl
                              refine pure_ (i := 3) (N := some 33) (v := ?_) (a' := ?_) #[true, true, true, true, false, false, false, false, false, false, false, false, false, false] rfl rfl (any_of HT_.out (by kernel_rfl)) (fun _ _ _ h => h) (Or.inl ⟨by rfl, ?_⟩) ?_ ?_
                              rotate_left
                              · intro w'
                                go_simp
                                with_reducible rfl
                              rotate_left
                              · simp only [Act.put, List.setIfInBounds_toArray, List.set_cons_zero, List.set_cons_succ, i64_w, i32_w]
                                rfl
                              refine pure_ (i := 4) (N := some 34) (v := ?_) (a' := ?_) #[true, true, true, true, true, false, false, false, false, false, false, false, false, false] rfl rfl (any_of HT_.out (by kernel_rfl)) (fun _ _ _ h => h) (Or.inl ⟨by rfl, ?_⟩) ?_ ?_
                              rotate_left
                              · intro w'
                                go_simp
                                with_reducible rfl
                              rotate_left
                              · simp only [Act.put, List.setIfInBounds_toArray, List.set_cons_zero, List.set_cons_succ, i64_w, i32_w]
                                rfl
                              refine pure_ (i := 5) (N := some 35) (v := ?_) (a' := ?_) #[true, true, true, true, true, true, false, false, false, false, false, false, false, false] rfl rfl (any_of HT_.out (by kernel_rfl)) (fun _ _ _ h => h) (Or.inl ⟨by rfl, ?_⟩) ?_ ?_
                              rotate_left
                              · intro w'
                                go_simp
                                with_reducible rfl
                              rotate_left
                              · simp only [Act.put, List.setIfInBounds_toArray, List.set_cons_zero, List.set_cons_succ, i64_w, i32_w]
                                rfl
                              refine pure_ (i := 6) (N := some 36) (v := ?_) (a' := ?_) #[true, true, true, true, true, true, true, false, false, false, false, false, false, false] rfl rfl (any_of HT_.out (by kernel_rfl)) (fun _ _ _ h => h) (Or.inl ⟨by rfl, ?_⟩) ?_ ?_
                              rotate_left
                              · intro w'
                                go_simp
                                with_reducible rfl
                              rotate_left
                              · simp only [Act.put, List.setIfInBounds_toArray, List.set_cons_zero, List.set_cons_succ, i64_w, i32_w]
                                rfl
                              refine pure_ (i := 8) (N := some 38) (v := ?_) (a' := ?_) #[true, true, true, true, true, true, true, false, true, false, false, false, false, false] rfl rfl (any_of HT_.out (by kernel_rfl)) (fun _ _ _ h => h) (Or.inl ⟨by rfl, ?_⟩) ?_ ?_
                              rotate_left
                              · intro w'
                                go_simp
                                with_reducible rfl
                              rotate_left
                              · simp only [Act.put, List.setIfInBounds_toArray, List.set_cons_zero, List.set_cons_succ, i64_w, i32_w]
                                rfl
                              refine pure_ (i := 9) (N := some 39) (v := ?_) (a' := ?_) #[true, true, true, true, true, true, true, false, true, true, false, false, false, false] rfl rfl (any_of HT_.out (by kernel_rfl)) (fun _ _ _ h => h) (Or.inl ⟨by rfl, ?_⟩) ?_ ?_
                              rotate_left
                              · intro w'
                                go_simp
                                with_reducible rfl
                              rotate_left
                              · simp only [Act.put, List.setIfInBounds_toArray, List.set_cons_zero, List.set_cons_succ, i64_w, i32_w]
                                rfl
                              refine pure_ (i := 10) (N := some 40) (v := ?_) (a' := ?_) #[true, true, true, true, true, true, true, false, true, true, true, false, false, false] rfl rfl (any_of HT_.out (by kernel_rfl)) (fun _ _ _ h => h) (Or.inl ⟨by rfl, ?_⟩) ?_ ?_
                              rotate_left
                              · intro w'
                                go_simp
                                with_reducible rfl
                              rotate_left
                              · simp only [Act.put, List.setIfInBounds_toArray, List.set_cons_zero, List.set_cons_succ, i64_w, i32_w]
                                rfl
                              refine take_ (i := 7) (N := some 37) (v := ?_) (a' := ?_) #[true, true, true, true, true, true, true, true, true, true, true, false, false, false] rfl rfl (take_ofW HT_.out HW_.out (by kernel_rfl)) (fun _ _ _ h => h) (Or.inl ⟨by rfl, ?_⟩) hHeld ?_ ?_
                              rotate_left
                              · rintro w' ⟨s0, s1⟩
                                go_simp
                                with_reducible rfl
                              rotate_left
                              · simp only [Act.put, List.setIfInBounds_toArray, List.set_cons_zero, List.set_cons_succ, i64_w, i32_w]
                                rfl
                              refine take_ (i := 11) (N := some 41) (v := ?_) (a' := ?_) #[true, true, true, true, true, true, true, true, true, true, true, true, false, false] rfl rfl (take_ofW HT_.out HW_.out (by kernel_rfl)) (fun _ _ _ h => h) (Or.inl ⟨by rfl, ?_⟩) hHeld ?_ ?_
                              rotate_left
                              · rintro w' ⟨s0, s1⟩
                                go_simp
                                with_reducible rfl
                              rotate_left
                              · simp only [Act.put, List.setIfInBounds_toArray, List.set_cons_zero, List.set_cons_succ, i64_w, i32_w]
                                rfl
                              refine pure_ (i := 12) (N := some 42) (v := ?_) (a' := ?_) #[true, true, true, true, true, true, true, true, true, true, true, true, true, false] rfl rfl (any_of HT_.out (by kernel_rfl)) (fun _ _ _ h => h) (Or.inl ⟨by rfl, ?_⟩) ?_ ?_
                              rotate_left
                              · intro w'
                                go_simp
                                with_reducible rfl
                              rotate_left
                              · simp only [Act.put, List.setIfInBounds_toArray, List.set_cons_zero, List.set_cons_succ, i64_w, i32_w]
                                rfl
                              refine pure_ (i := 13) (N := some 43) (v := ?_) (a' := ?_) #[true, true, true, true, true, true, true, true, true, true, true, true, true, true] rfl rfl (any_of HT_.out (by kernel_rfl)) (fun _ _ _ h => h) (Or.inl ⟨by rfl, ?_⟩) ?_ ?_
                              rotate_left
                              · intro w'
                                go_simp
                                with_reducible rfl
                              rotate_left
                              · simp only [Act.put, List.setIfInBounds_toArray, List.set_cons_zero, List.set_cons_succ, i64_w, i32_w]
                                rfl
                              refine done_ (done_of HT_.out (by kernel_rfl)) ?_
                              try go_wp2
                              go_roundg kj3
                              case measure => have := HK1.out; have := HK2.out; have := HJ3.out; omega
                              case rel => exact ⟨(x3_1), (wrap64 (x4_1 + 1)), (by first | rfl | (simp; done) | (simp [*]; done)), H', ⟨by have := HK1.out; have := HK2.out; have := HJ3.out; omega⟩, ⟨by (with_reducible repeat (first | apply Kd.R_alloc | apply Kd.R_drewN | apply Kd.R_drew)); exact HO_3.out⟩, ⟨by repeat (first | (with_reducible first | exact HB.out | apply below_alloc | apply pw_below_drewN | apply below_drew1) | exact HB.out)⟩⟩
                          · rw [if_neg c38] at H
                            exact absurd H (by simp)
                        · rw [if_neg c37] at H
                          exact absurd H (by simp)
                      · rw [if_neg c36] at H
                        exact absurd H (by simp)
                    · rw [if_neg c35] at H
                      exact absurd H (by simp)
      · rw [if_neg c2] at H
        have c2b0 : decide (x4_1 < (l0.length : Int)) = false := decide_eq_false c2
        clear c2
        obtain rfl := Option.some.inj H
        go_wp2
        go_ret
        exact ⟨_, by first | rfl | (simp [errW_none, errW_some] <;> rfl) | (simp [*, errW_none, errW_some] <;> rfl), by (with_reducible repeat (first | apply Kd.R_alloc | apply Kd.R_drewN | apply Kd.R_drew)); exact HO_3.out, by repeat (first | (with_reducible first | exact HB.out | apply below_alloc | apply pw_below_drewN | apply below_drew1) | exact HB.out)⟩

end Go.Proofs.YtmoecidfmgeafaaDoor.QPnt
