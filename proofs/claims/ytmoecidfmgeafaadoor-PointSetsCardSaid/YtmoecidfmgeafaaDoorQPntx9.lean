/- Functions of the program as plain Lean functions, and that its calls come to what these tell: written by a program of this session; Lean checks it. -/
import Derived.Test.YtmoecidfmgeafaaDoorQPntx0
import Derived.Test.YtmoecidfmgeafaaDoorQPntx3
import Derived.Test.YtmoecidfmgeafaaDoorQPntx4
import Derived.Test.YtmoecidfmgeafaaDoorQPntx5
import Derived.Test.YtmoecidfmgeafaaDoorQPntx6
import Derived.Test.YtmoecidfmgeafaaDoorQPntx7
import Derived.Test.YtmoecidfmgeafaaDoorQPntx8
namespace Go.Proofs.YtmoecidfmgeafaaDoor.QPnt
open Go.RowKit Go.Proofs.YtmoecidfmgeafaaDoorW.PrintWords Go.Proofs.YtmoecidfmgeafaaDoorW.PrintLast Go.Proofs.YtmoecidfmgeafaaDoorW.PrintMore
attribute [local go_sem] max2_int min2_int max_two min_two max_three min_three max_four min_four  run_fop run_feq run_fne run_flt run_fle run_fgt run_fge run_fint run_toi run_real' run_imag' run_complex' run_ceq run_cne run_cadd run_csub run_cmul Go.Proofs.YtmoecidfmgeafaaDoor.Wide.cellsAt_drewN Go.Proofs.YtmoecidfmgeafaaDoor.Wide.cellsAt_drew Go.Proofs.YtmoecidfmgeafaaDoor.Wide.lw32 Go.Proofs.YtmoecidfmgeafaaDoor.Wide.lw33
attribute [local go_sem ↓ high] Go.Proofs.YtmoecidfmgeafaaDoor.Wide.hv32 Go.Proofs.YtmoecidfmgeafaaDoor.Wide.hv33
set_option linter.unusedVariables false
set_option linter.unusedSimpArgs false

/-! ### coraclelaw3_PointSets: function 4 -/
def coraclelaw3_PointSets.j0 : Nat → List (S25) → List (S25) → Bool → Int → Int → Int → Int → Int → Int → Int → Int → Int → Int → Int → Int → Int → Int → Int → Int → Int → Int → Int → Int → Int → Int → Int → Int → Int → Int → Int → Int → Int → Int → Int → Int → Int → Option (Bool)
  | 0, _, _, _, _, _, _, _, _, _, _, _, _, _, _, _, _, _, _, _, _, _, _, _, _, _, _, _, _, _, _, _, _, _, _, _, _ => none
  | k + 1, x0, x1, x16, x197000, x197001, x197002, x197003, x197004, x197005, x197006, x197007, x197008, x197009, x197010, x197011, x197012, x197013, x197014, x197015, x197016, x197017, x197018, x197019, x197020, x197021, x197022, x197023, x197024, x197025, x197026, x197027, x197028, x197029, x197030, x197031, x197032 => if x16 = true then ((coraclelaw3_awake.f).bind fun t197 => (some t197)) else ((coracleref1_Parted.f k x0 x1).bind fun bt198 => ((point_Sort.f x0).bind fun t204 => ((coracleref1_Sorted.f k x0).bind fun t207 => ((coraclealike_Points.f k t204 t207).bind fun t210 => (if t210 = true then ((point_Both.f k x0 x1).bind fun t211 => ((coraclealike_Points.f k t211 bt198.1).bind fun t214 => (if t214 = true then ((point_Minus.f k x0 x1).bind fun t215 => ((coraclealike_Points.f k t215 bt198.2).bind fun t218 => (if t218 = true then ((point_Alike.f k x0 x1).bind fun t219 => ((coracleref1_Alike.f k x0 x1).bind fun t220 => (if (t219 == t220) = true then ((point_Has.f k x0 x197000 x197001 x197002 x197003 x197004 x197005 x197006 x197007 x197008 x197009 x197010 x197011 x197012 x197013 x197014 x197015 x197016 x197017 x197018 x197019 x197020 x197021 x197022 x197023 x197024 x197025 x197026 x197027 x197028 x197029 x197030 x197031 x197032).bind fun t221 => ((coracleref1_Times.f k x0 x197000 x197001 x197002 x197003 x197004 x197005 x197006 x197007 x197008 x197009 x197010 x197011 x197012 x197013 x197014 x197015 x197016 x197017 x197018 x197019 x197020 x197021 x197022 x197023 x197024 x197025 x197026 x197027 x197028 x197029 x197030 x197031 x197032).bind fun t222 => (if (t221 == (decide (t222 > 0))) = true then ((coraclelaw3_awake.f).bind fun t223 => (some t223)) else (some false)))) else (some false)))) else (some false)))) else (some false)))) else (some false))))))
def coraclelaw3_PointSets.f (k : Nat) (l0 : List (S25)) (l1 : List (S25)) (a2_0 : Int) (a2_1 : Int) (a2_2 : Int) (a2_3 : Int) (a2_4 : Int) (a2_5 : Int) (a2_6 : Int) (a2_7 : Int) (a2_8 : Int) (a2_9 : Int) (a2_10 : Int) (a2_11 : Int) (a2_12 : Int) (a2_13 : Int) (a2_14 : Int) (a2_15 : Int) (a2_16 : Int) (a2_17 : Int) (a2_18 : Int) (a2_19 : Int) (a2_20 : Int) (a2_21 : Int) (a2_22 : Int) (a2_23 : Int) (a2_24 : Int) (a2_25 : Int) (a2_26 : Int) (a2_27 : Int) (a2_28 : Int) (a2_29 : Int) (a2_30 : Int) (a2_31 : Int) (a2_32 : Int) : Option (Bool) := if (l0.length : Int) > 60 then (coraclelaw3_PointSets.j0 k l0 l1 true a2_0 a2_1 a2_2 a2_3 a2_4 a2_5 a2_6 a2_7 a2_8 a2_9 a2_10 a2_11 a2_12 a2_13 a2_14 a2_15 a2_16 a2_17 a2_18 a2_19 a2_20 a2_21 a2_22 a2_23 a2_24 a2_25 a2_26 a2_27 a2_28 a2_29 a2_30 a2_31 a2_32) else (coraclelaw3_PointSets.j0 k l0 l1 (decide ((l1.length : Int) > 60)) a2_0 a2_1 a2_2 a2_3 a2_4 a2_5 a2_6 a2_7 a2_8 a2_9 a2_10 a2_11 a2_12 a2_13 a2_14 a2_15 a2_16 a2_17 a2_18 a2_19 a2_20 a2_21 a2_22 a2_23 a2_24 a2_25 a2_26 a2_27 a2_28 a2_29 a2_30 a2_31 a2_32)
theorem coraclelaw3_PointSets.mono_l : ∀ k, (∀ y0 y1 y2 y3 y4 y5 y6 y7 y8 y9 y10 y11 y12 y13 y14 y15 y16 y17 y18 y19 y20 y21 y22 y23 y24 y25 y26 y27 y28 y29 y30 y31 y32 y33 y34 y35, LeO (coraclelaw3_PointSets.j0 k y0 y1 y2 y3 y4 y5 y6 y7 y8 y9 y10 y11 y12 y13 y14 y15 y16 y17 y18 y19 y20 y21 y22 y23 y24 y25 y26 y27 y28 y29 y30 y31 y32 y33 y34 y35) (coraclelaw3_PointSets.j0 (k + 1) y0 y1 y2 y3 y4 y5 y6 y7 y8 y9 y10 y11 y12 y13 y14 y15 y16 y17 y18 y19 y20 y21 y22 y23 y24 y25 y26 y27 y28 y29 y30 y31 y32 y33 y34 y35))
  | 0 => fun _ _ _ _ _ _ _ _ _ _ _ _ _ _ _ _ _ _ _ _ _ _ _ _ _ _ _ _ _ _ _ _ _ _ _ _ r h => by simp [coraclelaw3_PointSets.j0] at h
  | k + 1 => by
    have ih0 := coraclelaw3_PointSets.mono_l k
    · intro y0 y1 y2 y3 y4 y5 y6 y7 y8 y9 y10 y11 y12 y13 y14 y15 y16 y17 y18 y19 y20 y21 y22 y23 y24 y25 y26 y27 y28 y29 y30 y31 y32 y33 y34 y35
      unfold coraclelaw3_PointSets.j0
      repeat' first
      | (with_reducible exact ih0 _ _ _ _ _ _ _ _ _ _ _ _ _ _ _ _ _ _ _ _ _ _ _ _ _ _ _ _ _ _ _ _ _ _ _ _)
      | (with_reducible exact coraclealike_Points.mono _ _ _)
      | (with_reducible exact coracleref1_Alike.mono _ _ _)
      | (with_reducible exact coracleref1_Parted.mono _ _ _)
      | (with_reducible exact coracleref1_Sorted.mono _ _)
      | (with_reducible exact coracleref1_Times.mono _ _ _ _ _ _ _ _ _ _ _ _ _ _ _ _ _ _ _ _ _ _ _ _ _ _ _ _ _ _ _ _ _ _ _)
      | (with_reducible exact point_Alike.mono _ _ _)
      | (with_reducible exact point_Both.mono _ _ _)
      | (with_reducible exact point_Has.mono _ _ _ _ _ _ _ _ _ _ _ _ _ _ _ _ _ _ _ _ _ _ _ _ _ _ _ _ _ _ _ _ _ _ _)
      | (with_reducible exact point_Minus.mono _ _ _)
      | (with_reducible exact LeO.refl _)
      | (with_reducible exact LeO.none _)
      | (with_reducible refine LeO.ite ?_ ?_)
      | (with_reducible refine LeO.bind ?_ (fun _ => ?_))
      | exact ih0 _ _ _ _ _ _ _ _ _ _ _ _ _ _ _ _ _ _ _ _ _ _ _ _ _ _ _ _ _ _ _ _ _ _ _ _
      | exact coraclealike_Points.mono _ _ _
      | exact coracleref1_Alike.mono _ _ _
      | exact coracleref1_Parted.mono _ _ _
      | exact coracleref1_Sorted.mono _ _
      | exact coracleref1_Times.mono _ _ _ _ _ _ _ _ _ _ _ _ _ _ _ _ _ _ _ _ _ _ _ _ _ _ _ _ _ _ _ _ _ _ _
      | exact point_Alike.mono _ _ _
      | exact point_Both.mono _ _ _
      | exact point_Has.mono _ _ _ _ _ _ _ _ _ _ _ _ _ _ _ _ _ _ _ _ _ _ _ _ _ _ _ _ _ _ _ _ _ _ _
      | exact point_Minus.mono _ _ _
      | exact LeO.none _
      | refine LeO.ite ?_ ?_
      | refine LeO.bind ?_ (fun _ => ?_)
theorem coraclelaw3_PointSets.mono : ∀ a0 a1 a2 a3 a4 a5 a6 a7 a8 a9 a10 a11 a12 a13 a14 a15 a16 a17 a18 a19 a20 a21 a22 a23 a24 a25 a26 a27 a28 a29 a30 a31 a32 a33 a34 k, LeO (coraclelaw3_PointSets.f k a0 a1 a2 a3 a4 a5 a6 a7 a8 a9 a10 a11 a12 a13 a14 a15 a16 a17 a18 a19 a20 a21 a22 a23 a24 a25 a26 a27 a28 a29 a30 a31 a32 a33 a34) (coraclelaw3_PointSets.f (k + 1) a0 a1 a2 a3 a4 a5 a6 a7 a8 a9 a10 a11 a12 a13 a14 a15 a16 a17 a18 a19 a20 a21 a22 a23 a24 a25 a26 a27 a28 a29 a30 a31 a32 a33 a34) := by
  intro a0 a1 a2 a3 a4 a5 a6 a7 a8 a9 a10 a11 a12 a13 a14 a15 a16 a17 a18 a19 a20 a21 a22 a23 a24 a25 a26 a27 a28 a29 a30 a31 a32 a33 a34 k
  have ih0 := coraclelaw3_PointSets.mono_l k
  unfold coraclelaw3_PointSets.f
  repeat' first
      | (with_reducible exact ih0 _ _ _ _ _ _ _ _ _ _ _ _ _ _ _ _ _ _ _ _ _ _ _ _ _ _ _ _ _ _ _ _ _ _ _ _)
      | (with_reducible exact coraclealike_Points.mono _ _ _)
      | (with_reducible exact coracleref1_Alike.mono _ _ _)
      | (with_reducible exact coracleref1_Parted.mono _ _ _)
      | (with_reducible exact coracleref1_Sorted.mono _ _)
      | (with_reducible exact coracleref1_Times.mono _ _ _ _ _ _ _ _ _ _ _ _ _ _ _ _ _ _ _ _ _ _ _ _ _ _ _ _ _ _ _ _ _ _ _)
      | (with_reducible exact point_Alike.mono _ _ _)
      | (with_reducible exact point_Both.mono _ _ _)
      | (with_reducible exact point_Has.mono _ _ _ _ _ _ _ _ _ _ _ _ _ _ _ _ _ _ _ _ _ _ _ _ _ _ _ _ _ _ _ _ _ _ _)
      | (with_reducible exact point_Minus.mono _ _ _)
      | (with_reducible exact LeO.refl _)
      | (with_reducible exact LeO.none _)
      | (with_reducible refine LeO.ite ?_ ?_)
      | (with_reducible refine LeO.bind ?_ (fun _ => ?_))
      | exact ih0 _ _ _ _ _ _ _ _ _ _ _ _ _ _ _ _ _ _ _ _ _ _ _ _ _ _ _ _ _ _ _ _ _ _ _ _
      | exact coraclealike_Points.mono _ _ _
      | exact coracleref1_Alike.mono _ _ _
      | exact coracleref1_Parted.mono _ _ _
      | exact coracleref1_Sorted.mono _ _
      | exact coracleref1_Times.mono _ _ _ _ _ _ _ _ _ _ _ _ _ _ _ _ _ _ _ _ _ _ _ _ _ _ _ _ _ _ _ _ _ _ _
      | exact point_Alike.mono _ _ _
      | exact point_Both.mono _ _ _
      | exact point_Has.mono _ _ _ _ _ _ _ _ _ _ _ _ _ _ _ _ _ _ _ _ _ _ _ _ _ _ _ _ _ _ _ _ _ _ _
      | exact point_Minus.mono _ _ _
      | exact LeO.none _
      | refine LeO.ite ?_ ?_
      | refine LeO.bind ?_ (fun _ => ?_)
def coraclelaw3_PointSets.T4 : Bool × List (List Nat × List Nat) := (true, [([], []), ([0], [0]), ([], []), ([2, 1], [2]), ([1, 3, 3], [1, 3]), ([4, 4], [4]), ([5], [5]), ([5], [5]), ([6, 7, 5, 5], [5, 6, 7]), ([5], [5]), ([8, 9, 8, 5], [5, 8, 9]), ([5, 10], [5, 10]), ([11, 10], [11]), ([12], [12]), ([12], [12]), ([13, 14, 12, 12], [12, 13, 14]), ([12], [12]), ([15, 16, 15, 12], [12, 15, 16]), ([12, 17], [12, 17]), ([18, 17], [18]), ([19], [19]), ([19], [19]), ([20, 21, 19, 19], [19, 20, 21]), ([19], [19]), ([19], [19]), ([23, 24, 22, 19], [19, 23, 24]), ([22, 25, 19], [19, 22, 25]), ([19, 26], [19, 26]), ([27, 25], [27]), ([28], [28]), ([28], [28]), ([29, 30, 28, 28], [28, 29, 30]), ([28], [28]), ([28], [28]), ([32, 33, 31, 28], [28, 32, 33]), ([34, 28], [28, 34]), ([31, 35, 28], [28, 31, 35]), ([28, 36], [28, 36]), ([37, 34], [37]), ([38, 38], [38]), ([38, 39], [38, 39]), ([40, 39, 0, 1, 2, 3, 4, 5, 6, 7, 8, 9, 10, 11, 12, 13, 14, 15, 16, 17, 18, 19, 20, 21, 22, 23, 24, 25, 26, 27, 28, 29, 30, 31, 32, 33, 34, 35, 36, 37, 38, 39, 40], [40])])
def coraclelaw3_PointSets.B4 : List Nat := [0, 1, 0, 7, 15, 31, 63, 63, 255, 63, 1023, 2047, 4095, 8191, 8191, 32767, 8191, 131071, 262143, 524287, 1048575, 1048575, 4194303, 1048575, 1048575, 33554431, 67108863, 134217727, 268435455, 536870911, 536870911, 2147483647, 536870911, 536870911, 17179869183, 34359738367, 68719476735, 137438953471, 274877906943, 549755813887, 1099511627775, 2199023255551]
theorem coraclelaw3_PointSets.tab4 : rtab .any (opsOf Tryd.f4 4) = coraclelaw3_PointSets.T4 := by kernel_rfl
theorem coraclelaw3_PointSets.bits4 : waitsOk coraclelaw3_PointSets.T4.2 coraclelaw3_PointSets.B4 = true := by kernel_rfl
end Go.Proofs.YtmoecidfmgeafaaDoor.QPnt
