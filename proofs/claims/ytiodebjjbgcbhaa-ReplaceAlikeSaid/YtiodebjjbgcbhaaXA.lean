/- Functions of the program as plain Lean functions, and that its calls come to what these tell: written by a program of this session; Lean checks it. -/
import Derived.Test.YtiodebjjbgcbhaaQRepx0
import Derived.Test.YtiodebjjbgcbhaaQRepx2
import Derived.Test.YtiodebjjbgcbhaaQRepx3
import Derived.Test.YtiodebjjbgcbhaaQRepx6
import Derived.Test.YtiodebjjbgcbhaaQRepx7
import Derived.Test.YtiodebjjbgcbhaaQRepx8
import Derived.Test.YtiodebjjbgcbhaaQRepx11
namespace Go.Proofs.Ytiodebjjbgcbhaa.QRep
open Go.RowKit Go.Proofs.YtiodebjjbgcbhaaW.PrintWords Go.Proofs.YtiodebjjbgcbhaaW.PrintLast Go.Proofs.YtiodebjjbgcbhaaW.PrintMore
attribute [local go_sem] max2_int min2_int max_two min_two max_three min_three max_four min_four  run_fop run_feq run_fne run_flt run_fle run_fgt run_fge run_fint run_toi run_real' run_imag' run_complex' run_ceq run_cne run_cadd run_csub run_cmul Go.Proofs.Ytiodebjjbgcbhaa.Wide.cellsAt_drewN Go.Proofs.Ytiodebjjbgcbhaa.Wide.cellsAt_drew Go.Proofs.Ytiodebjjbgcbhaa.Wide.lw32 Go.Proofs.Ytiodebjjbgcbhaa.Wide.lw33 Go.Proofs.Ytiodebjjbgcbhaa.Wide.lw37 Go.Proofs.Ytiodebjjbgcbhaa.Wide.lw38 Go.Proofs.Ytiodebjjbgcbhaa.Wide.lw39 Go.Proofs.Ytiodebjjbgcbhaa.Wide.lw44
attribute [local go_sem ↓ high] Go.Proofs.Ytiodebjjbgcbhaa.Wide.hv32 Go.Proofs.Ytiodebjjbgcbhaa.Wide.hv33 Go.Proofs.Ytiodebjjbgcbhaa.Wide.hv37 Go.Proofs.Ytiodebjjbgcbhaa.Wide.hv38 Go.Proofs.Ytiodebjjbgcbhaa.Wide.hv39 Go.Proofs.Ytiodebjjbgcbhaa.Wide.hv44
set_option linter.unusedVariables false
set_option linter.unusedSimpArgs false

attribute [local go_sem high] eqA46
/-! ### coraclelaw18_ReplaceAlike: function 4 -/
mutual
def coraclelaw18_ReplaceAlike.j0 : Nat → List Int → List Int → Int → Bool → Option (Bool)
  | 0, _, _, _, _ => none
  | k + 1, x0, x1, x2, x28 => if x28 = true then ((coraclelaw18_awake.f k).bind fun t315 => (some t315)) else (coraclelaw18_ReplaceAlike.l0 k x0 x1 x2 false 0 ([] : List (S38)) 0 0 0 0 0 0 0 0 0 0 0 0 0 0 0 0)
def coraclelaw18_ReplaceAlike.l0 : Nat → List Int → List Int → Int → Bool → Int → List (S38) → Int → Int → Int → Int → Int → Int → Int → Int → Int → Int → Int → Int → Int → Int → Int → Int → Option (Bool)
  | 0, _, _, _, _, _, _, _, _, _, _, _, _, _, _, _, _, _, _, _, _, _, _ => none
  | k + 1, x0, x1, x2, x10, x11, x317000, x317002, x317003, x317004, x318002, x318003, x318004, x319000, x319001, x319002, x319003, x319004, x319005, x319006, x319007, x319008, x319009 => if x11 < (x0.length : Int) then (if 0 ≤ x11 then (coraclelaw18_ReplaceAlike.j2 k x0 x1 x2 x10 x11 (Int.tmod (wrap64 ((Int.tmod (rd x0 x11) 10) + 10)) 10) x317000 x317002 x317003 x317004 x318002 x318003 x318004 x319000 x319001 x319002 x319003 x319004 x319005 x319006 x319007 x319008 x319009) else (none)) else (coraclelaw18_ReplaceAlike.l1 k x1 x2 x10 0 x317000 x317002 x317003 x317004 ([] : List (S38)) x318002 x318003 x318004 x319000 x319001 x319002 x319003 x319004 x319005 x319006 x319007 x319008 x319009)
def coraclelaw18_ReplaceAlike.j2 : Nat → List Int → List Int → Int → Bool → Int → Int → List (S38) → Int → Int → Int → Int → Int → Int → Int → Int → Int → Int → Int → Int → Int → Int → Int → Int → Option (Bool)
  | 0, _, _, _, _, _, _, _, _, _, _, _, _, _, _, _, _, _, _, _, _, _, _, _ => none
  | k + 1, x0, x1, x2, x10, x11, x12, x317000, x317002, x317003, x317004, x318002, x318003, x318004, x319000, x319001, x319002, x319003, x319004, x319005, x319006, x319007, x319008, x319009 => if x317000.length < 1759218604441 then ((some (x317000 ++ [(⟨(⟨(⟨0, 0, 0, 0, 0, 0, 0, 0, 0, 0, 0, 0, 0, 0, 0, 0, 0, 0, 0, 0, 0, 0, 0, 0, 0, 0, 0, 0, 0, 0, 0, 0⟩ : S32), x12⟩ : S34), 0, (⟨0, 0, (⟨#[]⟩ : ByteArray)⟩ : S36)⟩ : S38)] : List (S38))).bind fun y320 => (if x12 = 0 then (coraclelaw18_ReplaceAlike.l0 k x0 x1 x2 x10 (wrap64 (x11 + 1)) y320 x317002 x317003 x317004 x318002 x318003 x318004 (wrap64 (x319000 + 1)) x319001 x319002 x319003 x319004 x319005 x319006 x319007 x319008 x319009) else (if x12 = 1 then (coraclelaw18_ReplaceAlike.l0 k x0 x1 x2 x10 (wrap64 (x11 + 1)) y320 x317002 x317003 x317004 x318002 x318003 x318004 x319000 (wrap64 (x319001 + 1)) x319002 x319003 x319004 x319005 x319006 x319007 x319008 x319009) else (if x12 = 2 then (coraclelaw18_ReplaceAlike.l0 k x0 x1 x2 x10 (wrap64 (x11 + 1)) y320 x317002 x317003 x317004 x318002 x318003 x318004 x319000 x319001 (wrap64 (x319002 + 1)) x319003 x319004 x319005 x319006 x319007 x319008 x319009) else (if x12 = 3 then (coraclelaw18_ReplaceAlike.l0 k x0 x1 x2 x10 (wrap64 (x11 + 1)) y320 x317002 x317003 x317004 x318002 x318003 x318004 x319000 x319001 x319002 (wrap64 (x319003 + 1)) x319004 x319005 x319006 x319007 x319008 x319009) else (if x12 = 4 then (coraclelaw18_ReplaceAlike.l0 k x0 x1 x2 x10 (wrap64 (x11 + 1)) y320 x317002 x317003 x317004 x318002 x318003 x318004 x319000 x319001 x319002 x319003 (wrap64 (x319004 + 1)) x319005 x319006 x319007 x319008 x319009) else (if x12 = 5 then (coraclelaw18_ReplaceAlike.l0 k x0 x1 x2 x10 (wrap64 (x11 + 1)) y320 x317002 x317003 x317004 x318002 x318003 x318004 x319000 x319001 x319002 x319003 x319004 (wrap64 (x319005 + 1)) x319006 x319007 x319008 x319009) else (if x12 = 6 then (coraclelaw18_ReplaceAlike.l0 k x0 x1 x2 x10 (wrap64 (x11 + 1)) y320 x317002 x317003 x317004 x318002 x318003 x318004 x319000 x319001 x319002 x319003 x319004 x319005 (wrap64 (x319006 + 1)) x319007 x319008 x319009) else (if x12 = 7 then (coraclelaw18_ReplaceAlike.l0 k x0 x1 x2 x10 (wrap64 (x11 + 1)) y320 x317002 x317003 x317004 x318002 x318003 x318004 x319000 x319001 x319002 x319003 x319004 x319005 x319006 (wrap64 (x319007 + 1)) x319008 x319009) else (if x12 = 8 then (coraclelaw18_ReplaceAlike.l0 k x0 x1 x2 x10 (wrap64 (x11 + 1)) y320 x317002 x317003 x317004 x318002 x318003 x318004 x319000 x319001 x319002 x319003 x319004 x319005 x319006 x319007 (wrap64 (x319008 + 1)) x319009) else (if x12 = 9 then (coraclelaw18_ReplaceAlike.l0 k x0 x1 x2 x10 (wrap64 (x11 + 1)) y320 x317002 x317003 x317004 x318002 x318003 x318004 x319000 x319001 x319002 x319003 x319004 x319005 x319006 x319007 x319008 (wrap64 (x319009 + 1))) else (none)))))))))))) else (none)
def coraclelaw18_ReplaceAlike.l1 : Nat → List Int → Int → Bool → Int → List (S38) → Int → Int → Int → List (S38) → Int → Int → Int → Int → Int → Int → Int → Int → Int → Int → Int → Int → Int → Option (Bool)
  | 0, _, _, _, _, _, _, _, _, _, _, _, _, _, _, _, _, _, _, _, _, _, _ => none
  | k + 1, x1, x2, x10, x13, x317000, x317002, x317003, x317004, x318000, x318002, x318003, x318004, x319000, x319001, x319002, x319003, x319004, x319005, x319006, x319007, x319008, x319009 => if x13 < (x1.length : Int) then (if (x1.length : Int) = 0 then (none) else (if 0 ≤ (Int.tmod (wrap64 (x13 + ((mx x2 0) % (x1.length : Int)))) (x1.length : Int)) then (if (Int.tmod (wrap64 (x13 + ((mx x2 0) % (x1.length : Int)))) (x1.length : Int)) < (x1.length : Int) then (coraclelaw18_ReplaceAlike.j4 k x1 x2 x10 x13 (Int.tmod (wrap64 ((Int.tmod (rd x1 (Int.tmod (wrap64 (x13 + ((mx x2 0) % (x1.length : Int)))) (x1.length : Int))) 10) + 10)) 10) x317000 x317002 x317003 x317004 x318000 x318002 x318003 x318004 x319000 x319001 x319002 x319003 x319004 x319005 x319006 x319007 x319008 x319009) else (none)) else (none))) else (coraclelaw18_ReplaceAlike.j6 k x10 (x319000 == 0 && (x319001 == 0 && (x319002 == 0 && (x319003 == 0 && (x319004 == 0 && (x319005 == 0 && (x319006 == 0 && (x319007 == 0 && (x319008 == 0 && (x319009 == 0)))))))))) x317000 x317002 x317003 x317004 x318000 x318002 x318003 x318004)
def coraclelaw18_ReplaceAlike.j4 : Nat → List Int → Int → Bool → Int → Int → List (S38) → Int → Int → Int → List (S38) → Int → Int → Int → Int → Int → Int → Int → Int → Int → Int → Int → Int → Int → Option (Bool)
  | 0, _, _, _, _, _, _, _, _, _, _, _, _, _, _, _, _, _, _, _, _, _, _, _ => none
  | k + 1, x1, x2, x10, x13, x14, x317000, x317002, x317003, x317004, x318000, x318002, x318003, x318004, x319000, x319001, x319002, x319003, x319004, x319005, x319006, x319007, x319008, x319009 => if x318000.length < 1759218604441 then ((some (x318000 ++ [(⟨(⟨(⟨0, 0, 0, 0, 0, 0, 0, 0, 0, 0, 0, 0, 0, 0, 0, 0, 0, 0, 0, 0, 0, 0, 0, 0, 0, 0, 0, 0, 0, 0, 0, 0⟩ : S32), x14⟩ : S34), 0, (⟨0, 0, (⟨#[]⟩ : ByteArray)⟩ : S36)⟩ : S38)] : List (S38))).bind fun y324 => (if x10 = true then (coraclelaw18_ReplaceAlike.j5 k x1 x2 true x13 x14 x317000 x317002 x317003 x317004 y324 x318002 x318003 x318004 x319000 x319001 x319002 x319003 x319004 x319005 x319006 x319007 x319008 x319009) else ((coracleref1_Spends.f k x317000 ([] : List (S64)) x317002 0 0 0 0 0 0 0 0 0 0 0 0 0 0 0 0 0 0 0 0 0 0 0 0 0 0 0 0 0 0 0 0 x14).bind fun t327 => (coraclelaw18_ReplaceAlike.j5 k x1 x2 (decide (t327 ≥ 0)) x13 x14 x317000 x317002 x317003 x317004 y324 x318002 x318003 x318004 x319000 x319001 x319002 x319003 x319004 x319005 x319006 x319007 x319008 x319009)))) else (none)
def coraclelaw18_ReplaceAlike.j5 : Nat → List Int → Int → Bool → Int → Int → List (S38) → Int → Int → Int → List (S38) → Int → Int → Int → Int → Int → Int → Int → Int → Int → Int → Int → Int → Int → Option (Bool)
  | 0, _, _, _, _, _, _, _, _, _, _, _, _, _, _, _, _, _, _, _, _, _, _, _ => none
  | k + 1, x1, x2, x10, x13, x14, x317000, x317002, x317003, x317004, x318000, x318002, x318003, x318004, x319000, x319001, x319002, x319003, x319004, x319005, x319006, x319007, x319008, x319009 => if x14 = 0 then (coraclelaw18_ReplaceAlike.l1 k x1 x2 x10 (wrap64 (x13 + 1)) x317000 x317002 x317003 x317004 x318000 x318002 x318003 x318004 (wrap64 (x319000 - 1)) x319001 x319002 x319003 x319004 x319005 x319006 x319007 x319008 x319009) else (if x14 = 1 then (coraclelaw18_ReplaceAlike.l1 k x1 x2 x10 (wrap64 (x13 + 1)) x317000 x317002 x317003 x317004 x318000 x318002 x318003 x318004 x319000 (wrap64 (x319001 - 1)) x319002 x319003 x319004 x319005 x319006 x319007 x319008 x319009) else (if x14 = 2 then (coraclelaw18_ReplaceAlike.l1 k x1 x2 x10 (wrap64 (x13 + 1)) x317000 x317002 x317003 x317004 x318000 x318002 x318003 x318004 x319000 x319001 (wrap64 (x319002 - 1)) x319003 x319004 x319005 x319006 x319007 x319008 x319009) else (if x14 = 3 then (coraclelaw18_ReplaceAlike.l1 k x1 x2 x10 (wrap64 (x13 + 1)) x317000 x317002 x317003 x317004 x318000 x318002 x318003 x318004 x319000 x319001 x319002 (wrap64 (x319003 - 1)) x319004 x319005 x319006 x319007 x319008 x319009) else (if x14 = 4 then (coraclelaw18_ReplaceAlike.l1 k x1 x2 x10 (wrap64 (x13 + 1)) x317000 x317002 x317003 x317004 x318000 x318002 x318003 x318004 x319000 x319001 x319002 x319003 (wrap64 (x319004 - 1)) x319005 x319006 x319007 x319008 x319009) else (if x14 = 5 then (coraclelaw18_ReplaceAlike.l1 k x1 x2 x10 (wrap64 (x13 + 1)) x317000 x317002 x317003 x317004 x318000 x318002 x318003 x318004 x319000 x319001 x319002 x319003 x319004 (wrap64 (x319005 - 1)) x319006 x319007 x319008 x319009) else (if x14 = 6 then (coraclelaw18_ReplaceAlike.l1 k x1 x2 x10 (wrap64 (x13 + 1)) x317000 x317002 x317003 x317004 x318000 x318002 x318003 x318004 x319000 x319001 x319002 x319003 x319004 x319005 (wrap64 (x319006 - 1)) x319007 x319008 x319009) else (if x14 = 7 then (coraclelaw18_ReplaceAlike.l1 k x1 x2 x10 (wrap64 (x13 + 1)) x317000 x317002 x317003 x317004 x318000 x318002 x318003 x318004 x319000 x319001 x319002 x319003 x319004 x319005 x319006 (wrap64 (x319007 - 1)) x319008 x319009) else (if x14 = 8 then (coraclelaw18_ReplaceAlike.l1 k x1 x2 x10 (wrap64 (x13 + 1)) x317000 x317002 x317003 x317004 x318000 x318002 x318003 x318004 x319000 x319001 x319002 x319003 x319004 x319005 x319006 x319007 (wrap64 (x319008 - 1)) x319009) else (if x14 = 9 then (coraclelaw18_ReplaceAlike.l1 k x1 x2 x10 (wrap64 (x13 + 1)) x317000 x317002 x317003 x317004 x318000 x318002 x318003 x318004 x319000 x319001 x319002 x319003 x319004 x319005 x319006 x319007 x319008 (wrap64 (x319009 - 1))) else (none))))))))))
def coraclelaw18_ReplaceAlike.j6 : Nat → Bool → Bool → List (S38) → Int → Int → Int → List (S38) → Int → Int → Int → Option (Bool)
  | 0, _, _, _, _, _, _, _, _, _, _ => none
  | k + 1, x10, x15, x317000, x317002, x317003, x317004, x318000, x318002, x318003, x318004 => (coraclelaw18_batches.f k (([(⟨(⟨x317000, ([] : List (S64)), x317002⟩ : S28), x317003, x317004⟩ : S30)] : List (S30)))).bind fun t331 => (if 0 < (t331.length : Int) then ((coraclelaw18_batches.f k (([(⟨(⟨x318000, ([] : List (S64)), x318002⟩ : S28), x318003, x318004⟩ : S30)] : List (S30)))).bind fun t338 => (if 0 < (t338.length : Int) then ((replace_Conflicts.f k (([(⟨(⟨(rd_T39 t331 0).f0.f0, (rd_T39 t331 0).f0.f1, (rd_T39 t331 0).f0.f2⟩ : S28), (rd_T39 t331 0).f1, (rd_T39 t331 0).f2⟩ : S39)] : List (S39))) ((rd_T39 t338 0).f0.f0) ((rd_T39 t338 0).f0.f1) ((rd_T39 t338 0).f0.f2) ((rd_T39 t338 0).f1) ((rd_T39 t338 0).f2)).bind fun t347 => ((replace_Put.f k (([(⟨(⟨(rd_T39 t331 0).f0.f0, (rd_T39 t331 0).f0.f1, (rd_T39 t331 0).f0.f2⟩ : S28), (rd_T39 t331 0).f1, (rd_T39 t331 0).f2⟩ : S39)] : List (S39))) ((rd_T39 t338 0).f0.f0) ((rd_T39 t338 0).f0.f1) ((rd_T39 t338 0).f0.f2) ((rd_T39 t338 0).f1) ((rd_T39 t338 0).f2)).bind fun bt353 => ((replace_Alike.f k ((rd_T39 t331 0).f0.f0) ((rd_T39 t331 0).f0.f1) ((rd_T39 t331 0).f0.f2) ((rd_T39 t331 0).f1) ((rd_T39 t331 0).f2) ((rd_T39 t338 0).f0.f0) ((rd_T39 t338 0).f0.f1) ((rd_T39 t338 0).f0.f2) ((rd_T39 t338 0).f1) ((rd_T39 t338 0).f2)).bind fun t357 => (if (t357 == x15) = true then ((replace_Alike.f k ((rd_T39 t338 0).f0.f0) ((rd_T39 t338 0).f0.f1) ((rd_T39 t338 0).f0.f2) ((rd_T39 t338 0).f1) ((rd_T39 t338 0).f2) ((rd_T39 t331 0).f0.f0) ((rd_T39 t331 0).f0.f1) ((rd_T39 t331 0).f0.f2) ((rd_T39 t331 0).f1) ((rd_T39 t331 0).f2)).bind fun t358 => (if (t358 == x15) = true then (if (((t347.length : Int) == 1) == x10) = true then (if (bt353.2 == (!x10)) = true then (if bt353.2 = true then (if (bt353.1.length : Int) = 2 then ((coraclelaw18_awake.f k).bind fun t359 => (some t359)) else (some false)) else ((coraclelaw18_awake.f k).bind fun t360 => (some t360))) else (some false)) else (some false)) else (some false))) else (some false))))) else (none))) else (none))
end
def coraclelaw18_ReplaceAlike.f (k : Nat) (l0 : List Int) (l1 : List Int) (a2 : Int) : Option (Bool) := if (l0.length : Int) > 20 then (coraclelaw18_ReplaceAlike.j0 k l0 l1 a2 true) else (coraclelaw18_ReplaceAlike.j0 k l0 l1 a2 (decide ((l1.length : Int) > 20)))
theorem coraclelaw18_ReplaceAlike.mono_l : ∀ k, (∀ y0 y1 y2 y3, LeO (coraclelaw18_ReplaceAlike.j0 k y0 y1 y2 y3) (coraclelaw18_ReplaceAlike.j0 (k + 1) y0 y1 y2 y3)) ∧ (∀ y0 y1 y2 y3 y4 y5 y6 y7 y8 y9 y10 y11 y12 y13 y14 y15 y16 y17 y18 y19 y20 y21, LeO (coraclelaw18_ReplaceAlike.l0 k y0 y1 y2 y3 y4 y5 y6 y7 y8 y9 y10 y11 y12 y13 y14 y15 y16 y17 y18 y19 y20 y21) (coraclelaw18_ReplaceAlike.l0 (k + 1) y0 y1 y2 y3 y4 y5 y6 y7 y8 y9 y10 y11 y12 y13 y14 y15 y16 y17 y18 y19 y20 y21)) ∧ (∀ y0 y1 y2 y3 y4 y5 y6 y7 y8 y9 y10 y11 y12 y13 y14 y15 y16 y17 y18 y19 y20 y21 y22, LeO (coraclelaw18_ReplaceAlike.j2 k y0 y1 y2 y3 y4 y5 y6 y7 y8 y9 y10 y11 y12 y13 y14 y15 y16 y17 y18 y19 y20 y21 y22) (coraclelaw18_ReplaceAlike.j2 (k + 1) y0 y1 y2 y3 y4 y5 y6 y7 y8 y9 y10 y11 y12 y13 y14 y15 y16 y17 y18 y19 y20 y21 y22)) ∧ (∀ y0 y1 y2 y3 y4 y5 y6 y7 y8 y9 y10 y11 y12 y13 y14 y15 y16 y17 y18 y19 y20 y21, LeO (coraclelaw18_ReplaceAlike.l1 k y0 y1 y2 y3 y4 y5 y6 y7 y8 y9 y10 y11 y12 y13 y14 y15 y16 y17 y18 y19 y20 y21) (coraclelaw18_ReplaceAlike.l1 (k + 1) y0 y1 y2 y3 y4 y5 y6 y7 y8 y9 y10 y11 y12 y13 y14 y15 y16 y17 y18 y19 y20 y21)) ∧ (∀ y0 y1 y2 y3 y4 y5 y6 y7 y8 y9 y10 y11 y12 y13 y14 y15 y16 y17 y18 y19 y20 y21 y22, LeO (coraclelaw18_ReplaceAlike.j4 k y0 y1 y2 y3 y4 y5 y6 y7 y8 y9 y10 y11 y12 y13 y14 y15 y16 y17 y18 y19 y20 y21 y22) (coraclelaw18_ReplaceAlike.j4 (k + 1) y0 y1 y2 y3 y4 y5 y6 y7 y8 y9 y10 y11 y12 y13 y14 y15 y16 y17 y18 y19 y20 y21 y22)) ∧ (∀ y0 y1 y2 y3 y4 y5 y6 y7 y8 y9 y10 y11 y12 y13 y14 y15 y16 y17 y18 y19 y20 y21 y22, LeO (coraclelaw18_ReplaceAlike.j5 k y0 y1 y2 y3 y4 y5 y6 y7 y8 y9 y10 y11 y12 y13 y14 y15 y16 y17 y18 y19 y20 y21 y22) (coraclelaw18_ReplaceAlike.j5 (k + 1) y0 y1 y2 y3 y4 y5 y6 y7 y8 y9 y10 y11 y12 y13 y14 y15 y16 y17 y18 y19 y20 y21 y22)) ∧ (∀ y0 y1 y2 y3 y4 y5 y6 y7 y8 y9, LeO (coraclelaw18_ReplaceAlike.j6 k y0 y1 y2 y3 y4 y5 y6 y7 y8 y9) (coraclelaw18_ReplaceAlike.j6 (k + 1) y0 y1 y2 y3 y4 y5 y6 y7 y8 y9))
  | 0 => ⟨fun _ _ _ _ r h => by simp [coraclelaw18_ReplaceAlike.j0] at h, fun _ _ _ _ _ _ _ _ _ _ _ _ _ _ _ _ _ _ _ _ _ _ r h => by simp [coraclelaw18_ReplaceAlike.l0] at h, fun _ _ _ _ _ _ _ _ _ _ _ _ _ _ _ _ _ _ _ _ _ _ _ r h => by simp [coraclelaw18_ReplaceAlike.j2] at h, fun _ _ _ _ _ _ _ _ _ _ _ _ _ _ _ _ _ _ _ _ _ _ r h => by simp [coraclelaw18_ReplaceAlike.l1] at h, fun _ _ _ _ _ _ _ _ _ _ _ _ _ _ _ _ _ _ _ _ _ _ _ r h => by simp [coraclelaw18_ReplaceAlike.j4] at h, fun _ _ _ _ _ _ _ _ _ _ _ _ _ _ _ _ _ _ _ _ _ _ _ r h => by simp [coraclelaw18_ReplaceAlike.j5] at h, fun _ _ _ _ _ _ _ _ _ _ r h => by simp [coraclelaw18_ReplaceAlike.j6] at h⟩
  | k + 1 => by
    obtain ⟨ih0, ih1, ih2, ih3, ih4, ih5, ih6⟩ := coraclelaw18_ReplaceAlike.mono_l k
    refine ⟨?_, ?_, ?_, ?_, ?_, ?_, ?_⟩
    · intro y0 y1 y2 y3
      unfold coraclelaw18_ReplaceAlike.j0
      repeat' first
      | (with_reducible exact ih0 _ _ _ _)
      | (with_reducible exact ih1 _ _ _ _ _ _ _ _ _ _ _ _ _ _ _ _ _ _ _ _ _ _)
      | (with_reducible exact ih2 _ _ _ _ _ _ _ _ _ _ _ _ _ _ _ _ _ _ _ _ _ _ _)
      | (with_reducible exact ih3 _ _ _ _ _ _ _ _ _ _ _ _ _ _ _ _ _ _ _ _ _ _)
      | (with_reducible exact ih4 _ _ _ _ _ _ _ _ _ _ _ _ _ _ _ _ _ _ _ _ _ _ _)
      | (with_reducible exact ih5 _ _ _ _ _ _ _ _ _ _ _ _ _ _ _ _ _ _ _ _ _ _ _)
      | (with_reducible exact ih6 _ _ _ _ _ _ _ _ _ _)
      | (with_reducible exact coraclelaw18_awake.mono _)
      | (with_reducible exact coraclelaw18_batches.mono _ _)
      | (with_reducible exact coracleref1_Spends.mono _ _ _ _ _ _ _ _ _ _ _ _ _ _ _ _ _ _ _ _ _ _ _ _ _ _ _ _ _ _ _ _ _ _ _ _ _)
      | (with_reducible exact replace_Alike.mono _ _ _ _ _ _ _ _ _ _ _)
      | (with_reducible exact replace_Conflicts.mono _ _ _ _ _ _ _)
      | (with_reducible exact replace_Put.mono _ _ _ _ _ _ _)
      | (with_reducible exact LeO.refl _)
      | (with_reducible exact LeO.none _)
      | (with_reducible refine LeO.ite ?_ ?_)
      | (with_reducible refine LeO.bind ?_ (fun _ => ?_))
      | exact ih0 _ _ _ _
      | exact ih1 _ _ _ _ _ _ _ _ _ _ _ _ _ _ _ _ _ _ _ _ _ _
      | exact ih2 _ _ _ _ _ _ _ _ _ _ _ _ _ _ _ _ _ _ _ _ _ _ _
      | exact ih3 _ _ _ _ _ _ _ _ _ _ _ _ _ _ _ _ _ _ _ _ _ _
      | exact ih4 _ _ _ _ _ _ _ _ _ _ _ _ _ _ _ _ _ _ _ _ _ _ _
      | exact ih5 _ _ _ _ _ _ _ _ _ _ _ _ _ _ _ _ _ _ _ _ _ _ _
      | exact ih6 _ _ _ _ _ _ _ _ _ _
      | exact coraclelaw18_awake.mono _
      | exact coraclelaw18_batches.mono _ _
      | exact coracleref1_Spends.mono _ _ _ _ _ _ _ _ _ _ _ _ _ _ _ _ _ _ _ _ _ _ _ _ _ _ _ _ _ _ _ _ _ _ _ _ _
      | exact replace_Alike.mono _ _ _ _ _ _ _ _ _ _ _
      | exact replace_Conflicts.mono _ _ _ _ _ _ _
      | exact replace_Put.mono _ _ _ _ _ _ _
      | exact LeO.none _
      | refine LeO.ite ?_ ?_
      | refine LeO.bind ?_ (fun _ => ?_)
    · intro y0 y1 y2 y3 y4 y5 y6 y7 y8 y9 y10 y11 y12 y13 y14 y15 y16 y17 y18 y19 y20 y21
      unfold coraclelaw18_ReplaceAlike.l0
      repeat' first
      | (with_reducible exact ih0 _ _ _ _)
      | (with_reducible exact ih1 _ _ _ _ _ _ _ _ _ _ _ _ _ _ _ _ _ _ _ _ _ _)
      | (with_reducible exact ih2 _ _ _ _ _ _ _ _ _ _ _ _ _ _ _ _ _ _ _ _ _ _ _)
      | (with_reducible exact ih3 _ _ _ _ _ _ _ _ _ _ _ _ _ _ _ _ _ _ _ _ _ _)
      | (with_reducible exact ih4 _ _ _ _ _ _ _ _ _ _ _ _ _ _ _ _ _ _ _ _ _ _ _)
      | (with_reducible exact ih5 _ _ _ _ _ _ _ _ _ _ _ _ _ _ _ _ _ _ _ _ _ _ _)
      | (with_reducible exact ih6 _ _ _ _ _ _ _ _ _ _)
      | (with_reducible exact coraclelaw18_awake.mono _)
      | (with_reducible exact coraclelaw18_batches.mono _ _)
      | (with_reducible exact coracleref1_Spends.mono _ _ _ _ _ _ _ _ _ _ _ _ _ _ _ _ _ _ _ _ _ _ _ _ _ _ _ _ _ _ _ _ _ _ _ _ _)
      | (with_reducible exact replace_Alike.mono _ _ _ _ _ _ _ _ _ _ _)
      | (with_reducible exact replace_Conflicts.mono _ _ _ _ _ _ _)
      | (with_reducible exact replace_Put.mono _ _ _ _ _ _ _)
      | (with_reducible exact LeO.refl _)
      | (with_reducible exact LeO.none _)
      | (with_reducible refine LeO.ite ?_ ?_)
      | (with_reducible refine LeO.bind ?_ (fun _ => ?_))
      | exact ih0 _ _ _ _
      | exact ih1 _ _ _ _ _ _ _ _ _ _ _ _ _ _ _ _ _ _ _ _ _ _
      | exact ih2 _ _ _ _ _ _ _ _ _ _ _ _ _ _ _ _ _ _ _ _ _ _ _
      | exact ih3 _ _ _ _ _ _ _ _ _ _ _ _ _ _ _ _ _ _ _ _ _ _
      | exact ih4 _ _ _ _ _ _ _ _ _ _ _ _ _ _ _ _ _ _ _ _ _ _ _
      | exact ih5 _ _ _ _ _ _ _ _ _ _ _ _ _ _ _ _ _ _ _ _ _ _ _
      | exact ih6 _ _ _ _ _ _ _ _ _ _
      | exact coraclelaw18_awake.mono _
      | exact coraclelaw18_batches.mono _ _
      | exact coracleref1_Spends.mono _ _ _ _ _ _ _ _ _ _ _ _ _ _ _ _ _ _ _ _ _ _ _ _ _ _ _ _ _ _ _ _ _ _ _ _ _
      | exact replace_Alike.mono _ _ _ _ _ _ _ _ _ _ _
      | exact replace_Conflicts.mono _ _ _ _ _ _ _
      | exact replace_Put.mono _ _ _ _ _ _ _
      | exact LeO.none _
      | refine LeO.ite ?_ ?_
      | refine LeO.bind ?_ (fun _ => ?_)
    · intro y0 y1 y2 y3 y4 y5 y6 y7 y8 y9 y10 y11 y12 y13 y14 y15 y16 y17 y18 y19 y20 y21 y22
      unfold coraclelaw18_ReplaceAlike.j2
      repeat' first
      | (with_reducible exact ih0 _ _ _ _)
      | (with_reducible exact ih1 _ _ _ _ _ _ _ _ _ _ _ _ _ _ _ _ _ _ _ _ _ _)
      | (with_reducible exact ih2 _ _ _ _ _ _ _ _ _ _ _ _ _ _ _ _ _ _ _ _ _ _ _)
      | (with_reducible exact ih3 _ _ _ _ _ _ _ _ _ _ _ _ _ _ _ _ _ _ _ _ _ _)
      | (with_reducible exact ih4 _ _ _ _ _ _ _ _ _ _ _ _ _ _ _ _ _ _ _ _ _ _ _)
      | (with_reducible exact ih5 _ _ _ _ _ _ _ _ _ _ _ _ _ _ _ _ _ _ _ _ _ _ _)
      | (with_reducible exact ih6 _ _ _ _ _ _ _ _ _ _)
      | (with_reducible exact coraclelaw18_awake.mono _)
      | (with_reducible exact coraclelaw18_batches.mono _ _)
      | (with_reducible exact coracleref1_Spends.mono _ _ _ _ _ _ _ _ _ _ _ _ _ _ _ _ _ _ _ _ _ _ _ _ _ _ _ _ _ _ _ _ _ _ _ _ _)
      | (with_reducible exact replace_Alike.mono _ _ _ _ _ _ _ _ _ _ _)
      | (with_reducible exact replace_Conflicts.mono _ _ _ _ _ _ _)
      | (with_reducible exact replace_Put.mono _ _ _ _ _ _ _)
      | (with_reducible exact LeO.refl _)
      | (with_reducible exact LeO.none _)
      | (with_reducible refine LeO.ite ?_ ?_)
      | (with_reducible refine LeO.bind ?_ (fun _ => ?_))
      | exact ih0 _ _ _ _
      | exact ih1 _ _ _ _ _ _ _ _ _ _ _ _ _ _ _ _ _ _ _ _ _ _
      | exact ih2 _ _ _ _ _ _ _ _ _ _ _ _ _ _ _ _ _ _ _ _ _ _ _
      | exact ih3 _ _ _ _ _ _ _ _ _ _ _ _ _ _ _ _ _ _ _ _ _ _
      | exact ih4 _ _ _ _ _ _ _ _ _ _ _ _ _ _ _ _ _ _ _ _ _ _ _
      | exact ih5 _ _ _ _ _ _ _ _ _ _ _ _ _ _ _ _ _ _ _ _ _ _ _
      | exact ih6 _ _ _ _ _ _ _ _ _ _
      | exact coraclelaw18_awake.mono _
      | exact coraclelaw18_batches.mono _ _
      | exact coracleref1_Spends.mono _ _ _ _ _ _ _ _ _ _ _ _ _ _ _ _ _ _ _ _ _ _ _ _ _ _ _ _ _ _ _ _ _ _ _ _ _
      | exact replace_Alike.mono _ _ _ _ _ _ _ _ _ _ _
      | exact replace_Conflicts.mono _ _ _ _ _ _ _
      | exact replace_Put.mono _ _ _ _ _ _ _
      | exact LeO.none _
      | refine LeO.ite ?_ ?_
      | refine LeO.bind ?_ (fun _ => ?_)
    · intro y0 y1 y2 y3 y4 y5 y6 y7 y8 y9 y10 y11 y12 y13 y14 y15 y16 y17 y18 y19 y20 y21
      unfold coraclelaw18_ReplaceAlike.l1
      repeat' first
      | (with_reducible exact ih0 _ _ _ _)
      | (with_reducible exact ih1 _ _ _ _ _ _ _ _ _ _ _ _ _ _ _ _ _ _ _ _ _ _)
      | (with_reducible exact ih2 _ _ _ _ _ _ _ _ _ _ _ _ _ _ _ _ _ _ _ _ _ _ _)
      | (with_reducible exact ih3 _ _ _ _ _ _ _ _ _ _ _ _ _ _ _ _ _ _ _ _ _ _)
      | (with_reducible exact ih4 _ _ _ _ _ _ _ _ _ _ _ _ _ _ _ _ _ _ _ _ _ _ _)
      | (with_reducible exact ih5 _ _ _ _ _ _ _ _ _ _ _ _ _ _ _ _ _ _ _ _ _ _ _)
      | (with_reducible exact ih6 _ _ _ _ _ _ _ _ _ _)
      | (with_reducible exact coraclelaw18_awake.mono _)
      | (with_reducible exact coraclelaw18_batches.mono _ _)
      | (with_reducible exact coracleref1_Spends.mono _ _ _ _ _ _ _ _ _ _ _ _ _ _ _ _ _ _ _ _ _ _ _ _ _ _ _ _ _ _ _ _ _ _ _ _ _)
      | (with_reducible exact replace_Alike.mono _ _ _ _ _ _ _ _ _ _ _)
      | (with_reducible exact replace_Conflicts.mono _ _ _ _ _ _ _)
      | (with_reducible exact replace_Put.mono _ _ _ _ _ _ _)
      | (with_reducible exact LeO.refl _)
      | (with_reducible exact LeO.none _)
      | (with_reducible refine LeO.ite ?_ ?_)
      | (with_reducible refine LeO.bind ?_ (fun _ => ?_))
      | exact ih0 _ _ _ _
      | exact ih1 _ _ _ _ _ _ _ _ _ _ _ _ _ _ _ _ _ _ _ _ _ _
      | exact ih2 _ _ _ _ _ _ _ _ _ _ _ _ _ _ _ _ _ _ _ _ _ _ _
      | exact ih3 _ _ _ _ _ _ _ _ _ _ _ _ _ _ _ _ _ _ _ _ _ _
      | exact ih4 _ _ _ _ _ _ _ _ _ _ _ _ _ _ _ _ _ _ _ _ _ _ _
      | exact ih5 _ _ _ _ _ _ _ _ _ _ _ _ _ _ _ _ _ _ _ _ _ _ _
      | exact ih6 _ _ _ _ _ _ _ _ _ _
      | exact coraclelaw18_awake.mono _
      | exact coraclelaw18_batches.mono _ _
      | exact coracleref1_Spends.mono _ _ _ _ _ _ _ _ _ _ _ _ _ _ _ _ _ _ _ _ _ _ _ _ _ _ _ _ _ _ _ _ _ _ _ _ _
      | exact replace_Alike.mono _ _ _ _ _ _ _ _ _ _ _
      | exact replace_Conflicts.mono _ _ _ _ _ _ _
      | exact replace_Put.mono _ _ _ _ _ _ _
      | exact LeO.none _
      | refine LeO.ite ?_ ?_
      | refine LeO.bind ?_ (fun _ => ?_)
    · intro y0 y1 y2 y3 y4 y5 y6 y7 y8 y9 y10 y11 y12 y13 y14 y15 y16 y17 y18 y19 y20 y21 y22
      unfold coraclelaw18_ReplaceAlike.j4
      repeat' first
      | (with_reducible exact ih0 _ _ _ _)
      | (with_reducible exact ih1 _ _ _ _ _ _ _ _ _ _ _ _ _ _ _ _ _ _ _ _ _ _)
      | (with_reducible exact ih2 _ _ _ _ _ _ _ _ _ _ _ _ _ _ _ _ _ _ _ _ _ _ _)
      | (with_reducible exact ih3 _ _ _ _ _ _ _ _ _ _ _ _ _ _ _ _ _ _ _ _ _ _)
      | (with_reducible exact ih4 _ _ _ _ _ _ _ _ _ _ _ _ _ _ _ _ _ _ _ _ _ _ _)
      | (with_reducible exact ih5 _ _ _ _ _ _ _ _ _ _ _ _ _ _ _ _ _ _ _ _ _ _ _)
      | (with_reducible exact ih6 _ _ _ _ _ _ _ _ _ _)
      | (with_reducible exact coraclelaw18_awake.mono _)
      | (with_reducible exact coraclelaw18_batches.mono _ _)
      | (with_reducible exact coracleref1_Spends.mono _ _ _ _ _ _ _ _ _ _ _ _ _ _ _ _ _ _ _ _ _ _ _ _ _ _ _ _ _ _ _ _ _ _ _ _ _)
      | (with_reducible exact replace_Alike.mono _ _ _ _ _ _ _ _ _ _ _)
      | (with_reducible exact replace_Conflicts.mono _ _ _ _ _ _ _)
      | (with_reducible exact replace_Put.mono _ _ _ _ _ _ _)
      | (with_reducible exact LeO.refl _)
      | (with_reducible exact LeO.none _)
      | (with_reducible refine LeO.ite ?_ ?_)
      | (with_reducible refine LeO.bind ?_ (fun _ => ?_))
      | exact ih0 _ _ _ _
      | exact ih1 _ _ _ _ _ _ _ _ _ _ _ _ _ _ _ _ _ _ _ _ _ _
      | exact ih2 _ _ _ _ _ _ _ _ _ _ _ _ _ _ _ _ _ _ _ _ _ _ _
      | exact ih3 _ _ _ _ _ _ _ _ _ _ _ _ _ _ _ _ _ _ _ _ _ _
      | exact ih4 _ _ _ _ _ _ _ _ _ _ _ _ _ _ _ _ _ _ _ _ _ _ _
      | exact ih5 _ _ _ _ _ _ _ _ _ _ _ _ _ _ _ _ _ _ _ _ _ _ _
      | exact ih6 _ _ _ _ _ _ _ _ _ _
      | exact coraclelaw18_awake.mono _
      | exact coraclelaw18_batches.mono _ _
      | exact coracleref1_Spends.mono _ _ _ _ _ _ _ _ _ _ _ _ _ _ _ _ _ _ _ _ _ _ _ _ _ _ _ _ _ _ _ _ _ _ _ _ _
      | exact replace_Alike.mono _ _ _ _ _ _ _ _ _ _ _
      | exact replace_Conflicts.mono _ _ _ _ _ _ _
      | exact replace_Put.mono _ _ _ _ _ _ _
      | exact LeO.none _
      | refine LeO.ite ?_ ?_
      | refine LeO.bind ?_ (fun _ => ?_)
    · intro y0 y1 y2 y3 y4 y5 y6 y7 y8 y9 y10 y11 y12 y13 y14 y15 y16 y17 y18 y19 y20 y21 y22
      unfold coraclelaw18_ReplaceAlike.j5
      repeat' first
      | (with_reducible exact ih0 _ _ _ _)
      | (with_reducible exact ih1 _ _ _ _ _ _ _ _ _ _ _ _ _ _ _ _ _ _ _ _ _ _)
      | (with_reducible exact ih2 _ _ _ _ _ _ _ _ _ _ _ _ _ _ _ _ _ _ _ _ _ _ _)
      | (with_reducible exact ih3 _ _ _ _ _ _ _ _ _ _ _ _ _ _ _ _ _ _ _ _ _ _)
      | (with_reducible exact ih4 _ _ _ _ _ _ _ _ _ _ _ _ _ _ _ _ _ _ _ _ _ _ _)
      | (with_reducible exact ih5 _ _ _ _ _ _ _ _ _ _ _ _ _ _ _ _ _ _ _ _ _ _ _)
      | (with_reducible exact ih6 _ _ _ _ _ _ _ _ _ _)
      | (with_reducible exact coraclelaw18_awake.mono _)
      | (with_reducible exact coraclelaw18_batches.mono _ _)
      | (with_reducible exact coracleref1_Spends.mono _ _ _ _ _ _ _ _ _ _ _ _ _ _ _ _ _ _ _ _ _ _ _ _ _ _ _ _ _ _ _ _ _ _ _ _ _)
      | (with_reducible exact replace_Alike.mono _ _ _ _ _ _ _ _ _ _ _)
      | (with_reducible exact replace_Conflicts.mono _ _ _ _ _ _ _)
      | (with_reducible exact replace_Put.mono _ _ _ _ _ _ _)
      | (with_reducible exact LeO.refl _)
      | (with_reducible exact LeO.none _)
      | (with_reducible refine LeO.ite ?_ ?_)
      | (with_reducible refine LeO.bind ?_ (fun _ => ?_))
      | exact ih0 _ _ _ _
      | exact ih1 _ _ _ _ _ _ _ _ _ _ _ _ _ _ _ _ _ _ _ _ _ _
      | exact ih2 _ _ _ _ _ _ _ _ _ _ _ _ _ _ _ _ _ _ _ _ _ _ _
      | exact ih3 _ _ _ _ _ _ _ _ _ _ _ _ _ _ _ _ _ _ _ _ _ _
      | exact ih4 _ _ _ _ _ _ _ _ _ _ _ _ _ _ _ _ _ _ _ _ _ _ _
      | exact ih5 _ _ _ _ _ _ _ _ _ _ _ _ _ _ _ _ _ _ _ _ _ _ _
      | exact ih6 _ _ _ _ _ _ _ _ _ _
      | exact coraclelaw18_awake.mono _
      | exact coraclelaw18_batches.mono _ _
      | exact coracleref1_Spends.mono _ _ _ _ _ _ _ _ _ _ _ _ _ _ _ _ _ _ _ _ _ _ _ _ _ _ _ _ _ _ _ _ _ _ _ _ _
      | exact replace_Alike.mono _ _ _ _ _ _ _ _ _ _ _
      | exact replace_Conflicts.mono _ _ _ _ _ _ _
      | exact replace_Put.mono _ _ _ _ _ _ _
      | exact LeO.none _
      | refine LeO.ite ?_ ?_
      | refine LeO.bind ?_ (fun _ => ?_)
    · intro y0 y1 y2 y3 y4 y5 y6 y7 y8 y9
      unfold coraclelaw18_ReplaceAlike.j6
      repeat' first
      | (with_reducible exact ih0 _ _ _ _)
      | (with_reducible exact ih1 _ _ _ _ _ _ _ _ _ _ _ _ _ _ _ _ _ _ _ _ _ _)
      | (with_reducible exact ih2 _ _ _ _ _ _ _ _ _ _ _ _ _ _ _ _ _ _ _ _ _ _ _)
      | (with_reducible exact ih3 _ _ _ _ _ _ _ _ _ _ _ _ _ _ _ _ _ _ _ _ _ _)
      | (with_reducible exact ih4 _ _ _ _ _ _ _ _ _ _ _ _ _ _ _ _ _ _ _ _ _ _ _)
      | (with_reducible exact ih5 _ _ _ _ _ _ _ _ _ _ _ _ _ _ _ _ _ _ _ _ _ _ _)
      | (with_reducible exact ih6 _ _ _ _ _ _ _ _ _ _)
      | (with_reducible exact coraclelaw18_awake.mono _)
      | (with_reducible exact coraclelaw18_batches.mono _ _)
      | (with_reducible exact coracleref1_Spends.mono _ _ _ _ _ _ _ _ _ _ _ _ _ _ _ _ _ _ _ _ _ _ _ _ _ _ _ _ _ _ _ _ _ _ _ _ _)
      | (with_reducible exact replace_Alike.mono _ _ _ _ _ _ _ _ _ _ _)
      | (with_reducible exact replace_Conflicts.mono _ _ _ _ _ _ _)
      | (with_reducible exact replace_Put.mono _ _ _ _ _ _ _)
      | (with_reducible exact LeO.refl _)
      | (with_reducible exact LeO.none _)
      | (with_reducible refine LeO.ite ?_ ?_)
      | (with_reducible refine LeO.bind ?_ (fun _ => ?_))
      | exact ih0 _ _ _ _
      | exact ih1 _ _ _ _ _ _ _ _ _ _ _ _ _ _ _ _ _ _ _ _ _ _
      | exact ih2 _ _ _ _ _ _ _ _ _ _ _ _ _ _ _ _ _ _ _ _ _ _ _
      | exact ih3 _ _ _ _ _ _ _ _ _ _ _ _ _ _ _ _ _ _ _ _ _ _
      | exact ih4 _ _ _ _ _ _ _ _ _ _ _ _ _ _ _ _ _ _ _ _ _ _ _
      | exact ih5 _ _ _ _ _ _ _ _ _ _ _ _ _ _ _ _ _ _ _ _ _ _ _
      | exact ih6 _ _ _ _ _ _ _ _ _ _
      | exact coraclelaw18_awake.mono _
      | exact coraclelaw18_batches.mono _ _
      | exact coracleref1_Spends.mono _ _ _ _ _ _ _ _ _ _ _ _ _ _ _ _ _ _ _ _ _ _ _ _ _ _ _ _ _ _ _ _ _ _ _ _ _
      | exact replace_Alike.mono _ _ _ _ _ _ _ _ _ _ _
      | exact replace_Conflicts.mono _ _ _ _ _ _ _
      | exact replace_Put.mono _ _ _ _ _ _ _
      | exact LeO.none _
      | refine LeO.ite ?_ ?_
      | refine LeO.bind ?_ (fun _ => ?_)
theorem coraclelaw18_ReplaceAlike.mono : ∀ a0 a1 a2 k, LeO (coraclelaw18_ReplaceAlike.f k a0 a1 a2) (coraclelaw18_ReplaceAlike.f (k + 1) a0 a1 a2) := by
  intro a0 a1 a2 k
  obtain ⟨ih0, ih1, ih2, ih3, ih4, ih5, ih6⟩ := coraclelaw18_ReplaceAlike.mono_l k
  unfold coraclelaw18_ReplaceAlike.f
  repeat' first
      | (with_reducible exact ih0 _ _ _ _)
      | (with_reducible exact ih1 _ _ _ _ _ _ _ _ _ _ _ _ _ _ _ _ _ _ _ _ _ _)
      | (with_reducible exact ih2 _ _ _ _ _ _ _ _ _ _ _ _ _ _ _ _ _ _ _ _ _ _ _)
      | (with_reducible exact ih3 _ _ _ _ _ _ _ _ _ _ _ _ _ _ _ _ _ _ _ _ _ _)
      | (with_reducible exact ih4 _ _ _ _ _ _ _ _ _ _ _ _ _ _ _ _ _ _ _ _ _ _ _)
      | (with_reducible exact ih5 _ _ _ _ _ _ _ _ _ _ _ _ _ _ _ _ _ _ _ _ _ _ _)
      | (with_reducible exact ih6 _ _ _ _ _ _ _ _ _ _)
      | (with_reducible exact coraclelaw18_awake.mono _)
      | (with_reducible exact coraclelaw18_batches.mono _ _)
      | (with_reducible exact coracleref1_Spends.mono _ _ _ _ _ _ _ _ _ _ _ _ _ _ _ _ _ _ _ _ _ _ _ _ _ _ _ _ _ _ _ _ _ _ _ _ _)
      | (with_reducible exact replace_Alike.mono _ _ _ _ _ _ _ _ _ _ _)
      | (with_reducible exact replace_Conflicts.mono _ _ _ _ _ _ _)
      | (with_reducible exact replace_Put.mono _ _ _ _ _ _ _)
      | (with_reducible exact LeO.refl _)
      | (with_reducible exact LeO.none _)
      | (with_reducible refine LeO.ite ?_ ?_)
      | (with_reducible refine LeO.bind ?_ (fun _ => ?_))
      | exact ih0 _ _ _ _
      | exact ih1 _ _ _ _ _ _ _ _ _ _ _ _ _ _ _ _ _ _ _ _ _ _
      | exact ih2 _ _ _ _ _ _ _ _ _ _ _ _ _ _ _ _ _ _ _ _ _ _ _
      | exact ih3 _ _ _ _ _ _ _ _ _ _ _ _ _ _ _ _ _ _ _ _ _ _
      | exact ih4 _ _ _ _ _ _ _ _ _ _ _ _ _ _ _ _ _ _ _ _ _ _ _
      | exact ih5 _ _ _ _ _ _ _ _ _ _ _ _ _ _ _ _ _ _ _ _ _ _ _
      | exact ih6 _ _ _ _ _ _ _ _ _ _
      | exact coraclelaw18_awake.mono _
      | exact coraclelaw18_batches.mono _ _
      | exact coracleref1_Spends.mono _ _ _ _ _ _ _ _ _ _ _ _ _ _ _ _ _ _ _ _ _ _ _ _ _ _ _ _ _ _ _ _ _ _ _ _ _
      | exact replace_Alike.mono _ _ _ _ _ _ _ _ _ _ _
      | exact replace_Conflicts.mono _ _ _ _ _ _ _
      | exact replace_Put.mono _ _ _ _ _ _ _
      | exact LeO.none _
      | refine LeO.ite ?_ ?_
      | refine LeO.bind ?_ (fun _ => ?_)
/-- THE ONE PURE STATEMENT of coraclelaw18_ReplaceAlike: yours. -/
def coraclelaw18_ReplaceAlike.Pure : Prop := ∀ (l0 : List Int) (l1 : List Int) (a2 : Int), l0.length ≤ maxLen → l0.length * 8 ≤ 140737488351232 → (∀ x ∈ l0, (Lit.int .i64 x).wf = true) → l1.length ≤ maxLen → l1.length * 8 ≤ 140737488351232 → (∀ x ∈ l1, (Lit.int .i64 x).wf = true) → (Lit.int .i64 a2).wf = true → ∃ k, coraclelaw18_ReplaceAlike.f k l0 l1 a2 = some true
end Go.Proofs.Ytiodebjjbgcbhaa.QRep
