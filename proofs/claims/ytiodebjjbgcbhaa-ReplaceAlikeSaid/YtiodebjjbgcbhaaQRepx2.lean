/- Functions of the program as plain Lean functions, and that its calls come to what these tell: written by a program of this session; Lean checks it. -/
import Derived.Test.YtiodebjjbgcbhaaQRepx0
namespace Go.Proofs.Ytiodebjjbgcbhaa.QRep
open Go.RowKit Go.Proofs.YtiodebjjbgcbhaaW.PrintWords Go.Proofs.YtiodebjjbgcbhaaW.PrintLast Go.Proofs.YtiodebjjbgcbhaaW.PrintMore
attribute [local go_sem] max2_int min2_int max_two min_two max_three min_three max_four min_four  run_fop run_feq run_fne run_flt run_fle run_fgt run_fge run_fint run_toi run_real' run_imag' run_complex' run_ceq run_cne run_cadd run_csub run_cmul Go.Proofs.Ytiodebjjbgcbhaa.Wide.cellsAt_drewN Go.Proofs.Ytiodebjjbgcbhaa.Wide.cellsAt_drew Go.Proofs.Ytiodebjjbgcbhaa.Wide.lw32 Go.Proofs.Ytiodebjjbgcbhaa.Wide.lw33 Go.Proofs.Ytiodebjjbgcbhaa.Wide.lw37 Go.Proofs.Ytiodebjjbgcbhaa.Wide.lw38 Go.Proofs.Ytiodebjjbgcbhaa.Wide.lw39 Go.Proofs.Ytiodebjjbgcbhaa.Wide.lw44
attribute [local go_sem ↓ high] Go.Proofs.Ytiodebjjbgcbhaa.Wide.hv32 Go.Proofs.Ytiodebjjbgcbhaa.Wide.hv33 Go.Proofs.Ytiodebjjbgcbhaa.Wide.hv37 Go.Proofs.Ytiodebjjbgcbhaa.Wide.hv38 Go.Proofs.Ytiodebjjbgcbhaa.Wide.hv39 Go.Proofs.Ytiodebjjbgcbhaa.Wide.hv44
set_option linter.unusedVariables false
set_option linter.unusedSimpArgs false

theorem eqA46 (d : Nat) (w : World) (x0 y0 : Int) (x1 y1 : Int) (x2 y2 : Int) (x3 y3 : Int) (x4 y4 : Int) (x5 y5 : Int) (x6 y6 : Int) (x7 y7 : Int) (x8 y8 : Int) (x9 y9 : Int) :
    (Op.equalIn (d + 2) 46 (.agg #[.int .i64 x0, .int .i64 x1, .int .i64 x2, .int .i64 x3, .int .i64 x4, .int .i64 x5, .int .i64 x6, .int .i64 x7, .int .i64 x8, .int .i64 x9]) (.agg #[.int .i64 y0, .int .i64 y1, .int .i64 y2, .int .i64 y3, .int .i64 y4, .int .i64 y5, .int .i64 y6, .int .i64 y7, .int .i64 y8, .int .i64 y9])).run Try.prog w = .ok (x0 == y0 && (x1 == y1 && (x2 == y2 && (x3 == y3 && (x4 == y4 && (x5 == y5 && (x6 == y6 && (x7 == y7 && (x8 == y8 && (x9 == y9)))))))))) w := by
  have h := Go.Proofs.Ytiodebjjbgcbhaa.ArrW.arr_eq (P := Try.prog) d 46 3 .i64 .i64 10 w [x0, x1, x2, x3, x4, x5, x6, x7, x8, x9] [y0, y1, y2, y3, y4, y5, y6, y7, y8, y9] rfl rfl Try.underlying46 Try.underlying3 Try.isAgg3 Try.sizeOf3
  rw [show ([x0, x1, x2, x3, x4, x5, x6, x7, x8, x9] == [y0, y1, y2, y3, y4, y5, y6, y7, y8, y9]) = (x0 == y0 && (x1 == y1 && (x2 == y2 && (x3 == y3 && (x4 == y4 && (x5 == y5 && (x6 == y6 && (x7 == y7 && (x8 == y8 && (x9 == y9)))))))))) from by simp only [List.cons_beq_cons, beq_self_eq_true, Bool.and_true]] at h
  exact h
end Go.Proofs.Ytiodebjjbgcbhaa.QRep
