/- Functions of the program as plain Lean functions, and that its calls come to what these tell: written by a program of this session; Lean checks it. -/
import Derived.Test.YtfoahgdaigfhoaaQCurx0
namespace Go.Proofs.Ytfoahgdaigfhoaa.QCur
open Go.RowKit Go.Proofs.Ytfoahgdaigfhoaa.Hand Go.Proofs.YtfoahgdaigfhoaaW.PrintWords Go.Proofs.YtfoahgdaigfhoaaW.PrintLast Go.Proofs.YtfoahgdaigfhoaaW.PrintMore
attribute [local go_sem] max2_int min2_int max_two min_two max_three min_three max_four min_four run_equalIn_c run_store_float run_store_complex run_fop run_feq run_fne run_flt run_fle run_fgt run_fge run_fint run_toi run_real' run_imag' run_complex' run_ceq run_cne run_cadd run_csub run_cmul
set_option linter.unusedVariables false
set_option linter.unusedSimpArgs false

theorem eqA51 (d : Nat) (w : World) (x0r x0i y0r y0i : Nat) (x1r x1i y1r y1i : Nat) :
    (Op.equalIn (d + 2) 51 (.agg #[.complex .f64 x0r x0i, .complex .f64 x1r x1i]) (.agg #[.complex .f64 y0r y0i, .complex .f64 y1r y1i])).run Try.prog w = .ok (ceq x0r x0i y0r y0i && (ceq x1r x1i y1r y1i)) w := by
  refine eqA_of Try.underlying51 (by kernel_rfl) ?_
  refine eqf_cons (by rfl) (by go_simp; rfl) (by go_simp; rfl) (by go_simp) ?_
  exact eqf_last (by rfl) (by go_simp; rfl) (by go_simp; rfl) (by go_simp)
end Go.Proofs.Ytfoahgdaigfhoaa.QCur
