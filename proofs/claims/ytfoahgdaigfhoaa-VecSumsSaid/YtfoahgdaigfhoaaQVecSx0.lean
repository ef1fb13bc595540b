/- Functions of the program as plain Lean functions, and that its calls come to what these tell: written by a program of this session; Lean checks it. -/
import Derived.Test.YtfoahgdaigfhoaaProg
import Derived.Below
import Derived.Deep.Draws
import Derived.Deep.AppendLies
import Derived.Maps.AppendAt
import Derived.OwnWalk
import Derived.Laws.BytesArg
import Derived.Laws.MakeOwn
import Derived.Laws.OwnMore
import Derived.Deep.OwnRows
import Derived.Tactics
import Derived.Lib.ConvBytes
import Derived.Laws.Slices
import Derived.WalkKit
import Derived.KernelRfl
import Derived.RowKit3
import Derived.Deep.LoopGhost
import Derived.Deep.QuietTactic
import Derived.BigQuiet
import Derived.WideLaws
import Derived.Deep.DeepCutAuto
import Derived.Deep.CutBlock
import Derived.Deep.RegionHeld3
import Derived.Laws.Rows
import Derived.Lib.AppendStr
import Derived.ArgAppend
import Derived.Laws.IdiomCopy
import Derived.OrdersHeld
import Derived.Laws.BitsLemmas
import Derived.RowKit
import Derived.Test.YtfoahgdaigfhoaaGoto
import Derived.Test.YtfoahgdaigfhoaaFltW
import Derived.Test.YtfoahgdaigfhoaaTrunc
import Derived.Test.YtfoahgdaigfhoaaWWords
import Derived.Test.YtfoahgdaigfhoaaWLast
import Derived.Test.YtfoahgdaigfhoaaWTab
import Derived.Test.YtfoahgdaigfhoaaWFour
import Derived.Test.YtfoahgdaigfhoaaWQPut
import Derived.Test.YtfoahgdaigfhoaaWApart
import Derived.Test.YtfoahgdaigfhoaaWArr
import Derived.Test.YtfoahgdaigfhoaaWZeros
import Derived.Test.YtfoahgdaigfhoaaWFoot
import Derived.Test.YtfoahgdaigfhoaaWKept
import Derived.Test.YtfoahgdaigfhoaaWShare
import Derived.Test.YtfoahgdaigfhoaaWN
import Derived.Test.YtfoahgdaigfhoaaWFootNe
import Derived.Test.YtfoahgdaigfhoaaWAt
import Derived.Test.YtfoahgdaigfhoaaWEqStruct
import Derived.Test.YtfoahgdaigfhoaaWRepsOne
import Derived.Test.YtfoahgdaigfhoaaWInv
import Derived.Test.YtfoahgdaigfhoaaWInvWords
import Derived.Test.YtfoahgdaigfhoaaWGuard
import Derived.Test.YtfoahgdaigfhoaaWNEv
import Derived.Test.YtfoahgdaigfhoaaWMore
namespace Go.Proofs.Ytfoahgdaigfhoaa.QVecS
open Go.RowKit Go.Proofs.Ytfoahgdaigfhoaa.Hand Go.Proofs.YtfoahgdaigfhoaaW.PrintWords Go.Proofs.YtfoahgdaigfhoaaW.PrintLast Go.Proofs.YtfoahgdaigfhoaaW.PrintMore
attribute [local go_sem] max2_int min2_int max_two min_two max_three min_three max_four min_four  run_fop run_feq run_fne run_flt run_fle run_fgt run_fge run_fint run_toi run_real' run_imag' run_complex' run_ceq run_cne run_cadd run_csub run_cmul
set_option linter.unusedVariables false
set_option linter.unusedSimpArgs false



def errW : Option Int → Value
  | none => .nilIface
  | some c => .iface 0 (.int .i64 c)
theorem errW_none : errW none = .nilIface := rfl
theorem errW_some (c : Int) : errW (some c) = .iface 0 (.int .i64 c) := rfl

theorem info37 : (Try.prog.info? 37).map (fun i => (i.zero, i.size, i.bytes)) = some (some (.complex .f64 0 0), 1, 16) := by kernel_rfl
-- the values' own types

end Go.Proofs.Ytfoahgdaigfhoaa.QVecS
