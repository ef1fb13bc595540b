/-
  No cell of these rows narrows 'for every input' (looked for: loops, veiled, ifaces, maps, wideKeys, modest, calm, conditions, laid).
  DERIVED. THE GIVEN ROWS OF THIS SEAT. 13 by the template 'for every input the law returns true; each argument reads behind the call as it read before'; 0 by the template 'total and deterministic' (their statements: YtfoahgdaigfhoaaTotals.lean).
  GIVEN WITH THE SEED: the statements are not yours to turn. If you find one false, say at which input.
  Laid BY PROGRAM, IN A SANDBOX (cutbox-rows.mjs): the forced cells as the released guide's own fill.sh prints them over the translation c961b3f0a3fe8e27… (all of the seat's roots in one cut). By AI agents, Wed Nov 11 2026. No macro, syntax, notation, axiom, sorry.
-/
import Derived.Test.YtfoahgdaigfhoaaChecked
import GoSem.Claim
import GoSem.ClaimJoined
import GoSem.ClaimMapViews
import Derived.JoinedTies
import Derived.KernelRfl
namespace Go.Proofs.Ytfoahgdaigfhoaa
/- THE CELL 'sum', in the pinned program and in every row, IS THE sha256 OF THE DUMP (.gsa) THAT YtfoahgdaigfhoaaProg.lean LOADS. Nothing in Lean hashes anything: it is a label: what it is worth is what the hold of that sum in a sandbox is worth. -/
noncomputable def Try.pinned : Pinned := { name := "ytfoahgdaigfhoaa", sum := "c961b3f0a3fe8e2701f40b3c980579026b389a23e2b8b8c8ad1ae3a88690849e", checked := Try.checked }
namespace Rows
def none {H : Type} : Left H := { results := [], args := [] }

/-- 'coraclelaw4.AmountSums': WHATEVER THE INPUT: true; the input reads as it did. -/
def amountSumsSpec : ChangeSpec := { name := "amountSums", fn := fun _ => fun
  | [d1, d2, d3] => { results := [.lit (.bool true)], args := [d1, d2, d3] }
  | _ => none }
def amountSumsRow : OpenClaim := { program := "ytfoahgdaigfhoaa", sum := "c961b3f0a3fe8e2701f40b3c980579026b389a23e2b8b8c8ad1ae3a88690849e", func := "coracle/coraclelaw4.AmountSums", spec := "amountSums", apart := false }
def AmountSumsSaid : Prop := amountSumsRow.holds Try.pinned (OpenSpec.ofChange amountSumsSpec)

/-- ITS FALSE NEIGHBOUR: 'it returns false'. Refute it at one input. -/
def amountSumsWrong : ChangeSpec := { name := "amountSums", fn := fun _ => fun
  | [d1, d2, d3] => { results := [.lit (.bool false)], args := [d1, d2, d3] }
  | _ => none }
def AmountSumsWrongFalsely : Prop := amountSumsRow.holds Try.pinned (OpenSpec.ofChange amountSumsWrong)

/-- 'coraclelaw4.AmountUndo': WHATEVER THE INPUT: true; the input reads as it did. -/
def amountUndoSpec : ChangeSpec := { name := "amountUndo", fn := fun _ => fun
  | [d1, d2, d3, d4] => { results := [.lit (.bool true)], args := [d1, d2, d3, d4] }
  | _ => none }
def amountUndoRow : OpenClaim := { program := "ytfoahgdaigfhoaa", sum := "c961b3f0a3fe8e2701f40b3c980579026b389a23e2b8b8c8ad1ae3a88690849e", func := "coracle/coraclelaw4.AmountUndo", spec := "amountUndo", apart := false }
def AmountUndoSaid : Prop := amountUndoRow.holds Try.pinned (OpenSpec.ofChange amountUndoSpec)

/-- ITS FALSE NEIGHBOUR: 'it returns false'. Refute it at one input. -/
def amountUndoWrong : ChangeSpec := { name := "amountUndo", fn := fun _ => fun
  | [d1, d2, d3, d4] => { results := [.lit (.bool false)], args := [d1, d2, d3, d4] }
  | _ => none }
def AmountUndoWrongFalsely : Prop := amountUndoRow.holds Try.pinned (OpenSpec.ofChange amountUndoWrong)

/-- 'coraclelaw4.AmountFees': WHATEVER THE INPUT: true; the input reads as it did. -/
def amountFeesSpec : ChangeSpec := { name := "amountFees", fn := fun _ => fun
  | [d1, d2, d3] => { results := [.lit (.bool true)], args := [d1, d2, d3] }
  | _ => none }
def amountFeesRow : OpenClaim := { program := "ytfoahgdaigfhoaa", sum := "c961b3f0a3fe8e2701f40b3c980579026b389a23e2b8b8c8ad1ae3a88690849e", func := "coracle/coraclelaw4.AmountFees", spec := "amountFees", apart := false }
def AmountFeesSaid : Prop := amountFeesRow.holds Try.pinned (OpenSpec.ofChange amountFeesSpec)

/-- ITS FALSE NEIGHBOUR: 'it returns false'. Refute it at one input. -/
def amountFeesWrong : ChangeSpec := { name := "amountFees", fn := fun _ => fun
  | [d1, d2, d3] => { results := [.lit (.bool false)], args := [d1, d2, d3] }
  | _ => none }
def AmountFeesWrongFalsely : Prop := amountFeesRow.holds Try.pinned (OpenSpec.ofChange amountFeesWrong)

/-- 'coraclelaw4.AmountBack': WHATEVER THE INPUT: true; the input reads as it did. -/
def amountBackSpec : ChangeSpec := { name := "amountBack", fn := fun _ => fun
  | [d1, d2] => { results := [.lit (.bool true)], args := [d1, d2] }
  | _ => none }
def amountBackRow : OpenClaim := { program := "ytfoahgdaigfhoaa", sum := "c961b3f0a3fe8e2701f40b3c980579026b389a23e2b8b8c8ad1ae3a88690849e", func := "coracle/coraclelaw4.AmountBack", spec := "amountBack", apart := false }
def AmountBackSaid : Prop := amountBackRow.holds Try.pinned (OpenSpec.ofChange amountBackSpec)

/-- ITS FALSE NEIGHBOUR: 'it returns false'. Refute it at one input. -/
def amountBackWrong : ChangeSpec := { name := "amountBack", fn := fun _ => fun
  | [d1, d2] => { results := [.lit (.bool false)], args := [d1, d2] }
  | _ => none }
def AmountBackWrongFalsely : Prop := amountBackRow.holds Try.pinned (OpenSpec.ofChange amountBackWrong)

/-- 'coraclelaw15.VecSums': WHATEVER THE INPUT: true; the input reads as it did. -/
def vecSumsSpec : ChangeSpec := { name := "vecSums", fn := fun _ => fun
  | [d1, d2, d3] => { results := [.lit (.bool true)], args := [d1, d2, d3] }
  | _ => none }
def vecSumsRow : OpenClaim := { program := "ytfoahgdaigfhoaa", sum := "c961b3f0a3fe8e2701f40b3c980579026b389a23e2b8b8c8ad1ae3a88690849e", func := "coracle/coraclelaw15.VecSums", spec := "vecSums", inPlace := ["math.archTrunc", "math.Float64bits", "math.Float64frombits"], apart := false }
def VecSumsSaid : Prop := vecSumsRow.holds Try.pinned (OpenSpec.ofChange vecSumsSpec)

/-- ITS FALSE NEIGHBOUR: 'it returns false'. Refute it at one input. -/
def vecSumsWrong : ChangeSpec := { name := "vecSums", fn := fun _ => fun
  | [d1, d2, d3] => { results := [.lit (.bool false)], args := [d1, d2, d3] }
  | _ => none }
def VecSumsWrongFalsely : Prop := vecSumsRow.holds Try.pinned (OpenSpec.ofChange vecSumsWrong)

/-- 'coraclelaw15.VecAsks': WHATEVER THE INPUT: true; the input reads as it did. -/
def vecAsksSpec : ChangeSpec := { name := "vecAsks", fn := fun _ => fun
  | [d1, d2, d3, d4, d5] => { results := [.lit (.bool true)], args := [d1, d2, d3, d4, d5] }
  | _ => none }
def vecAsksRow : OpenClaim := { program := "ytfoahgdaigfhoaa", sum := "c961b3f0a3fe8e2701f40b3c980579026b389a23e2b8b8c8ad1ae3a88690849e", func := "coracle/coraclelaw15.VecAsks", spec := "vecAsks", inPlace := ["math.archTrunc", "math.Float64bits", "math.Float64frombits"], apart := false }
def VecAsksSaid : Prop := vecAsksRow.holds Try.pinned (OpenSpec.ofChange vecAsksSpec)

/-- ITS FALSE NEIGHBOUR: 'it returns false'. Refute it at one input. -/
def vecAsksWrong : ChangeSpec := { name := "vecAsks", fn := fun _ => fun
  | [d1, d2, d3, d4, d5] => { results := [.lit (.bool false)], args := [d1, d2, d3, d4, d5] }
  | _ => none }
def VecAsksWrongFalsely : Prop := vecAsksRow.holds Try.pinned (OpenSpec.ofChange vecAsksWrong)

/-- 'coraclelaw15.VecOdd': WHATEVER THE INPUT: true; the input reads as it did. -/
def vecOddSpec : ChangeSpec := { name := "vecOdd", fn := fun _ => fun
  | [d1, d2] => { results := [.lit (.bool true)], args := [d1, d2] }
  | _ => none }
def vecOddRow : OpenClaim := { program := "ytfoahgdaigfhoaa", sum := "c961b3f0a3fe8e2701f40b3c980579026b389a23e2b8b8c8ad1ae3a88690849e", func := "coracle/coraclelaw15.VecOdd", spec := "vecOdd", inPlace := ["math.archTrunc", "math.Float64bits", "math.Float64frombits"], apart := false }
def VecOddSaid : Prop := vecOddRow.holds Try.pinned (OpenSpec.ofChange vecOddSpec)

/-- ITS FALSE NEIGHBOUR: 'it returns false'. Refute it at one input. -/
def vecOddWrong : ChangeSpec := { name := "vecOdd", fn := fun _ => fun
  | [d1, d2] => { results := [.lit (.bool false)], args := [d1, d2] }
  | _ => none }
def VecOddWrongFalsely : Prop := vecOddRow.holds Try.pinned (OpenSpec.ofChange vecOddWrong)

/-- 'coraclelaw15.VecScales': WHATEVER THE INPUT: true; the input reads as it did. -/
def vecScalesSpec : ChangeSpec := { name := "vecScales", fn := fun _ => fun
  | [d1, d2, d3, d4, d5] => { results := [.lit (.bool true)], args := [d1, d2, d3, d4, d5] }
  | _ => none }
def vecScalesRow : OpenClaim := { program := "ytfoahgdaigfhoaa", sum := "c961b3f0a3fe8e2701f40b3c980579026b389a23e2b8b8c8ad1ae3a88690849e", func := "coracle/coraclelaw15.VecScales", spec := "vecScales", inPlace := ["math.archTrunc", "math.Float64bits", "math.Float64frombits"], apart := false }
def VecScalesSaid : Prop := vecScalesRow.holds Try.pinned (OpenSpec.ofChange vecScalesSpec)

/-- ITS FALSE NEIGHBOUR: 'it returns false'. Refute it at one input. -/
def vecScalesWrong : ChangeSpec := { name := "vecScales", fn := fun _ => fun
  | [d1, d2, d3, d4, d5] => { results := [.lit (.bool false)], args := [d1, d2, d3, d4, d5] }
  | _ => none }
def VecScalesWrongFalsely : Prop := vecScalesRow.holds Try.pinned (OpenSpec.ofChange vecScalesWrong)

/-- 'coraclelaw16.CurveLines': WHATEVER THE INPUT: true; the input reads as it did. -/
def curveLinesSpec : ChangeSpec := { name := "curveLines", fn := fun _ => fun
  | [d1, d2, d3, d4, d5, d6] => { results := [.lit (.bool true)], args := [d1, d2, d3, d4, d5, d6] }
  | _ => none }
def curveLinesRow : OpenClaim := { program := "ytfoahgdaigfhoaa", sum := "c961b3f0a3fe8e2701f40b3c980579026b389a23e2b8b8c8ad1ae3a88690849e", func := "coracle/coraclelaw16.CurveLines", spec := "curveLines", inPlace := ["math.archTrunc", "math.Float64bits", "math.Float64frombits"], unfollowed := true, recurses := true, named := ["math/bits.divideError", "math/bits.overflowError"], apart := false }
def CurveLinesSaid : Prop := curveLinesRow.holds Try.pinned (OpenSpec.ofChange curveLinesSpec)

/-- ITS FALSE NEIGHBOUR: 'it returns false'. Refute it at one input. -/
def curveLinesWrong : ChangeSpec := { name := "curveLines", fn := fun _ => fun
  | [d1, d2, d3, d4, d5, d6] => { results := [.lit (.bool false)], args := [d1, d2, d3, d4, d5, d6] }
  | _ => none }
def CurveLinesWrongFalsely : Prop := curveLinesRow.holds Try.pinned (OpenSpec.ofChange curveLinesWrong)

/-- 'coraclelaw16.CurveRises': WHATEVER THE INPUT: true; the input reads as it did. -/
def curveRisesSpec : ChangeSpec := { name := "curveRises", fn := fun _ => fun
  | [d1, d2, d3, d4, d5, d6] => { results := [.lit (.bool true)], args := [d1, d2, d3, d4, d5, d6] }
  | _ => none }
def curveRisesRow : OpenClaim := { program := "ytfoahgdaigfhoaa", sum := "c961b3f0a3fe8e2701f40b3c980579026b389a23e2b8b8c8ad1ae3a88690849e", func := "coracle/coraclelaw16.CurveRises", spec := "curveRises", inPlace := ["math.archTrunc", "math.Float64bits", "math.Float64frombits"], unfollowed := true, recurses := true, named := ["math/bits.divideError", "math/bits.overflowError"], apart := false }
def CurveRisesSaid : Prop := curveRisesRow.holds Try.pinned (OpenSpec.ofChange curveRisesSpec)

/-- ITS FALSE NEIGHBOUR: 'it returns false'. Refute it at one input. -/
def curveRisesWrong : ChangeSpec := { name := "curveRises", fn := fun _ => fun
  | [d1, d2, d3, d4, d5, d6] => { results := [.lit (.bool false)], args := [d1, d2, d3, d4, d5, d6] }
  | _ => none }
def CurveRisesWrongFalsely : Prop := curveRisesRow.holds Try.pinned (OpenSpec.ofChange curveRisesWrong)

/-- 'coraclelaw16.CurveEnds': WHATEVER THE INPUT: true; the input reads as it did. -/
def curveEndsSpec : ChangeSpec := { name := "curveEnds", fn := fun _ => fun
  | [d1, d2, d3, d4, d5] => { results := [.lit (.bool true)], args := [d1, d2, d3, d4, d5] }
  | _ => none }
def curveEndsRow : OpenClaim := { program := "ytfoahgdaigfhoaa", sum := "c961b3f0a3fe8e2701f40b3c980579026b389a23e2b8b8c8ad1ae3a88690849e", func := "coracle/coraclelaw16.CurveEnds", spec := "curveEnds", inPlace := ["math.archTrunc", "math.Float64bits", "math.Float64frombits"], unfollowed := true, recurses := true, named := ["math/bits.divideError", "math/bits.overflowError"], apart := false }
def CurveEndsSaid : Prop := curveEndsRow.holds Try.pinned (OpenSpec.ofChange curveEndsSpec)

/-- ITS FALSE NEIGHBOUR: 'it returns false'. Refute it at one input. -/
def curveEndsWrong : ChangeSpec := { name := "curveEnds", fn := fun _ => fun
  | [d1, d2, d3, d4, d5] => { results := [.lit (.bool false)], args := [d1, d2, d3, d4, d5] }
  | _ => none }
def CurveEndsWrongFalsely : Prop := curveEndsRow.holds Try.pinned (OpenSpec.ofChange curveEndsWrong)

/-- 'coraclelaw16.CurveSteps': WHATEVER THE INPUT: true; the input reads as it did. -/
def curveStepsSpec : ChangeSpec := { name := "curveSteps", fn := fun _ => fun
  | [d1, d2, d3, d4, d5] => { results := [.lit (.bool true)], args := [d1, d2, d3, d4, d5] }
  | _ => none }
def curveStepsRow : OpenClaim := { program := "ytfoahgdaigfhoaa", sum := "c961b3f0a3fe8e2701f40b3c980579026b389a23e2b8b8c8ad1ae3a88690849e", func := "coracle/coraclelaw16.CurveSteps", spec := "curveSteps", inPlace := ["math.archTrunc", "math.Float64bits", "math.Float64frombits"], unfollowed := true, recurses := true, named := ["math/bits.divideError", "math/bits.overflowError"], apart := false }
def CurveStepsSaid : Prop := curveStepsRow.holds Try.pinned (OpenSpec.ofChange curveStepsSpec)

/-- ITS FALSE NEIGHBOUR: 'it returns false'. Refute it at one input. -/
def curveStepsWrong : ChangeSpec := { name := "curveSteps", fn := fun _ => fun
  | [d1, d2, d3, d4, d5] => { results := [.lit (.bool false)], args := [d1, d2, d3, d4, d5] }
  | _ => none }
def CurveStepsWrongFalsely : Prop := curveStepsRow.holds Try.pinned (OpenSpec.ofChange curveStepsWrong)

/-- 'coraclelaw16.CurveBudgets': WHATEVER THE INPUT: true; the input reads as it did. -/
def curveBudgetsSpec : ChangeSpec := { name := "curveBudgets", fn := fun _ => fun
  | [d1, d2, d3, d4, d5] => { results := [.lit (.bool true)], args := [d1, d2, d3, d4, d5] }
  | _ => none }
def curveBudgetsRow : OpenClaim := { program := "ytfoahgdaigfhoaa", sum := "c961b3f0a3fe8e2701f40b3c980579026b389a23e2b8b8c8ad1ae3a88690849e", func := "coracle/coraclelaw16.CurveBudgets", spec := "curveBudgets", inPlace := ["math.archTrunc", "math.Float64bits", "math.Float64frombits"], unfollowed := true, recurses := true, named := ["math/bits.divideError", "math/bits.overflowError"], apart := false }
def CurveBudgetsSaid : Prop := curveBudgetsRow.holds Try.pinned (OpenSpec.ofChange curveBudgetsSpec)

/-- ITS FALSE NEIGHBOUR: 'it returns false'. Refute it at one input. -/
def curveBudgetsWrong : ChangeSpec := { name := "curveBudgets", fn := fun _ => fun
  | [d1, d2, d3, d4, d5] => { results := [.lit (.bool false)], args := [d1, d2, d3, d4, d5] }
  | _ => none }
def CurveBudgetsWrongFalsely : Prop := curveBudgetsRow.holds Try.pinned (OpenSpec.ofChange curveBudgetsWrong)

/- THE SECOND FORM. 'bulk': how many values and letters a reading holds, each counted each time it is reached (what is shared counts as often as it is met; a slice's spare places count too). A statement '..UptoSaid' is the law's where the arguments, and the package variables that the reading takes, are together of bulk at most 1048576: NARROWER than '..Said'. Prove '..Said' where nothing that the law and all that it calls make is longer than what came in: it says more and counts as full. Else prove '..UptoSaid'. A law counts once. -/
mutual
def uptoBulk {H : Type} : DataW H → Nat
  | .lit (.string bytes) => bytes.length + 1
  | .lit _ => 1
  | .nil => 1
  | .ptr d => uptoBulk d + 1
  | .slice elems spare => uptoBulkAll elems + uptoBulkAll spare + 1
  | .agg parts => uptoBulkAll parts + 1
  | .iface _ d => uptoBulk d + 1
  | .map entries => uptoBulkEntries entries + 1
  | .held _ => 1
def uptoBulkAll {H : Type} : List (DataW H) → Nat
  | [] => 0
  | d :: r => uptoBulk d + uptoBulkAll r
def uptoBulkEntries {H : Type} : List (Lit × DataW H) → Nat
  | [] => 0
  | x :: r => uptoBulkEntry x + uptoBulkEntries r
def uptoBulkEntry {H : Type} : Lit × DataW H → Nat
  | (.string bytes, d) => bytes.length + uptoBulk d + 1
  | (_, d) => uptoBulk d + 1
 end
def uptoSmall : (H : Type) → List (DataW H) → Bool := fun _ ds => decide (uptoBulkAll ds ≤ 1048576)
def OpenSpec.upto (s : _root_.Go.ChangeSpec) : _root_.Go.OpenSpec := { _root_.Go.OpenSpec.ofChange s with cond := some uptoSmall }

/-- 'coraclelaw4.AmountSums', WHERE WHAT IT READS IS OF BULK AT MOST 1048576: true; the input reads as it did. -/
def amountSumsUptoRow : OpenClaim := { program := "ytfoahgdaigfhoaa", sum := "c961b3f0a3fe8e2701f40b3c980579026b389a23e2b8b8c8ad1ae3a88690849e", func := "coracle/coraclelaw4.AmountSums", spec := "amountSums", apart := false, narrowed := true }
def AmountSumsUptoSaid : Prop := amountSumsUptoRow.holds Try.pinned (OpenSpec.upto amountSumsSpec)

/-- 'coraclelaw4.AmountUndo', WHERE WHAT IT READS IS OF BULK AT MOST 1048576: true; the input reads as it did. -/
def amountUndoUptoRow : OpenClaim := { program := "ytfoahgdaigfhoaa", sum := "c961b3f0a3fe8e2701f40b3c980579026b389a23e2b8b8c8ad1ae3a88690849e", func := "coracle/coraclelaw4.AmountUndo", spec := "amountUndo", apart := false, narrowed := true }
def AmountUndoUptoSaid : Prop := amountUndoUptoRow.holds Try.pinned (OpenSpec.upto amountUndoSpec)

/-- 'coraclelaw4.AmountFees', WHERE WHAT IT READS IS OF BULK AT MOST 1048576: true; the input reads as it did. -/
def amountFeesUptoRow : OpenClaim := { program := "ytfoahgdaigfhoaa", sum := "c961b3f0a3fe8e2701f40b3c980579026b389a23e2b8b8c8ad1ae3a88690849e", func := "coracle/coraclelaw4.AmountFees", spec := "amountFees", apart := false, narrowed := true }
def AmountFeesUptoSaid : Prop := amountFeesUptoRow.holds Try.pinned (OpenSpec.upto amountFeesSpec)

/-- 'coraclelaw4.AmountBack', WHERE WHAT IT READS IS OF BULK AT MOST 1048576: true; the input reads as it did. -/
def amountBackUptoRow : OpenClaim := { program := "ytfoahgdaigfhoaa", sum := "c961b3f0a3fe8e2701f40b3c980579026b389a23e2b8b8c8ad1ae3a88690849e", func := "coracle/coraclelaw4.AmountBack", spec := "amountBack", apart := false, narrowed := true }
def AmountBackUptoSaid : Prop := amountBackUptoRow.holds Try.pinned (OpenSpec.upto amountBackSpec)

/-- 'coraclelaw15.VecSums', WHERE WHAT IT READS IS OF BULK AT MOST 1048576: true; the input reads as it did. -/
def vecSumsUptoRow : OpenClaim := { program := "ytfoahgdaigfhoaa", sum := "c961b3f0a3fe8e2701f40b3c980579026b389a23e2b8b8c8ad1ae3a88690849e", func := "coracle/coraclelaw15.VecSums", spec := "vecSums", inPlace := ["math.archTrunc", "math.Float64bits", "math.Float64frombits"], apart := false, narrowed := true }
def VecSumsUptoSaid : Prop := vecSumsUptoRow.holds Try.pinned (OpenSpec.upto vecSumsSpec)

/-- 'coraclelaw15.VecAsks', WHERE WHAT IT READS IS OF BULK AT MOST 1048576: true; the input reads as it did. -/
def vecAsksUptoRow : OpenClaim := { program := "ytfoahgdaigfhoaa", sum := "c961b3f0a3fe8e2701f40b3c980579026b389a23e2b8b8c8ad1ae3a88690849e", func := "coracle/coraclelaw15.VecAsks", spec := "vecAsks", inPlace := ["math.archTrunc", "math.Float64bits", "math.Float64frombits"], apart := false, narrowed := true }
def VecAsksUptoSaid : Prop := vecAsksUptoRow.holds Try.pinned (OpenSpec.upto vecAsksSpec)

/-- 'coraclelaw15.VecOdd', WHERE WHAT IT READS IS OF BULK AT MOST 1048576: true; the input reads as it did. -/
def vecOddUptoRow : OpenClaim := { program := "ytfoahgdaigfhoaa", sum := "c961b3f0a3fe8e2701f40b3c980579026b389a23e2b8b8c8ad1ae3a88690849e", func := "coracle/coraclelaw15.VecOdd", spec := "vecOdd", inPlace := ["math.archTrunc", "math.Float64bits", "math.Float64frombits"], apart := false, narrowed := true }
def VecOddUptoSaid : Prop := vecOddUptoRow.holds Try.pinned (OpenSpec.upto vecOddSpec)

/-- 'coraclelaw15.VecScales', WHERE WHAT IT READS IS OF BULK AT MOST 1048576: true; the input reads as it did. -/
def vecScalesUptoRow : OpenClaim := { program := "ytfoahgdaigfhoaa", sum := "c961b3f0a3fe8e2701f40b3c980579026b389a23e2b8b8c8ad1ae3a88690849e", func := "coracle/coraclelaw15.VecScales", spec := "vecScales", inPlace := ["math.archTrunc", "math.Float64bits", "math.Float64frombits"], apart := false, narrowed := true }
def VecScalesUptoSaid : Prop := vecScalesUptoRow.holds Try.pinned (OpenSpec.upto vecScalesSpec)

/-- 'coraclelaw16.CurveLines', WHERE WHAT IT READS IS OF BULK AT MOST 1048576: true; the input reads as it did. -/
def curveLinesUptoRow : OpenClaim := { program := "ytfoahgdaigfhoaa", sum := "c961b3f0a3fe8e2701f40b3c980579026b389a23e2b8b8c8ad1ae3a88690849e", func := "coracle/coraclelaw16.CurveLines", spec := "curveLines", inPlace := ["math.archTrunc", "math.Float64bits", "math.Float64frombits"], unfollowed := true, recurses := true, named := ["math/bits.divideError", "math/bits.overflowError"], apart := false, narrowed := true }
def CurveLinesUptoSaid : Prop := curveLinesUptoRow.holds Try.pinned (OpenSpec.upto curveLinesSpec)

/-- 'coraclelaw16.CurveRises', WHERE WHAT IT READS IS OF BULK AT MOST 1048576: true; the input reads as it did. -/
def curveRisesUptoRow : OpenClaim := { program := "ytfoahgdaigfhoaa", sum := "c961b3f0a3fe8e2701f40b3c980579026b389a23e2b8b8c8ad1ae3a88690849e", func := "coracle/coraclelaw16.CurveRises", spec := "curveRises", inPlace := ["math.archTrunc", "math.Float64bits", "math.Float64frombits"], unfollowed := true, recurses := true, named := ["math/bits.divideError", "math/bits.overflowError"], apart := false, narrowed := true }
def CurveRisesUptoSaid : Prop := curveRisesUptoRow.holds Try.pinned (OpenSpec.upto curveRisesSpec)

/-- 'coraclelaw16.CurveEnds', WHERE WHAT IT READS IS OF BULK AT MOST 1048576: true; the input reads as it did. -/
def curveEndsUptoRow : OpenClaim := { program := "ytfoahgdaigfhoaa", sum := "c961b3f0a3fe8e2701f40b3c980579026b389a23e2b8b8c8ad1ae3a88690849e", func := "coracle/coraclelaw16.CurveEnds", spec := "curveEnds", inPlace := ["math.archTrunc", "math.Float64bits", "math.Float64frombits"], unfollowed := true, recurses := true, named := ["math/bits.divideError", "math/bits.overflowError"], apart := false, narrowed := true }
def CurveEndsUptoSaid : Prop := curveEndsUptoRow.holds Try.pinned (OpenSpec.upto curveEndsSpec)

/-- 'coraclelaw16.CurveSteps', WHERE WHAT IT READS IS OF BULK AT MOST 1048576: true; the input reads as it did. -/
def curveStepsUptoRow : OpenClaim := { program := "ytfoahgdaigfhoaa", sum := "c961b3f0a3fe8e2701f40b3c980579026b389a23e2b8b8c8ad1ae3a88690849e", func := "coracle/coraclelaw16.CurveSteps", spec := "curveSteps", inPlace := ["math.archTrunc", "math.Float64bits", "math.Float64frombits"], unfollowed := true, recurses := true, named := ["math/bits.divideError", "math/bits.overflowError"], apart := false, narrowed := true }
def CurveStepsUptoSaid : Prop := curveStepsUptoRow.holds Try.pinned (OpenSpec.upto curveStepsSpec)

/-- 'coraclelaw16.CurveBudgets', WHERE WHAT IT READS IS OF BULK AT MOST 1048576: true; the input reads as it did. -/
def curveBudgetsUptoRow : OpenClaim := { program := "ytfoahgdaigfhoaa", sum := "c961b3f0a3fe8e2701f40b3c980579026b389a23e2b8b8c8ad1ae3a88690849e", func := "coracle/coraclelaw16.CurveBudgets", spec := "curveBudgets", inPlace := ["math.archTrunc", "math.Float64bits", "math.Float64frombits"], unfollowed := true, recurses := true, named := ["math/bits.divideError", "math/bits.overflowError"], apart := false, narrowed := true }
def CurveBudgetsUptoSaid : Prop := curveBudgetsUptoRow.holds Try.pinned (OpenSpec.upto curveBudgetsSpec)

end Rows
end Go.Proofs.Ytfoahgdaigfhoaa
