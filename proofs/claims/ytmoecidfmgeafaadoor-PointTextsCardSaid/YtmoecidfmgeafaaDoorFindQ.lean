/- slices.IndexFunc and slices.ContainsFunc at elements of k cells, at a row wherever it lies, a nil one too: the place of the first of which the predicate holds. Turned from the library's own proof at a row at a plain address. -/
import Derived.Shelf.SlicesQ.IndexFunc
import Derived.Test.YtmoecidfmgeafaaDoorWWords
namespace Go.Proofs.YtmoecidfmgeafaaDoor.FindQ
open Go.Proofs Go.Shelf Go.RowKit Go.Lib Go.Proofs.YtmoecidfmgeafaaDoorW.PrintWords
variable {P : Program} {ρ : Ren} {α : Type}
end Go.Proofs.YtmoecidfmgeafaaDoor.FindQ
