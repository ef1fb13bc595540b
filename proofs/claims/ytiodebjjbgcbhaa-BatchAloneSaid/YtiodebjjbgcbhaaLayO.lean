/- The library's sort lies in this program under these numbers. -/
import Derived.Shelf.SlLaysF0
import Derived.Test.YtiodebjjbgcbhaaProg
namespace Go.Proofs.Ytiodebjjbgcbhaa.LayO
open Go.Shelf
end Go.Proofs.Ytiodebjjbgcbhaa.LayO
