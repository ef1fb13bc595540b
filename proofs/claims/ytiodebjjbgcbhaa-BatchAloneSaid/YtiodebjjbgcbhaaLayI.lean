/- The library's search lies in this program under these numbers. -/
import Derived.Shelf.SlLaysH0
import Derived.Test.YtiodebjjbgcbhaaProg
namespace Go.Proofs.Ytiodebjjbgcbhaa.LayD
open Go.Shelf
end Go.Proofs.Ytiodebjjbgcbhaa.LayD
/- The library's search lies in this program under these numbers. -/
namespace Go.Proofs.Ytiodebjjbgcbhaa.LayI
open Go.Shelf
def indexInput_ren : Go.Shelf.Ren := ⟨fun | 6 => 74 | n => n, fun | 22 => 57 | 23 => 90 | 25 => 107 | 3 => 3 | 0 => 0 | 4 => 4 | n => n, fun | n => n⟩
theorem indexInput : SlLaysH0.n6 Try.prog indexInput_ren := {
 mixed := by kernel_rfl,
 f6 := ⟨Try.f74.name, by decide, Try.func74.trans (congrArg some (by kernel_rfl))⟩,
 t0 := Try.underlying0,
 a0 := Try.isAgg0,
 z0 := Try.sizeOf0,
 v0 := Try.zeroValue0,
 t3 := Try.underlying3,
 a3 := Try.isAgg3,
 z3 := Try.sizeOf3,
 v3 := Try.zeroValue3,
 t4 := Try.underlying4,
 a4 := Try.isAgg4,
 z4 := Try.sizeOf4,
 v4 := Try.zeroValue4,
 t22 := Try.underlying57,
 a22 := Try.isAgg57,
 z22 := Try.sizeOf57,
 v22 := Try.zeroValue57,
 t25 := Try.underlying107,
 a25 := Try.isAgg107,
 z25 := Try.sizeOf107,
 v25 := Try.zeroValue107 }
end Go.Proofs.Ytiodebjjbgcbhaa.LayI
