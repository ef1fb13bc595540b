/- The library's search lies in this program under these numbers. -/
import Derived.Shelf.SlLaysH0
import Derived.Test.YtiodebjjbgcbhaaProg
namespace Go.Proofs.Ytiodebjjbgcbhaa.LayD
open Go.Shelf
def indexBatch_ren : Go.Shelf.Ren := ⟨fun | 6 => 62 | n => n, fun | 22 => 24 | 23 => 39 | 25 => 83 | 3 => 3 | 0 => 0 | 4 => 4 | n => n, fun | n => n⟩
theorem indexBatch : SlLaysH0.n6 Try.prog indexBatch_ren := {
  mixed := by kernel_rfl,
  f6 := ⟨Try.f62.name, by decide, Try.func62.trans (congrArg some (by kernel_rfl))⟩,
  t0 := Try.underlying0,
  a0 := Try.isAgg0,
  z0 := Try.sizeOf0,
  v0 := Try.zeroValue0,
  t3 := Try.underlying3,
  a3 := Try.isAgg3,
  z3 := Try.sizeOf3,
  v3 := Try.zeroValue3,
  t4 := Try.underlying4,
  a4 := Try.isAgg4,
  z4 := Try.sizeOf4,
  v4 := Try.zeroValue4,
  t22 := Try.underlying24,
  a22 := Try.isAgg24,
  z22 := Try.sizeOf24,
  v22 := Try.zeroValue24,
  t25 := Try.underlying83,
  a25 := Try.isAgg83,
  z25 := Try.sizeOf83,
  v25 := Try.zeroValue83 }
end Go.Proofs.Ytiodebjjbgcbhaa.LayD
