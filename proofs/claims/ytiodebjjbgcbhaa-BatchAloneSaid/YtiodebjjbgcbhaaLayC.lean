/- The library's Clone lies in this program under these numbers. -/
import Derived.Shelf.SlicesE.Clone
import Derived.Test.YtiodebjjbgcbhaaProg
namespace Go.Proofs.Ytiodebjjbgcbhaa.LayC
open Go.Shelf
def cloneInput_ren : Go.Shelf.Ren := ⟨fun | 41 => 52 | n => n, fun | 22 => 57 | 23 => 90 | 4 => 4 | n => n, fun | n => n⟩
theorem cloneInput : SlLaysE0.n41 Try.prog cloneInput_ren := {
 mixed := by kernel_rfl,
 f41 := ⟨Try.f52.name, by decide, Try.func52.trans (congrArg some (by kernel_rfl))⟩,
 t4 := Try.underlying4,
 a4 := Try.isAgg4,
 z4 := Try.sizeOf4,
 v4 := Try.zeroValue4,
 t22 := Try.underlying57,
 a22 := Try.isAgg57,
 z22 := Try.sizeOf57,
 v22 := Try.zeroValue57 }
end Go.Proofs.Ytiodebjjbgcbhaa.LayC
