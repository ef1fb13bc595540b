import Derived.Shelf.SlLaysH0
import Derived.Test.YtiodebjjbgcbhaaGreatProg
namespace Go.Proofs.YtiodebjjbgcbhaaGreat.LayI
open Go.Shelf
def indexInput_ren : Go.Shelf.Ren := ⟨fun | 6 => 73 | n => n, fun | 22 => 25 | 23 => 38 | 25 => 103 | 3 => 3 | 0 => 0 | 4 => 4 | n => n, fun | n => n⟩
theorem indexInput : SlLaysH0.n6 Tryz.prog indexInput_ren := {
 mixed := by kernel_rfl,
 f6 := ⟨Tryz.f73.name, by decide, Tryz.func73.trans (congrArg some (by kernel_rfl))⟩,
 t0 := Tryz.underlying0,
 a0 := Tryz.isAgg0,
 z0 := Tryz.sizeOf0,
 v0 := Tryz.zeroValue0,
 t3 := Tryz.underlying3,
 a3 := Tryz.isAgg3,
 z3 := Tryz.sizeOf3,
 v3 := Tryz.zeroValue3,
 t4 := Tryz.underlying4,
 a4 := Tryz.isAgg4,
 z4 := Tryz.sizeOf4,
 v4 := Tryz.zeroValue4,
 t22 := Tryz.underlying25,
 a22 := Tryz.isAgg25,
 z22 := Tryz.sizeOf25,
 v22 := Tryz.zeroValue25,
 t25 := Tryz.underlying103,
 a25 := Tryz.isAgg103,
 z25 := Tryz.sizeOf103,
 v25 := Tryz.zeroValue103 }
end Go.Proofs.YtiodebjjbgcbhaaGreat.LayI
