import Derived.Shelf.SlicesE.Clone
import Derived.Test.YtiodebjjbgcbhaaGreatProg
namespace Go.Proofs.YtiodebjjbgcbhaaGreat.LayC
open Go.Shelf
def cloneInput_ren : Go.Shelf.Ren := ⟨fun | 41 => 44 | n => n, fun | 22 => 25 | 23 => 38 | 4 => 4 | n => n, fun | n => n⟩
theorem cloneInput : SlLaysE0.n41 Tryz.prog cloneInput_ren := {
 mixed := by kernel_rfl,
 f41 := ⟨Tryz.f44.name, by decide, Tryz.func44.trans (congrArg some (by kernel_rfl))⟩,
 t4 := Tryz.underlying4,
 a4 := Tryz.isAgg4,
 z4 := Tryz.sizeOf4,
 v4 := Tryz.zeroValue4,
 t22 := Tryz.underlying25,
 a22 := Tryz.isAgg25,
 z22 := Tryz.sizeOf25,
 v22 := Tryz.zeroValue25 }
end Go.Proofs.YtiodebjjbgcbhaaGreat.LayC
