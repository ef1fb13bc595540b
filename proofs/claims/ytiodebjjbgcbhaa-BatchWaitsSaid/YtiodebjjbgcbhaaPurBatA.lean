/- What the law's own made and one tell, in letters. -/
import Derived.KernelRfl
import Derived.Test.YtiodebjjbgcbhaaInpT
namespace Go.Proofs.Ytiodebjjbgcbhaa.Inp
open Go.RowKit Go.Sort Go.Lib Go.Shelf Go.Proofs.Ytiodebjjbgcbhaa Go.Proofs.Ytiodebjjbgcbhaa.Hand Go.Proofs.YtiodebjjbgcbhaaW.PrintWords Go.Proofs.YtiodebjjbgcbhaaW.PrintLast Go.Proofs.YtiodebjjbgcbhaaW.PrintMore Go.Proofs.Ytiodebjjbgcbhaa.RowK Go.Proofs.Ytiodebjjbgcbhaa.Fill Go.Proofs.Ytiodebjjbgcbhaa.OrdO Go.Proofs.Ytiodebjjbgcbhaa.QLef Go.Proofs.Ytiodebjjbgcbhaa.LefL
attribute [local go_sem ↓ high] Wide.hv44 Wide.hv33 Wide.hv37
set_option linter.unusedVariables false
set_option linter.unusedSectionVars false
set_option linter.unusedSimpArgs false
variable {α : Type}
def J68 : Spec S68 where
 bs x := [x.f0.f0.f0, x.f0.f0.f1, x.f0.f0.f2, x.f0.f0.f3, x.f0.f0.f4, x.f0.f0.f5, x.f0.f0.f6, x.f0.f0.f7, x.f0.f0.f8, x.f0.f0.f9, x.f0.f0.f10, x.f0.f0.f11, x.f0.f0.f12, x.f0.f0.f13, x.f0.f0.f14, x.f0.f0.f15, x.f0.f0.f16, x.f0.f0.f17, x.f0.f0.f18, x.f0.f0.f19, x.f0.f0.f20, x.f0.f0.f21, x.f0.f0.f22, x.f0.f0.f23, x.f0.f0.f24, x.f0.f0.f25, x.f0.f0.f26, x.f0.f0.f27, x.f0.f0.f28, x.f0.f0.f29, x.f0.f0.f30, x.f0.f0.f31]
 nn x := x.f0.f1
 value x := x.f1
 kind x := x.f2.f0.f0
 key x := x.f2.f0.f1
 pre x := x.f2.f0.f2
 seq x := x.f2.f1
 lock x := x.f2.f2
 wait x := x.f2.f3
 conf x := x.f3
 since x := x.f4
 dl x := x.f5
 budget x := x.f6
 hbs _ := rfl
def to90 (x : S68) : S90 := ⟨x.f0, x.f1, ⟨x.f2.f0, x.f2.f1, x.f2.f2, x.f2.f3⟩, x.f3, x.f4, x.f5, x.f6⟩
set_option maxHeartbeats 8000000 in
set_option maxRecDepth 100000 in
/-- coraclelaw17.made hands on all cells. -/
theorem made_calls (I : Spec α) (x : α) (w : World) : Calls Try.prog 43 #[.agg (I.enc x).toArray] w fun e w' => e = .returned (.agg (I.enc x).toArray) ∧ Below w.heap.size w w' := by
 have hx := I.hk x
 have tx := I.take_pt x
 have lx := I.hpt x
 have hh := I.h1 x
 have a0 : (I.enc x)[33]? = some (.int .i64 (I.value x)) := I.at_ x 0
 have a1 : (I.enc x)[34]? = some (.int .i64 (I.kind x)) := I.at_ x 1
 have a2 : (I.enc x)[35]? = some (.int .i64 (I.key x)) := I.at_ x 2
 have a3 : (I.enc x)[36]? = some (.string (I.pre x)) := I.at_ x 3
 have a4 : (I.enc x)[37]? = some (.int .i64 (I.seq x)) := I.at_ x 4
 have a5 : (I.enc x)[38]? = some (.int .i64 (I.lock x)) := I.at_ x 5
 have a6 : (I.enc x)[39]? = some (.int .i64 (I.wait x)) := I.at_ x 6
 have a7 : (I.enc x)[40]? = some (.int .i64 (I.conf x)) := I.at_ x 7
 have a8 : (I.enc x)[41]? = some (.int .i64 (I.since x)) := I.at_ x 8
 have a9 : (I.enc x)[42]? = some (.int .i64 (I.dl x)) := I.at_ x 9
 have a10 : (I.enc x)[43]? = some (.int .i64 (I.budget x)) := I.at_ x 10
 have hspl : I.enc x = I.pt x ++ ([.int .i64 (I.value x), .int .i64 (I.kind x), .int .i64 (I.key x), .string (I.pre x), .int .i64 (I.seq x), .int .i64 (I.lock x), .int .i64 (I.wait x), .int .i64 (I.conf x), .int .i64 (I.since x), .int .i64 (I.dl x), .int .i64 (I.budget x)] : List Value) := rfl
 generalize I.pt x = px at tx lx hspl
 generalize I.enc x = cx at hx tx hh hspl a0 a1 a2 a3 a4 a5 a6 a7 a8 a9 a10 ⊢
 generalize I.value x = n0 at a0 hspl
 generalize I.kind x = n1 at a1 hspl
 generalize I.key x = n2 at a2 hspl
 generalize I.pre x = n3 at a3 hspl
 generalize I.seq x = n4 at a4 hspl
 generalize I.lock x = n5 at a5 hspl
 generalize I.wait x = n6 at a6 hspl
 generalize I.conf x = n7 at a7 hspl
 generalize I.since x = n8 at a8 hspl
 generalize I.dl x = n9 at a9 hspl
 generalize I.budget x = n10 at a10 hspl
 obtain ⟨u0, u1, u2, u3, u4, u5, u6, u7, u8, u9, u10, u11, u12, u13, u14, u15, u16, u17, u18, u19, u20, u21, u22, u23, u24, u25, u26, u27, u28, u29, u30, u31, u32, rfl⟩ := list33 lx
 have hcx : cx = [u0, u1, u2, u3, u4, u5, u6, u7, u8, u9, u10, u11, u12, u13, u14, u15, u16, u17, u18, u19, u20, u21, u22, u23, u24, u25, u26, u27, u28, u29, u30, u31, u32, Value.int IntKind.i64 n0, Value.int IntKind.i64 n1, Value.int IntKind.i64 n2, Value.string n3, Value.int IntKind.i64 n4, Value.int IntKind.i64 n5, Value.int IntKind.i64 n6, Value.int IntKind.i64 n7, Value.int IntKind.i64 n8, Value.int IntKind.i64 n9, Value.int IntKind.i64 n10] := hspl
 clear hspl
 have hbx : (((w.alloc (.cells cx.toArray 68)).alloc (.cells #[Value.int IntKind.u8 0, Value.int IntKind.u8 0, Value.int IntKind.u8 0, Value.int IntKind.u8 0, Value.int IntKind.u8 0, Value.int IntKind.u8 0, Value.int IntKind.u8 0, Value.int IntKind.u8 0, Value.int IntKind.u8 0, Value.int IntKind.u8 0, Value.int IntKind.u8 0, Value.int IntKind.u8 0, Value.int IntKind.u8 0, Value.int IntKind.u8 0, Value.int IntKind.u8 0, Value.int IntKind.u8 0, Value.int IntKind.u8 0, Value.int IntKind.u8 0, Value.int IntKind.u8 0, Value.int IntKind.u8 0, Value.int IntKind.u8 0, Value.int IntKind.u8 0, Value.int IntKind.u8 0, Value.int IntKind.u8 0, Value.int IntKind.u8 0, Value.int IntKind.u8 0, Value.int IntKind.u8 0, Value.int IntKind.u8 0, Value.int IntKind.u8 0, Value.int IntKind.u8 0, Value.int IntKind.u8 0, Value.int IntKind.u8 0, Value.int IntKind.i64 0, Value.int IntKind.i64 0, Value.int IntKind.i64 0, Value.int IntKind.i64 0, Value.string { data := #[] }, Value.int IntKind.i64 0, Value.int IntKind.i64 0, Value.int IntKind.i64 0, Value.int IntKind.i64 0, Value.int IntKind.i64 0, Value.int IntKind.i64 0, Value.int IntKind.i64 0] 90))).heap[w.heap.size]? = some (.cells cx.toArray 68 (0, 0)) := (Below.heap_alloc _ _ _ (by simp)).trans (blk_new w _)
 have hl1 : Sem.run Try.prog (Wide.heavy0 ⟨w.heap.size, 0, none⟩ 33) (((w.alloc (.cells cx.toArray 68)).alloc (.cells #[Value.int IntKind.u8 0, Value.int IntKind.u8 0, Value.int IntKind.u8 0, Value.int IntKind.u8 0, Value.int IntKind.u8 0, Value.int IntKind.u8 0, Value.int IntKind.u8 0, Value.int IntKind.u8 0, Value.int IntKind.u8 0, Value.int IntKind.u8 0, Value.int IntKind.u8 0, Value.int IntKind.u8 0, Value.int IntKind.u8 0, Value.int IntKind.u8 0, Value.int IntKind.u8 0, Value.int IntKind.u8 0, Value.int IntKind.u8 0, Value.int IntKind.u8 0, Value.int IntKind.u8 0, Value.int IntKind.u8 0, Value.int IntKind.u8 0, Value.int IntKind.u8 0, Value.int IntKind.u8 0, Value.int IntKind.u8 0, Value.int IntKind.u8 0, Value.int IntKind.u8 0, Value.int IntKind.u8 0, Value.int IntKind.u8 0, Value.int IntKind.u8 0, Value.int IntKind.u8 0, Value.int IntKind.u8 0, Value.int IntKind.u8 0, Value.int IntKind.i64 0, Value.int IntKind.i64 0, Value.int IntKind.i64 0, Value.int IntKind.i64 0, Value.string { data := #[] }, Value.int IntKind.i64 0, Value.int IntKind.i64 0, Value.int IntKind.i64 0, Value.int IntKind.i64 0, Value.int IntKind.i64 0, Value.int IntKind.i64 0, Value.int IntKind.i64 0] 90))) = .ok #[u0, u1, u2, u3, u4, u5, u6, u7, u8, u9, u10, u11, u12, u13, u14, u15, u16, u17, u18, u19, u20, u21, u22, u23, u24, u25, u26, u27, u28, u29, u30, u31, u32] _ := row_load hbx 0 33 _ lx (by rw [List.drop_zero]; exact tx)
 have k33 : (((w.alloc (.cells cx.toArray 68)).alloc (.cells #[Value.int IntKind.u8 0, Value.int IntKind.u8 0, Value.int IntKind.u8 0, Value.int IntKind.u8 0, Value.int IntKind.u8 0, Value.int IntKind.u8 0, Value.int IntKind.u8 0, Value.int IntKind.u8 0, Value.int IntKind.u8 0, Value.int IntKind.u8 0, Value.int IntKind.u8 0, Value.int IntKind.u8 0, Value.int IntKind.u8 0, Value.int IntKind.u8 0, Value.int IntKind.u8 0, Value.int IntKind.u8 0, Value.int IntKind.u8 0, Value.int IntKind.u8 0, Value.int IntKind.u8 0, Value.int IntKind.u8 0, Value.int IntKind.u8 0, Value.int IntKind.u8 0, Value.int IntKind.u8 0, Value.int IntKind.u8 0, Value.int IntKind.u8 0, Value.int IntKind.u8 0, Value.int IntKind.u8 0, Value.int IntKind.u8 0, Value.int IntKind.u8 0, Value.int IntKind.u8 0, Value.int IntKind.u8 0, Value.int IntKind.u8 0, Value.int IntKind.i64 0, Value.int IntKind.i64 0, Value.int IntKind.i64 0, Value.int IntKind.i64 0, Value.string { data := #[] }, Value.int IntKind.i64 0, Value.int IntKind.i64 0, Value.int IntKind.i64 0, Value.int IntKind.i64 0, Value.int IntKind.i64 0, Value.int IntKind.i64 0, Value.int IntKind.i64 0] 90))).cell? ⟨w.heap.size, 33, none⟩ = _ := (blk_cell hbx 33).trans (by simpa using a0)
 have k34 : (((w.alloc (.cells cx.toArray 68)).alloc (.cells #[Value.int IntKind.u8 0, Value.int IntKind.u8 0, Value.int IntKind.u8 0, Value.int IntKind.u8 0, Value.int IntKind.u8 0, Value.int IntKind.u8 0, Value.int IntKind.u8 0, Value.int IntKind.u8 0, Value.int IntKind.u8 0, Value.int IntKind.u8 0, Value.int IntKind.u8 0, Value.int IntKind.u8 0, Value.int IntKind.u8 0, Value.int IntKind.u8 0, Value.int IntKind.u8 0, Value.int IntKind.u8 0, Value.int IntKind.u8 0, Value.int IntKind.u8 0, Value.int IntKind.u8 0, Value.int IntKind.u8 0, Value.int IntKind.u8 0, Value.int IntKind.u8 0, Value.int IntKind.u8 0, Value.int IntKind.u8 0, Value.int IntKind.u8 0, Value.int IntKind.u8 0, Value.int IntKind.u8 0, Value.int IntKind.u8 0, Value.int IntKind.u8 0, Value.int IntKind.u8 0, Value.int IntKind.u8 0, Value.int IntKind.u8 0, Value.int IntKind.i64 0, Value.int IntKind.i64 0, Value.int IntKind.i64 0, Value.int IntKind.i64 0, Value.string { data := #[] }, Value.int IntKind.i64 0, Value.int IntKind.i64 0, Value.int IntKind.i64 0, Value.int IntKind.i64 0, Value.int IntKind.i64 0, Value.int IntKind.i64 0, Value.int IntKind.i64 0] 90))).cell? ⟨w.heap.size, 34, none⟩ = _ := (blk_cell hbx 34).trans (by simpa using a1)
 have k35 : (((w.alloc (.cells cx.toArray 68)).alloc (.cells #[Value.int IntKind.u8 0, Value.int IntKind.u8 0, Value.int IntKind.u8 0, Value.int IntKind.u8 0, Value.int IntKind.u8 0, Value.int IntKind.u8 0, Value.int IntKind.u8 0, Value.int IntKind.u8 0, Value.int IntKind.u8 0, Value.int IntKind.u8 0, Value.int IntKind.u8 0, Value.int IntKind.u8 0, Value.int IntKind.u8 0, Value.int IntKind.u8 0, Value.int IntKind.u8 0, Value.int IntKind.u8 0, Value.int IntKind.u8 0, Value.int IntKind.u8 0, Value.int IntKind.u8 0, Value.int IntKind.u8 0, Value.int IntKind.u8 0, Value.int IntKind.u8 0, Value.int IntKind.u8 0, Value.int IntKind.u8 0, Value.int IntKind.u8 0, Value.int IntKind.u8 0, Value.int IntKind.u8 0, Value.int IntKind.u8 0, Value.int IntKind.u8 0, Value.int IntKind.u8 0, Value.int IntKind.u8 0, Value.int IntKind.u8 0, Value.int IntKind.i64 0, Value.int IntKind.i64 0, Value.int IntKind.i64 0, Value.int IntKind.i64 0, Value.string { data := #[] }, Value.int IntKind.i64 0, Value.int IntKind.i64 0, Value.int IntKind.i64 0, Value.int IntKind.i64 0, Value.int IntKind.i64 0, Value.int IntKind.i64 0, Value.int IntKind.i64 0] 90))).cell? ⟨w.heap.size, 35, none⟩ = _ := (blk_cell hbx 35).trans (by simpa using a2)
 have k36 : (((w.alloc (.cells cx.toArray 68)).alloc (.cells #[Value.int IntKind.u8 0, Value.int IntKind.u8 0, Value.int IntKind.u8 0, Value.int IntKind.u8 0, Value.int IntKind.u8 0, Value.int IntKind.u8 0, Value.int IntKind.u8 0, Value.int IntKind.u8 0, Value.int IntKind.u8 0, Value.int IntKind.u8 0, Value.int IntKind.u8 0, Value.int IntKind.u8 0, Value.int IntKind.u8 0, Value.int IntKind.u8 0, Value.int IntKind.u8 0, Value.int IntKind.u8 0, Value.int IntKind.u8 0, Value.int IntKind.u8 0, Value.int IntKind.u8 0, Value.int IntKind.u8 0, Value.int IntKind.u8 0, Value.int IntKind.u8 0, Value.int IntKind.u8 0, Value.int IntKind.u8 0, Value.int IntKind.u8 0, Value.int IntKind.u8 0, Value.int IntKind.u8 0, Value.int IntKind.u8 0, Value.int IntKind.u8 0, Value.int IntKind.u8 0, Value.int IntKind.u8 0, Value.int IntKind.u8 0, Value.int IntKind.i64 0, Value.int IntKind.i64 0, Value.int IntKind.i64 0, Value.int IntKind.i64 0, Value.string { data := #[] }, Value.int IntKind.i64 0, Value.int IntKind.i64 0, Value.int IntKind.i64 0, Value.int IntKind.i64 0, Value.int IntKind.i64 0, Value.int IntKind.i64 0, Value.int IntKind.i64 0] 90))).cell? ⟨w.heap.size, 36, none⟩ = _ := (blk_cell hbx 36).trans (by simpa using a3)
 have k37 : (((w.alloc (.cells cx.toArray 68)).alloc (.cells #[Value.int IntKind.u8 0, Value.int IntKind.u8 0, Value.int IntKind.u8 0, Value.int IntKind.u8 0, Value.int IntKind.u8 0, Value.int IntKind.u8 0, Value.int IntKind.u8 0, Value.int IntKind.u8 0, Value.int IntKind.u8 0, Value.int IntKind.u8 0, Value.int IntKind.u8 0, Value.int IntKind.u8 0, Value.int IntKind.u8 0, Value.int IntKind.u8 0, Value.int IntKind.u8 0, Value.int IntKind.u8 0, Value.int IntKind.u8 0, Value.int IntKind.u8 0, Value.int IntKind.u8 0, Value.int IntKind.u8 0, Value.int IntKind.u8 0, Value.int IntKind.u8 0, Value.int IntKind.u8 0, Value.int IntKind.u8 0, Value.int IntKind.u8 0, Value.int IntKind.u8 0, Value.int IntKind.u8 0, Value.int IntKind.u8 0, Value.int IntKind.u8 0, Value.int IntKind.u8 0, Value.int IntKind.u8 0, Value.int IntKind.u8 0, Value.int IntKind.i64 0, Value.int IntKind.i64 0, Value.int IntKind.i64 0, Value.int IntKind.i64 0, Value.string { data := #[] }, Value.int IntKind.i64 0, Value.int IntKind.i64 0, Value.int IntKind.i64 0, Value.int IntKind.i64 0, Value.int IntKind.i64 0, Value.int IntKind.i64 0, Value.int IntKind.i64 0] 90))).cell? ⟨w.heap.size, 37, none⟩ = _ := (blk_cell hbx 37).trans (by simpa using a4)
 have k38 : (((w.alloc (.cells cx.toArray 68)).alloc (.cells #[Value.int IntKind.u8 0, Value.int IntKind.u8 0, Value.int IntKind.u8 0, Value.int IntKind.u8 0, Value.int IntKind.u8 0, Value.int IntKind.u8 0, Value.int IntKind.u8 0, Value.int IntKind.u8 0, Value.int IntKind.u8 0, Value.int IntKind.u8 0, Value.int IntKind.u8 0, Value.int IntKind.u8 0, Value.int IntKind.u8 0, Value.int IntKind.u8 0, Value.int IntKind.u8 0, Value.int IntKind.u8 0, Value.int IntKind.u8 0, Value.int IntKind.u8 0, Value.int IntKind.u8 0, Value.int IntKind.u8 0, Value.int IntKind.u8 0, Value.int IntKind.u8 0, Value.int IntKind.u8 0, Value.int IntKind.u8 0, Value.int IntKind.u8 0, Value.int IntKind.u8 0, Value.int IntKind.u8 0, Value.int IntKind.u8 0, Value.int IntKind.u8 0, Value.int IntKind.u8 0, Value.int IntKind.u8 0, Value.int IntKind.u8 0, Value.int IntKind.i64 0, Value.int IntKind.i64 0, Value.int IntKind.i64 0, Value.int IntKind.i64 0, Value.string { data := #[] }, Value.int IntKind.i64 0, Value.int IntKind.i64 0, Value.int IntKind.i64 0, Value.int IntKind.i64 0, Value.int IntKind.i64 0, Value.int IntKind.i64 0, Value.int IntKind.i64 0] 90))).cell? ⟨w.heap.size, 38, none⟩ = _ := (blk_cell hbx 38).trans (by simpa using a5)
 have k39 : (((w.alloc (.cells cx.toArray 68)).alloc (.cells #[Value.int IntKind.u8 0, Value.int IntKind.u8 0, Value.int IntKind.u8 0, Value.int IntKind.u8 0, Value.int IntKind.u8 0, Value.int IntKind.u8 0, Value.int IntKind.u8 0, Value.int IntKind.u8 0, Value.int IntKind.u8 0, Value.int IntKind.u8 0, Value.int IntKind.u8 0, Value.int IntKind.u8 0, Value.int IntKind.u8 0, Value.int IntKind.u8 0, Value.int IntKind.u8 0, Value.int IntKind.u8 0, Value.int IntKind.u8 0, Value.int IntKind.u8 0, Value.int IntKind.u8 0, Value.int IntKind.u8 0, Value.int IntKind.u8 0, Value.int IntKind.u8 0, Value.int IntKind.u8 0, Value.int IntKind.u8 0, Value.int IntKind.u8 0, Value.int IntKind.u8 0, Value.int IntKind.u8 0, Value.int IntKind.u8 0, Value.int IntKind.u8 0, Value.int IntKind.u8 0, Value.int IntKind.u8 0, Value.int IntKind.u8 0, Value.int IntKind.i64 0, Value.int IntKind.i64 0, Value.int IntKind.i64 0, Value.int IntKind.i64 0, Value.string { data := #[] }, Value.int IntKind.i64 0, Value.int IntKind.i64 0, Value.int IntKind.i64 0, Value.int IntKind.i64 0, Value.int IntKind.i64 0, Value.int IntKind.i64 0, Value.int IntKind.i64 0] 90))).cell? ⟨w.heap.size, 39, none⟩ = _ := (blk_cell hbx 39).trans (by simpa using a6)
 have k40 : (((w.alloc (.cells cx.toArray 68)).alloc (.cells #[Value.int IntKind.u8 0, Value.int IntKind.u8 0, Value.int IntKind.u8 0, Value.int IntKind.u8 0, Value.int IntKind.u8 0, Value.int IntKind.u8 0, Value.int IntKind.u8 0, Value.int IntKind.u8 0, Value.int IntKind.u8 0, Value.int IntKind.u8 0, Value.int IntKind.u8 0, Value.int IntKind.u8 0, Value.int IntKind.u8 0, Value.int IntKind.u8 0, Value.int IntKind.u8 0, Value.int IntKind.u8 0, Value.int IntKind.u8 0, Value.int IntKind.u8 0, Value.int IntKind.u8 0, Value.int IntKind.u8 0, Value.int IntKind.u8 0, Value.int IntKind.u8 0, Value.int IntKind.u8 0, Value.int IntKind.u8 0, Value.int IntKind.u8 0, Value.int IntKind.u8 0, Value.int IntKind.u8 0, Value.int IntKind.u8 0, Value.int IntKind.u8 0, Value.int IntKind.u8 0, Value.int IntKind.u8 0, Value.int IntKind.u8 0, Value.int IntKind.i64 0, Value.int IntKind.i64 0, Value.int IntKind.i64 0, Value.int IntKind.i64 0, Value.string { data := #[] }, Value.int IntKind.i64 0, Value.int IntKind.i64 0, Value.int IntKind.i64 0, Value.int IntKind.i64 0, Value.int IntKind.i64 0, Value.int IntKind.i64 0, Value.int IntKind.i64 0] 90))).cell? ⟨w.heap.size, 40, none⟩ = _ := (blk_cell hbx 40).trans (by simpa using a7)
 have k41 : (((w.alloc (.cells cx.toArray 68)).alloc (.cells #[Value.int IntKind.u8 0, Value.int IntKind.u8 0, Value.int IntKind.u8 0, Value.int IntKind.u8 0, Value.int IntKind.u8 0, Value.int IntKind.u8 0, Value.int IntKind.u8 0, Value.int IntKind.u8 0, Value.int IntKind.u8 0, Value.int IntKind.u8 0, Value.int IntKind.u8 0, Value.int IntKind.u8 0, Value.int IntKind.u8 0, Value.int IntKind.u8 0, Value.int IntKind.u8 0, Value.int IntKind.u8 0, Value.int IntKind.u8 0, Value.int IntKind.u8 0, Value.int IntKind.u8 0, Value.int IntKind.u8 0, Value.int IntKind.u8 0, Value.int IntKind.u8 0, Value.int IntKind.u8 0, Value.int IntKind.u8 0, Value.int IntKind.u8 0, Value.int IntKind.u8 0, Value.int IntKind.u8 0, Value.int IntKind.u8 0, Value.int IntKind.u8 0, Value.int IntKind.u8 0, Value.int IntKind.u8 0, Value.int IntKind.u8 0, Value.int IntKind.i64 0, Value.int IntKind.i64 0, Value.int IntKind.i64 0, Value.int IntKind.i64 0, Value.string { data := #[] }, Value.int IntKind.i64 0, Value.int IntKind.i64 0, Value.int IntKind.i64 0, Value.int IntKind.i64 0, Value.int IntKind.i64 0, Value.int IntKind.i64 0, Value.int IntKind.i64 0] 90))).cell? ⟨w.heap.size, 41, none⟩ = _ := (blk_cell hbx 41).trans (by simpa using a8)
 have k42 : (((w.alloc (.cells cx.toArray 68)).alloc (.cells #[Value.int IntKind.u8 0, Value.int IntKind.u8 0, Value.int IntKind.u8 0, Value.int IntKind.u8 0, Value.int IntKind.u8 0, Value.int IntKind.u8 0, Value.int IntKind.u8 0, Value.int IntKind.u8 0, Value.int IntKind.u8 0, Value.int IntKind.u8 0, Value.int IntKind.u8 0, Value.int IntKind.u8 0, Value.int IntKind.u8 0, Value.int IntKind.u8 0, Value.int IntKind.u8 0, Value.int IntKind.u8 0, Value.int IntKind.u8 0, Value.int IntKind.u8 0, Value.int IntKind.u8 0, Value.int IntKind.u8 0, Value.int IntKind.u8 0, Value.int IntKind.u8 0, Value.int IntKind.u8 0, Value.int IntKind.u8 0, Value.int IntKind.u8 0, Value.int IntKind.u8 0, Value.int IntKind.u8 0, Value.int IntKind.u8 0, Value.int IntKind.u8 0, Value.int IntKind.u8 0, Value.int IntKind.u8 0, Value.int IntKind.u8 0, Value.int IntKind.i64 0, Value.int IntKind.i64 0, Value.int IntKind.i64 0, Value.int IntKind.i64 0, Value.string { data := #[] }, Value.int IntKind.i64 0, Value.int IntKind.i64 0, Value.int IntKind.i64 0, Value.int IntKind.i64 0, Value.int IntKind.i64 0, Value.int IntKind.i64 0, Value.int IntKind.i64 0] 90))).cell? ⟨w.heap.size, 42, none⟩ = _ := (blk_cell hbx 42).trans (by simpa using a9)
 have k43 : (((w.alloc (.cells cx.toArray 68)).alloc (.cells #[Value.int IntKind.u8 0, Value.int IntKind.u8 0, Value.int IntKind.u8 0, Value.int IntKind.u8 0, Value.int IntKind.u8 0, Value.int IntKind.u8 0, Value.int IntKind.u8 0, Value.int IntKind.u8 0, Value.int IntKind.u8 0, Value.int IntKind.u8 0, Value.int IntKind.u8 0, Value.int IntKind.u8 0, Value.int IntKind.u8 0, Value.int IntKind.u8 0, Value.int IntKind.u8 0, Value.int IntKind.u8 0, Value.int IntKind.u8 0, Value.int IntKind.u8 0, Value.int IntKind.u8 0, Value.int IntKind.u8 0, Value.int IntKind.u8 0, Value.int IntKind.u8 0, Value.int IntKind.u8 0, Value.int IntKind.u8 0, Value.int IntKind.u8 0, Value.int IntKind.u8 0, Value.int IntKind.u8 0, Value.int IntKind.u8 0, Value.int IntKind.u8 0, Value.int IntKind.u8 0, Value.int IntKind.u8 0, Value.int IntKind.u8 0, Value.int IntKind.i64 0, Value.int IntKind.i64 0, Value.int IntKind.i64 0, Value.int IntKind.i64 0, Value.string { data := #[] }, Value.int IntKind.i64 0, Value.int IntKind.i64 0, Value.int IntKind.i64 0, Value.int IntKind.i64 0, Value.int IntKind.i64 0, Value.int IntKind.i64 0, Value.int IntKind.i64 0] 90))).cell? ⟨w.heap.size, 43, none⟩ = _ := (blk_cell hbx 43).trans (by simpa using a10)
 have hbz : (((w.alloc (.cells cx.toArray 68)).alloc (.cells #[Value.int IntKind.u8 0, Value.int IntKind.u8 0, Value.int IntKind.u8 0, Value.int IntKind.u8 0, Value.int IntKind.u8 0, Value.int IntKind.u8 0, Value.int IntKind.u8 0, Value.int IntKind.u8 0, Value.int IntKind.u8 0, Value.int IntKind.u8 0, Value.int IntKind.u8 0, Value.int IntKind.u8 0, Value.int IntKind.u8 0, Value.int IntKind.u8 0, Value.int IntKind.u8 0, Value.int IntKind.u8 0, Value.int IntKind.u8 0, Value.int IntKind.u8 0, Value.int IntKind.u8 0, Value.int IntKind.u8 0, Value.int IntKind.u8 0, Value.int IntKind.u8 0, Value.int IntKind.u8 0, Value.int IntKind.u8 0, Value.int IntKind.u8 0, Value.int IntKind.u8 0, Value.int IntKind.u8 0, Value.int IntKind.u8 0, Value.int IntKind.u8 0, Value.int IntKind.u8 0, Value.int IntKind.u8 0, Value.int IntKind.u8 0, Value.int IntKind.i64 0, Value.int IntKind.i64 0, Value.int IntKind.i64 0, Value.int IntKind.i64 0, Value.string { data := #[] }, Value.int IntKind.i64 0, Value.int IntKind.i64 0, Value.int IntKind.i64 0, Value.int IntKind.i64 0, Value.int IntKind.i64 0, Value.int IntKind.i64 0, Value.int IntKind.i64 0] 90))).heap[w.heap.size + 1]? = some (.cells #[Value.int IntKind.u8 0, Value.int IntKind.u8 0, Value.int IntKind.u8 0, Value.int IntKind.u8 0, Value.int IntKind.u8 0, Value.int IntKind.u8 0, Value.int IntKind.u8 0, Value.int IntKind.u8 0, Value.int IntKind.u8 0, Value.int IntKind.u8 0, Value.int IntKind.u8 0, Value.int IntKind.u8 0, Value.int IntKind.u8 0, Value.int IntKind.u8 0, Value.int IntKind.u8 0, Value.int IntKind.u8 0, Value.int IntKind.u8 0, Value.int IntKind.u8 0, Value.int IntKind.u8 0, Value.int IntKind.u8 0, Value.int IntKind.u8 0, Value.int IntKind.u8 0, Value.int IntKind.u8 0, Value.int IntKind.u8 0, Value.int IntKind.u8 0, Value.int IntKind.u8 0, Value.int IntKind.u8 0, Value.int IntKind.u8 0, Value.int IntKind.u8 0, Value.int IntKind.u8 0, Value.int IntKind.u8 0, Value.int IntKind.u8 0, Value.int IntKind.i64 0, Value.int IntKind.i64 0, Value.int IntKind.i64 0, Value.int IntKind.i64 0, Value.string { data := #[] }, Value.int IntKind.i64 0, Value.int IntKind.i64 0, Value.int IntKind.i64 0, Value.int IntKind.i64 0, Value.int IntKind.i64 0, Value.int IntKind.i64 0, Value.int IntKind.i64 0] 90 (0, 0)) := by
  have := blk_new (w.alloc (.cells cx.toArray 68)) (.cells #[Value.int IntKind.u8 0, Value.int IntKind.u8 0, Value.int IntKind.u8 0, Value.int IntKind.u8 0, Value.int IntKind.u8 0, Value.int IntKind.u8 0, Value.int IntKind.u8 0, Value.int IntKind.u8 0, Value.int IntKind.u8 0, Value.int IntKind.u8 0, Value.int IntKind.u8 0, Value.int IntKind.u8 0, Value.int IntKind.u8 0, Value.int IntKind.u8 0, Value.int IntKind.u8 0, Value.int IntKind.u8 0, Value.int IntKind.u8 0, Value.int IntKind.u8 0, Value.int IntKind.u8 0, Value.int IntKind.u8 0, Value.int IntKind.u8 0, Value.int IntKind.u8 0, Value.int IntKind.u8 0, Value.int IntKind.u8 0, Value.int IntKind.u8 0, Value.int IntKind.u8 0, Value.int IntKind.u8 0, Value.int IntKind.u8 0, Value.int IntKind.u8 0, Value.int IntKind.u8 0, Value.int IntKind.u8 0, Value.int IntKind.u8 0, Value.int IntKind.i64 0, Value.int IntKind.i64 0, Value.int IntKind.i64 0, Value.int IntKind.i64 0, Value.string { data := #[] }, Value.int IntKind.i64 0, Value.int IntKind.i64 0, Value.int IntKind.i64 0, Value.int IntKind.i64 0, Value.int IntKind.i64 0, Value.int IntKind.i64 0, Value.int IntKind.i64 0] 90)
  rwa [World.size_alloc] at this
 have h1 : ([u0, u1, u2, u3, u4, u5, u6, u7, u8, u9, u10, u11, u12, u13, u14, u15, u16, u17, u18, u19, u20, u21, u22, u23, u24, u25, u26, u27, u28, u29, u30, u31, u32, Value.int IntKind.i64 n0, Value.int IntKind.i64 n1, Value.int IntKind.i64 n2, Value.string n3, Value.int IntKind.i64 n4, Value.int IntKind.i64 n5, Value.int IntKind.i64 n6, Value.int IntKind.i64 n7, Value.int IntKind.i64 n8, Value.int IntKind.i64 n9, Value.int IntKind.i64 n10].toArray : Array Value).all (·.oneCell') = true := by
  rw [Array.all_eq_true_iff_forall_mem]
  intro v hv
  rw [List.mem_toArray, ← hcx] at hv
  exact hh v hv
 have HB := Aside0.mk (show Below w.heap.size w (((w.alloc (.cells cx.toArray 68)).alloc (.cells #[Value.int IntKind.u8 0, Value.int IntKind.u8 0, Value.int IntKind.u8 0, Value.int IntKind.u8 0, Value.int IntKind.u8 0, Value.int IntKind.u8 0, Value.int IntKind.u8 0, Value.int IntKind.u8 0, Value.int IntKind.u8 0, Value.int IntKind.u8 0, Value.int IntKind.u8 0, Value.int IntKind.u8 0, Value.int IntKind.u8 0, Value.int IntKind.u8 0, Value.int IntKind.u8 0, Value.int IntKind.u8 0, Value.int IntKind.u8 0, Value.int IntKind.u8 0, Value.int IntKind.u8 0, Value.int IntKind.u8 0, Value.int IntKind.u8 0, Value.int IntKind.u8 0, Value.int IntKind.u8 0, Value.int IntKind.u8 0, Value.int IntKind.u8 0, Value.int IntKind.u8 0, Value.int IntKind.u8 0, Value.int IntKind.u8 0, Value.int IntKind.u8 0, Value.int IntKind.u8 0, Value.int IntKind.u8 0, Value.int IntKind.u8 0, Value.int IntKind.i64 0, Value.int IntKind.i64 0, Value.int IntKind.i64 0, Value.int IntKind.i64 0, Value.string { data := #[] }, Value.int IntKind.i64 0, Value.int IntKind.i64 0, Value.int IntKind.i64 0, Value.int IntKind.i64 0, Value.int IntKind.i64 0, Value.int IntKind.i64 0, Value.int IntKind.i64 0] 90))) from below_alloc (below_alloc (Below.refl _ _) _) _)
 have HX := Aside0.mk (And.intro hbz h1)
 have HC := Aside0.mk hcx
 clear hbz h1 hbx lx tx hh hcx hx a0 a1 a2 a3 a4 a5 a6 a7 a8 a9 a10
 go_enter Try.func43, Try.ntmps43
 go_wp2_with (first | ((with_reducible refine gate_store (t := 90) (p := 2) rfl ?_); refine PutW.store_event ?b1 ?b2 90 (.tmp 2) (.tmp 28) ?b3 (g := w.heap.size + 1) (t := 90) (cells := #[u0, u1, u2, u3, u4, u5, u6, u7, u8, u9, u10, u11, u12, u13, u14, u15, u16, u17, u18, u19, u20, u21, u22, u23, u24, u25, u26, u27, u28, u29, u30, u31, u32, Value.int IntKind.i64 n0, Value.int IntKind.i64 n1, Value.int IntKind.i64 n2, Value.string n3, Value.int IntKind.i64 n4, Value.int IntKind.i64 n5, Value.int IntKind.i64 n6, Value.int IntKind.i64 n7, Value.int IntKind.i64 n8, Value.int IntKind.i64 n9, Value.int IntKind.i64 n10]) ?a1 ?a2 HX.out.1 ?a3 ?a4 HX.out.2 ?_; (case b1 => rfl); (case b2 => rfl); (case b3 => rfl); (case a1 => first | rfl | (go_simp; done)); (case a2 => first | rfl | (go_simp; done)); (case a3 => rfl); (case a4 => kernel_rfl); intro w3 hz3 hs3 hg3; have HB3 := Aside0.mk (pw_below_grown HB.out (some (w.heap.size + 1)) HB.out.size hg3 (fun k e => by cases e; omega)); have BK3 := Aside0.mk hz3; clear hz3 hs3 hg3 hl1 k33 k34 k35 k36 k37 k38 k39 k40 k41 k42 k43))
 refine bodyPost_ret (results_cell_row rfl _ _ (w.heap.size + 1) 90 #[u0, u1, u2, u3, u4, u5, u6, u7, u8, u9, u10, u11, u12, u13, u14, u15, u16, u17, u18, u19, u20, u21, u22, u23, u24, u25, u26, u27, u28, u29, u30, u31, u32, Value.int IntKind.i64 n0, Value.int IntKind.i64 n1, Value.int IntKind.i64 n2, Value.string n3, Value.int IntKind.i64 n4, Value.int IntKind.i64 n5, Value.int IntKind.i64 n6, Value.int IntKind.i64 n7, Value.int IntKind.i64 n8, Value.int IntKind.i64 n9, Value.int IntKind.i64 n10] (0, 0) _ rfl BK3.out Try.underlying90 rfl (by kernel_rfl)) rfl ?_
 exact ⟨by rw [HC.out], HB3.out⟩
/-- An input of a number. -/
def one68 (n v b : Int) : S68 := ⟨⟨⟨0, 0, 0, 0, 0, 0, 0, 0, 0, 0, 0, 0, 0, 0, 0, 0, 0, 0, 0, 0, 0, 0, 0, 0, 0, 0, 0, 0, 0, 0, 0, 0⟩, n⟩, v, ⟨⟨1, 2, ⟨#[]⟩⟩, 0, 0, 0⟩, 0, 0, 10, b⟩
set_option maxHeartbeats 8000000 in
set_option maxRecDepth 100000 in
theorem one_calls' (n v b : Int) (w : World) : Calls Try.prog 25 #[.int .i64 n, .int .i64 v, .int .i64 b] w fun e w' => e = .returned (.agg (J68.enc (one68 n v b)).toArray) ∧ Below w.heap.size w w' := by
 obtain ⟨cs, hcs⟩ : ∃ c : Array Value, c = #[.int .u8 0, .int .u8 0, .int .u8 0, .int .u8 0, .int .u8 0, .int .u8 0, .int .u8 0, .int .u8 0, .int .u8 0, .int .u8 0, .int .u8 0, .int .u8 0, .int .u8 0, .int .u8 0, .int .u8 0, .int .u8 0, .int .u8 0, .int .u8 0, .int .u8 0, .int .u8 0, .int .u8 0, .int .u8 0, .int .u8 0, .int .u8 0, .int .u8 0, .int .u8 0, .int .u8 0, .int .u8 0, .int .u8 0, .int .u8 0, .int .u8 0, .int .u8 0, .int .i64 n, .int .i64 v, .int .i64 1, .int .i64 2, .string ⟨#[]⟩, .int .i64 0, .int .i64 0, .int .i64 0, .int .i64 0, .int .i64 0, .int .i64 10, .int .i64 b] := ⟨_, rfl⟩
 have hres : (J68.enc (one68 n v b)).toArray = cs := by rw [hcs]; rfl
 have h1 : cs.all (·.oneCell') = true := by
  rw [← hres, Array.all_eq_true_iff_forall_mem]
  intro u hu
  exact J68.h1 _ u (List.mem_toArray.1 hu)
 have hsz : cs.size = 44 := by rw [← hres, List.size_toArray]; exact J68.hk _
 have CS := Aside0.mk hcs
 have HX := Aside0.mk (And.intro hres (And.intro h1 hsz))
 clear hcs hres h1 hsz
 rw [HX.out.1]
 go_enter Try.func25, Try.ntmps25
 go_wp2_with (first | ((with_reducible refine gate_store (t := 68) (p := 6) rfl ?_); refine PutW.store_event ?b1 ?b2 68 (.tmp 6) (.tmp 13) ?b3 (g := w.heap.size) (t := 68) (cells := cs) ?a1 ?a2 (blk_new w _) ?a3 ?a4 HX.out.2.1 ?_; (case b1 => rfl); (case b2 => rfl); (case b3 => rfl); (case a1 => first | rfl | (go_simp; done)); (case a2 => rw [CS.out]; first | rfl | (go_simp; done)); (case a3 => rw [HX.out.2.2]; rfl); (case a4 => rw [HX.out.2.2]; kernel_rfl); intro w3 hz3 hs3 hg3; have HB3 := Aside0.mk (pw_below_grown (below_alloc (Below.refl _ _) _) (some w.heap.size) (below_alloc (Below.refl _ _) _).size hg3 (fun k e => by cases e; exact Nat.le_refl _)); have BK3 := Aside0.mk hz3; clear hz3 hs3 hg3))
 refine bodyPost_ret (results_cell_row rfl _ _ w.heap.size 68 cs (0, 0) _ rfl BK3.out Try.underlying68 rfl (by rw [HX.out.2.2]; kernel_rfl)) rfl ?_
 exact ⟨rfl, HB3.out⟩
end Go.Proofs.Ytiodebjjbgcbhaa.Inp
/- Plain theory: what goes together, of inputs that are alike but for their points, locks and waits. -/
namespace Go.Proofs.Ytiodebjjbgcbhaa.Pure
open Go Go.Proofs.Ytiodebjjbgcbhaa.Inp Go.Proofs.Ytiodebjjbgcbhaa.QLef Go.Proofs.Ytiodebjjbgcbhaa.LefL Go.Proofs.Ytiodebjjbgcbhaa.OrdO Go.Proofs.Ytiodebjjbgcbhaa.OrdQ
set_option linter.unusedVariables false
set_option linter.unusedSimpArgs false
theorem snoc_ind {α : Type} {P : List α → Prop} (h0 : P []) (h1 : ∀ l x, P l → P (l ++ [x])) : ∀ l, P l := by
 have key : ∀ l : List α, P l.reverse := by
  intro l
  induction l with
  | nil => exact h0
  | cons x l ih => rw [List.reverse_cons]; exact h1 _ _ ih
 intro l
 have := key l.reverse
 rwa [List.reverse_reverse] at this
def mkx (D n lo wa : Int) : S90 := ⟨⟨⟨0, 0, 0, 0, 0, 0, 0, 0, 0, 0, 0, 0, 0, 0, 0, 0, 0, 0, 0, 0, 0, 0, 0, 0, 0, 0, 0, 0, 0, 0, 0, 0⟩, n⟩, 100000, ⟨⟨1, 2, ⟨#[]⟩⟩, 0, lo, wa⟩, 0, 0, D, 50000⟩
def Good (D : Int) (x : S90) : Prop := ∃ n lo wa, x = mkx D n lo wa ∧ (0 ≤ n ∧ n ≤ 99) ∧ (0 ≤ lo ∧ lo ≤ 1000000) ∧ (0 ≤ wa ∧ wa ≤ 65535)
theorem wiB_true {a b c : Int} (h : b ≤ a ∧ a ≤ c) : wiB a b c = true := by simp [wiB, h.1, h.2]
theorem ofB_good (D : Int) (hD : 0 ≤ D ∧ D ≤ 1000000) : ofB 0 D 50000 414 = true := by
 rw [ofB_true]
 refine ⟨by omega, hD, by omega, by omega, by decide⟩
theorem chk_good {D : Int} (hD : 0 ≤ D ∧ D ≤ 1000000) {x : S90} (h : Good D x) : chkC I90 x = 0 := by
 obtain ⟨n, lo, wa, rfl, hn, hlo, hwa⟩ := h
 show chkV (wiB n 0 99) (wiB 100000 1 2100000000000000) (witB 1 2 ⟨#[]⟩) (wiB 0 0 65535) (wiB wa 0 65535) (wiB lo 0 1000000) (wiB 0 0 1000000) (if ofB 0 D 50000 414 then 0 else 1) = 0
 rw [wiB_true hn, wiB_true hwa, wiB_true hlo, ofB_good D hD]
 kernel_rfl
def rate0 (D next : Int) : Int := atV 0 253 (max 0 D) 120772 next
theorem rt_good {D : Int} (hD : 0 ≤ D ∧ D ≤ 1000000) {x : S90} (h : Good D x) (next : Int) : rtC I90 next x = rate0 D next := by
 have hc := chk_good hD h
 unfold rtC
 rw [if_pos hc]
 obtain ⟨n, lo, wa, rfl, hn, hlo, hwa⟩ := h
 show (if ofB 0 D 50000 414 then atV 0 253 (max 0 D) (min (50000 * 1000 / 414) 1000000000) next else 0) = _
 rw [ofB_good D hD, if_pos rfl]
 rfl
theorem rate0_bounds (D next : Int) (hD : 0 ≤ D ∧ D ≤ 1000000) : 253 ≤ rate0 D next ∧ rate0 D next ≤ 120772 := by
 have h := of_line (ofB_good D hD)
 exact atV_bounds (h := 120772) h next
theorem tot_all : ∀ (l : List Int) (s : Int), (∀ a ∈ l, 0 ≤ a) → 0 ≤ s → s + l.sum ≤ 2100000000000000 → totS s l = (s + l.sum, 0)
 | [], s, _, _, _ => by simp [totS]
 | a :: l, s, h, hs, hm => by
  have ha := h a List.mem_cons_self
  have hl : 0 ≤ l.sum := by
   have : ∀ l : List Int, (∀ a ∈ l, 0 ≤ a) → 0 ≤ l.sum := by
    intro l
    induction l with
    | nil => intro _; simp
    | cons b l ih => intro h; rw [List.sum_cons]; have := ih (fun a h' => h a (List.mem_cons_of_mem _ h')); have := h b List.mem_cons_self; omega
   exact this l (fun a h' => h a (List.mem_cons_of_mem _ h'))
  rw [List.sum_cons] at hm
  have e : addS s a = (s + a, 0) := by
   unfold addS
   rw [w64' (by omega) (by omega), (okA_true (a := s)).2 (by omega), (okA_true (a := a)).2 (by omega), (okA_true (a := s + a)).2 (by omega)]
   rfl
  unfold totS
  rw [e]
  simp only [if_true]
  rw [tot_all l (s + a) (fun a h' => h a (List.mem_cons_of_mem _ h')) (by omega) (by omega), List.sum_cons]
  congr 1
  omega
theorem wits_one : ∀ l : List S38, (∀ x ∈ l, x.f2.f0 = 1) → wits l = 74 * (l.length : Int)
 | [], _ => rfl
 | x :: l, h => by
  unfold wits
  rw [wits_one l (fun y hy => h y (List.mem_cons_of_mem _ hy)), h x List.mem_cons_self, List.length_cons]
  simp [witV]
  omega
theorem sum_const (c : Int) : ∀ (l : List S90), (∀ x ∈ l, I90.value x = c) → (l.map I90.value).sum = c * (l.length : Int)
 | [], _ => by simp
 | x :: l, h => by
  rw [List.map_cons, List.sum_cons, sum_const c l (fun y hy => h y (List.mem_cons_of_mem _ hy)), h x List.mem_cons_self, List.length_cons, Int.natCast_succ, Int.mul_add]
  omega
theorem bud_good {D : Int} : ∀ (l : List S90), (∀ x ∈ l, Good D x) → l.length ≤ 1000 → budV I90 l = 50000 * (l.length : Int) := by
 intro l
 induction l using snoc_ind with
 | h0 => intro _ _; rfl
 | h1 l x ih =>
  intro h hl
  rw [List.length_append, List.length_singleton] at hl
  obtain ⟨n, lo, wa, rfl, _⟩ := h x (by simp)
  rw [budV_snoc, ih (fun y hy => h y (by simp [hy])) (by omega), show I90.budget (mkx D n lo wa) = 50000 from rfl, w64' (by omega) (by omega), List.length_append, List.length_singleton]
  omega
theorem lock_good {D : Int} : ∀ (l : List S90), (∀ x ∈ l, Good D x) → 0 ≤ lockV I90 l ∧ lockV I90 l ≤ 1000000 := by
 intro l
 induction l using snoc_ind with
 | h0 => intro _; exact ⟨by decide, by decide⟩
 | h1 l x ih =>
  intro h
  obtain ⟨n, lo, wa, rfl, _, hlo, _⟩ := h x (by simp)
  have h1 := ih (fun y hy => h y (by simp [hy]))
  rw [lockV_snoc, show I90.lock (mkx D n lo wa) = lo from rfl]
  omega
theorem in_good {D : Int} {x : S90} (h : Good D x) : inB (I90.inS x) = true ∧ (I90.inS x).f2.f0 = 1 ∧ (I90.inS x).f0.f1 = I90.nn x := by
 obtain ⟨n, lo, wa, rfl, hn, _⟩ := h
 refine ⟨?_, rfl, rfl⟩
 show ((decide (0 ≤ n) && decide (n ≤ 99)) && ((decide ((0 : Int) ≤ 0) && decide ((0 : Int) ≤ 65535)) && witB 1 2 ⟨#[]⟩)) = true
 rw [decide_eq_true hn.1, decide_eq_true hn.2]
 kernel_rfl
theorem oeq_ne {x y : S34} (h : x.f1 ≠ y.f1) : oeq x y = false := by
 unfold oeq
 have : (x.f1 == y.f1) = false := by simpa using h
 rw [this]
 simp
theorem insOk_good {D : Int} (l : List S90) (h : ∀ x ∈ l, Good D x) (hp : l.Pairwise (fun a b => I90.nn a < I90.nn b)) : insOk (l.map I90.inS) (l.map I90.inS).length = true := by
 unfold insOk
 rw [List.all_eq_true]
 intro i hi
 have hi' : i < l.length := by rw [List.mem_range, List.length_map] at hi; exact hi
 rw [List.getElem?_map, List.getElem?_eq_getElem hi']
 simp only [Option.map_some]
 have hg := in_good (h _ (List.getElem_mem hi'))
 rw [hg.1, Bool.true_and, Bool.not_eq_true', List.any_eq_false]
 intro y hy
 rw [← List.map_take] at hy
 obtain ⟨z, hz, rfl⟩ := List.mem_map.1 hy
 obtain ⟨j, hj, rfl⟩ := List.mem_iff_getElem.1 hz
 rw [List.length_take] at hj
 rw [List.getElem_take]
 have hlt := List.pairwise_iff_getElem.1 hp j i (by omega) hi' (by omega)
 have h2 := in_good (h _ (List.getElem_mem (show j < l.length by omega)))
 rw [oeq_ne (by rw [h2.2.2, hg.2.2]; omega)]
 decide
theorem out_ok (v : Int) : scB (outS v 1).f1 = true := rfl
/-- What is made of inputs that are alike. -/
theorem make_good {D : Int} (hD : 0 ≤ D ∧ D ≤ 1000000) {l : List S90} (h : ∀ x ∈ l, Good D x) (hp : l.Pairwise (fun a b => I90.nn a < I90.nn b)) (h1 : 1 ≤ l.length) (h2 : l.length ≤ 100) {r : Int} (hr : 253 ≤ r ∧ r ≤ 120772) :
 ∃ fee v, makeC I90 l r 1 = some ⟨l.map I90.inS, [outS v 1], lockV I90 l, fee, r⟩ := by
 have hne : l ≠ [] := by intro e; subst e; simp at h1
 have hck : (l.all fun x => chkC I90 x == 0) = true := by rw [List.all_eq_true]; intro x hx; rw [chk_good hD (h x hx)]; rfl
 have hval : ∀ x ∈ l, I90.value x = 100000 := fun x hx => by obtain ⟨n, lo, wa, rfl, _⟩ := h x hx; rfl
 have htot : totS 0 (l.map I90.value) = (100000 * (l.length : Int), 0) := by
  have := tot_all (l.map I90.value) 0 (fun a ha => by obtain ⟨x, hx, rfl⟩ := List.mem_map.1 ha; rw [hval x hx]; omega) (by omega) (by rw [sum_const 100000 l hval]; omega)
  rw [this, sum_const 100000 l hval]
  congr 1
  omega
 have hw : weightV (l.map I90.inS) 1 = 176 + 238 * (l.length : Int) := by
  unfold weightV
  rw [wits_one _ (fun x hx => by obtain ⟨y, hy, rfl⟩ := List.mem_map.1 hx; exact (in_good (h y hy)).2.1), List.length_map]
  omega
 obtain ⟨m, hm⟩ : ∃ m : Int, (l.length : Int) = m := ⟨_, rfl⟩
 have hm1 : 1 ≤ m := by omega
 have hm2 : m ≤ 100 := by omega
 have hprod : 0 ≤ (176 + 238 * m) * r ∧ (176 + 238 * m) * r ≤ 50000000 * m := by
  refine ⟨Int.mul_nonneg (by omega) (by omega), ?_⟩
  have a1 : (176 + 238 * m) * r ≤ (414 * m) * r := Int.mul_le_mul_of_nonneg_right (by omega) (by omega)
  have a2 : (414 * m) * r ≤ (414 * m) * 120772 := Int.mul_le_mul_of_nonneg_left hr.2 (by omega)
  omega
 have hfee : feeS (176 + 238 * m) r = (up ((176 + 238 * m) * r), 0) := by
  unfold feeS
  rw [if_pos ⟨by omega, by omega, by omega, by omega, by unfold up; omega⟩]
 have hup : 0 ≤ up ((176 + 238 * m) * r) ∧ up ((176 + 238 * m) * r) ≤ 50000 * m := by unfold up; omega
 generalize hF : up ((176 + 238 * m) * r) = F at hfee hup
 refine ⟨F, 100000 * m - F, ?_⟩
 unfold makeC makeV
 rw [if_neg hne, if_neg (by decide), if_neg (by rw [hck]; decide)]
 simp only []
 rw [htot, hw, hm, hfee]
 simp only []
 rw [if_neg (by decide), if_neg (by rw [bud_good l h (by omega), hm]; omega), w64' (n := 100000 * m - F) (by omega) (by omega), if_neg (by omega), if_neg]
 intro hc
 refine hc ?_
 unfold tcC chkT
 have hl := lock_good l h
 rw [if_neg (by rw [List.length_map]; simp; omega), if_neg (by simpa using hne), if_neg (by rw [insOk_good l h hp]; decide), if_neg (by simp only [List.all_cons, List.all_nil, out_ok]; decide), if_neg (by rw [decide_eq_true hl.1, decide_eq_true hl.2]; decide)]
 show (totS 0 [100000 * m - F]).2 = 0
 rw [tot_all [100000 * m - F] 0 (by simp; omega) (by omega) (by simp; omega)]
theorem fits_good {D : Int} (hD : 0 ≤ D ∧ D ≤ 1000000) {l : List S90} (h : ∀ x ∈ l, Good D x) (hp : l.Pairwise (fun a b => I90.nn a < I90.nn b)) (h1 : 1 ≤ l.length) (h2 : l.length ≤ 100) {r : Int} (hr : 253 ≤ r ∧ r ≤ 120772) (limit : Int) :
 ∃ fee v, fitsC I90 limit 1 l r = (⟨l.map I90.inS, [outS v 1], lockV I90 l, fee, r⟩, decide (176 + 238 * (l.length : Int) ≤ limit)) := by
 obtain ⟨fee, v, e⟩ := make_good hD h hp h1 h2 hr
 refine ⟨fee, v, ?_⟩
 unfold fitsC fitsV
 simp only []
 rw [show makeV I90 (chkC I90) (totS 0) tcC l r 1 = makeC I90 l r 1 from rfl, e]
 simp only [Option.getD_some, Option.isSome_some, Bool.true_and, List.length_singleton]
 have hw : weightV (l.map I90.inS) 1 = 176 + 238 * (l.length : Int) := by
  unfold weightV
  rw [wits_one _ (fun x hx => by obtain ⟨y, hy, rfl⟩ := List.mem_map.1 hx; exact (in_good (h y hy)).2.1), List.length_map]
  omega
 exact congrArg _ (decide_eq_decide.2 (by rw [hw]))
/-- As many as fit are taken, the first ones first. -/
theorem oneS_prefix {α : Type} (fit : List α → Bt × Bool) (ge : α → Bool) (l : List α) (per : Nat) (h0 : 1 ≤ per) (hge : ∀ x ∈ l, ge x = true) (hfit : ∀ W, W.Sublist l → 1 ≤ W.length → (fit W).2 = decide (W.length ≤ per)) :
 ∀ i, 1 ≤ i → i ≤ l.length → oneS fit ge l i = ⟨l.take (min i per), (l.take i).drop per, (fit (l.take (min i per))).1, true⟩ := by
 intro i h1 hi
 obtain ⟨j, rfl⟩ : ∃ j, i = j + 1 := ⟨i - 1, by omega⟩
 clear h1
 induction j with
 | zero =>
  rw [oneS_one]
  have e1 : min 1 per = 1 := by omega
  rw [e1]
  have hs := hfit (l.take 1) (List.take_sublist _ _) (by rw [List.length_take]; omega)
  rw [hs, List.length_take, decide_eq_true (by omega), List.drop_of_length_le (by rw [List.length_take]; omega)]
 | succ j ih =>
  have hj : j + 1 < l.length := by omega
  rw [oneS_succ _ _ _ _ (by omega) hj, ih (by omega)]
  unfold oneStep
  simp only []
  rw [hge _ (List.getElem_mem hj), Bool.true_and]
  by_cases hlt : j + 1 < per
  ·have e1 : min (j + 1) per = j + 1 := by omega
   have e2 : min (j + 1 + 1) per = j + 1 + 1 := by omega
   rw [e1, e2]
   have et : l.take (j + 1) ++ [l[j + 1]] = l.take (j + 1 + 1) := (List.take_succ_eq_append_getElem hj).symm
   rw [et, hfit _ (List.take_sublist _ _) (by rw [List.length_take]; omega), List.length_take, if_pos (decide_eq_true (by omega))]
   congr 1
   rw [List.drop_of_length_le (by rw [List.length_take]; omega), List.drop_of_length_le (by rw [List.length_take]; omega)]
  ·have e1 : min (j + 1) per = per := by omega
   have e2 : min (j + 1 + 1) per = per := by omega
   rw [e1, e2]
   have hsub : (l.take per ++ [l[j + 1]]).Sublist l := by
    have h3 : (l.take per ++ [l[j + 1]]).Sublist (l.take (j + 1) ++ [l[j + 1]]) := (List.Sublist.append (by
     rw [show l.take per = (l.take (j + 1)).take per by rw [List.take_take]; congr 1; omega]
     exact List.take_sublist _ _) (List.Sublist.refl _))
    rw [← List.take_succ_eq_append_getElem hj] at h3
    exact h3.trans (List.take_sublist _ _)
   rw [hfit _ hsub (by simp), List.length_append, List.length_take, List.length_singleton, if_neg (by simp; omega)]
   congr 1
   rw [List.take_succ_eq_append_getElem hj, List.drop_append_of_le_length (by rw [List.length_take]; omega)]
theorem rows_sub {D : Int} {l W : List S90} (hs : W.Sublist l) (h : ∀ x ∈ l, Good D x) : ∀ x ∈ W, Good D x := fun x hx => h x (hs.subset hx)
/-- One, of inputs that are alike. -/
theorem oneV_good {D : Int} (hD : 0 ≤ D ∧ D ≤ 1000000) {l : List S90} (h : ∀ x ∈ l, Good D x) (hp : l.Pairwise (fun a b => I90.nn a < I90.nn b)) (h1 : 1 ≤ l.length) (h2 : l.length ≤ 100) (next limit : Int) (per : Nat) (h0 : 1 ≤ per) (hper : ∀ m : Nat, 1 ≤ m → m ≤ l.length → (176 + 238 * (m : Int) ≤ limit ↔ m ≤ per)) :
 oneV (fitsC I90 limit 1) (rtC I90 next) l = ⟨l.take per, l.drop per, (fitsC I90 limit 1 (l.take per) (rate0 D next)).1, true⟩ := by
 cases l with
 | nil => simp at h1
 | cons x0 r =>
  have hr := rate0_bounds D next hD
  have h3 := oneS_prefix (fun W => fitsC I90 limit 1 W (rtC I90 next x0)) (fun x => decide (Int.tdiv (rtC I90 next x0) 2 ≤ rtC I90 next x)) (x0 :: r) per h0 (fun x hx => by
   rw [rt_good hD (h x hx), rt_good hD (h x0 List.mem_cons_self)]
   rw [Int.tdiv_eq_ediv_of_nonneg (by omega)]
   exact decide_eq_true (by omega)) (fun W hW hW1 => by
   have hle := hW.length_le
   rw [rt_good hD (h x0 List.mem_cons_self)]
   obtain ⟨fee, v, e⟩ := fits_good hD (rows_sub hW h) (hp.sublist hW) hW1 (by omega) hr limit
   simp only [e]
   exact decide_eq_decide.2 (hper _ hW1 hle)) (x0 :: r).length h1 (Nat.le_refl _)
  unfold oneV
  simp only []
  rw [h3, rt_good hD (h x0 List.mem_cons_self)]
  have e1 : (x0 :: r).take (min (x0 :: r).length per) = (x0 :: r).take per := by
   rcases Nat.le_total per (x0 :: r).length with h4 | h4
   ·rw [Nat.min_eq_right h4]
   ·rw [Nat.min_eq_left h4, List.take_length, List.take_of_length_le h4]
  rw [e1, List.take_length]
/-- All of them. -/
theorem allL_good {D : Int} (hD : 0 ≤ D ∧ D ≤ 1000000) {l : List S90} (h : ∀ x ∈ l, Good D x) (hp : l.Pairwise (fun a b => I90.nn a < I90.nn b)) (h1 : 1 ≤ l.length) (h2 : l.length ≤ 100) (next limit : Int) (per : Nat) (h0 : 1 ≤ per) (hper : ∀ m : Nat, 1 ≤ m → m ≤ l.length → (176 + 238 * (m : Int) ≤ limit ↔ m ≤ per)) (k : Nat) :
 ∃ fee v, allL (fitsC I90 limit 1) (rtC I90 next) (k + 1) l = ⟨⟨(l.take per).map I90.inS, [outS v 1], lockV I90 (l.take per)⟩, fee, rate0 D next⟩ :: allL (fitsC I90 limit 1) (rtC I90 next) k (l.drop per) := by
 have hW : (l.take per).Sublist l := List.take_sublist _ _
 obtain ⟨fee, v, e⟩ := fits_good hD (rows_sub hW h) (hp.sublist hW) (by rw [List.length_take]; omega) (by rw [List.length_take]; omega) (rate0_bounds D next hD) limit
 refine ⟨fee, v, ?_⟩
 have h3 := oneV_good hD h hp h1 h2 next limit per h0 hper
 cases l with
 | nil => simp at h1
 | cons x0 r =>
  have e0 : allL (fitsC I90 limit 1) (rtC I90 next) (k + 1) (x0 :: r) = if (oneV (fitsC I90 limit 1) (rtC I90 next) (x0 :: r)).ok = true then (oneV (fitsC I90 limit 1) (rtC I90 next) (x0 :: r)).b.to :: allL (fitsC I90 limit 1) (rtC I90 next) k (oneV (fitsC I90 limit 1) (rtC I90 next) (x0 :: r)).L else allL (fitsC I90 limit 1) (rtC I90 next) k (oneV (fitsC I90 limit 1) (rtC I90 next) (x0 :: r)).L := rfl
  rw [e0, h3]
  simp only [if_true]
  rw [e]
  rfl
/-! ### order, keys -/
theorem sortV_id {α : Type} {c : α → α → Int} (l : List α) (h : l.Pairwise (fun a b => ¬ c b a < 0)) : sortV c l = l := by
 have key : ∀ (x : α) (out : List α), (∀ y ∈ out, ¬ c x y < 0) → insV c x out = out ++ [x] := by
  intro x out
  induction out with
  | nil => intro _; rfl
  | cons y out ih =>
   intro h
   unfold insV
   rw [if_neg (h y List.mem_cons_self), ih (fun z hz => h z (List.mem_cons_of_mem _ hz))]
   rfl
 unfold sortV
 have key2 : ∀ (l acc : List α), (acc ++ l).Pairwise (fun a b => ¬ c b a < 0) → l.foldl (fun out x => insV c x out) acc = acc ++ l := by
  intro l
  induction l with
  | nil => intro acc _; simp
  | cons x l ih =>
   intro acc hp
   rw [List.foldl_cons, key x acc (fun y hy => (List.pairwise_append.1 hp).2.2 y hy x List.mem_cons_self), ih (acc ++ [x]) (by rw [List.append_assoc]; exact hp), List.append_assoc]
   rfl
 have := key2 l [] (by simpa using h)
 simpa using this
theorem ripe_good {D : Int} {x : S90} (h : Good D x) (next : Int) : ripe (I90.wait x) (I90.lock x) (I90.conf x) next = decide (max (max (I90.wait x) 1) (I90.lock x) ≤ next) := by
 obtain ⟨n, lo, wa, rfl, _, hlo, hwa⟩ := h
 unfold ripe ripens held
 show decide (min (max (max (max ((min (max 0 0) 1099511627776 : Int) + min (max wa 0) 1099511627776) (min (max 0 0) 1099511627776 + 1)) (min (max lo 0) 1099511627776)) 0) 1099511627776 ≤ next) = decide (max (max wa 1) lo ≤ next)
 congr 1
 have : min (max (max (max ((min (max 0 0) 1099511627776 : Int) + min (max wa 0) 1099511627776) (min (max 0 0) 1099511627776 + 1)) (min (max lo 0) 1099511627776)) 0) 1099511627776 = max (max wa 1) lo := by omega
 rw [this]
theorem lcmp_self (l : List Int) : lcmp l l = 0 := by
 induction l with
 | nil => rfl
 | cons x l ih => unfold lcmp; rw [if_pos (by simp [cmp3]), ih]
theorem place_good {D : Int} {x y : S90} (hx : Good D x) (hy : Good D y) (h : I90.nn x < I90.nn y) : ¬ placeI I90 y x < 0 := by
 obtain ⟨n, lo, wa, rfl, _⟩ := hx
 obtain ⟨n', lo', wa', rfl, _⟩ := hy
 have hn : n < n' := h
 have e : ∀ a b c d e' f, ocmp I90.bs I90.nn (mkx D a b c) (mkx D d e' f) = cmp3 a d := by
  intro a b c d e' f
  have eb : I90.bs (mkx D a b c) = I90.bs (mkx D d e' f) := rfl
  unfold ocmp
  rw [eb, if_pos (lcmp_self _)]
  rfl
 have c1 : cmp3 n' n = 1 := by unfold cmp3; rw [if_neg (by omega), if_pos hn]
 have c2 : cmp3 n n' = -1 := by unfold cmp3; rw [if_pos hn]
 unfold placeI
 rw [e, e, c1, c2]
 decide
theorem cmp_good {D : Int} (hD : 0 ≤ D ∧ D ≤ 1000000) {x y : S90} (hx : Good D x) (hy : Good D y) (h : I90.nn x < I90.nn y) (next : Int) : ¬ cmpR I90 (rtC I90 next) y x < 0 := by
 unfold cmpR
 rw [rt_good hD hx, rt_good hD hy]
 have e1 : cmpI (rate0 D next) (rate0 D next) = 0 := by unfold cmpI; split <;> omega
 have e2 : cmpI (I90.dl y) (I90.dl x) = 0 := by
  obtain ⟨n, lo, wa, rfl, _⟩ := hx
  obtain ⟨n', lo', wa', rfl, _⟩ := hy
  show cmpI D D = 0
  unfold cmpI; split <;> omega
 rw [e1, e2]
 have := place_good hx hy h
 unfold orV
 rw [if_pos rfl]
 unfold orV
 rw [if_pos rfl]
 unfold orV
 split
 ·simp [orV]
 ·exact this
theorem order_good {D : Int} (hD : 0 ≤ D ∧ D ≤ 1000000) {l : List S90} (h : ∀ x ∈ l, Good D x) (hp : l.Pairwise (fun a b => I90.nn a < I90.nn b)) (next : Int) : orderC I90 l next = l.filter fun x => decide (max (max (I90.wait x) 1) (I90.lock x) ≤ next) := by
 have e : (l.filter fun y => !out1 I90 (chkC I90) next y) = l.filter fun x => decide (max (max (I90.wait x) 1) (I90.lock x) ≤ next) := by
  refine List.filter_congr fun x hx => ?_
  unfold out1
  rw [if_pos (chk_good hD (h x hx)), ripe_good (h x hx), Bool.not_not]
 unfold orderC orderV
 rw [e]
 refine sortV_id _ ?_
 have hs := List.filter_sublist (l := l) (p := fun x => decide (max (max (I90.wait x) 1) (I90.lock x) ≤ next))
 refine (hp.sublist hs).imp_of_mem fun ha hb hab => ?_
 exact cmp_good hD (h _ (hs.subset ha)) (h _ (hs.subset hb)) hab next
theorem met_nodup (l : List S90) (hp : l.Pairwise (fun a b => (I90.bs a, I90.nn a) ≠ (I90.bs b, I90.nn b))) : metV I90 l = l.map fun x => (I90.bs x, I90.nn x) := by
 induction l using snoc_ind with
 | h0 => rfl
 | h1 l x ih =>
  have h2 := List.pairwise_append.1 hp
  rw [metV_snoc, ih h2.1, if_neg, List.map_append]
  ·rfl
  ·intro hm
   obtain ⟨y, hy, e⟩ := List.mem_map.1 hm
   exact h2.2.2 y hy x (by simp) e
theorem twice_nodup (l : List S90) (hp : l.Pairwise (fun a b => (I90.bs a, I90.nn a) ≠ (I90.bs b, I90.nn b))) : twiceV I90 l = false := by
 unfold twiceV
 rw [met_nodup l hp, List.length_map]
 exact decide_eq_false (by omega)
theorem all_good {D : Int} (hD : 0 ≤ D ∧ D ≤ 1000000) {l : List S90} (h : ∀ x ∈ l, Good D x) (hp : l.Pairwise (fun a b => I90.nn a < I90.nn b)) (h2 : l.length ≤ 100) (next limit : Int) (hn : 0 ≤ next ∧ next ≤ 1000000) (hlm : 1 ≤ limit ∧ limit ≤ 400000) :
 allC I90 l next limit 1 = (allL (fitsC I90 limit 1) (rtC I90 next) l.length (l.filter fun x => decide (max (max (I90.wait x) 1) (I90.lock x) ≤ next)), 0) := by
 unfold allC allV
 rw [wiB_true hn, wiB_true hlm, if_neg (by decide), if_neg (by omega), twice_nodup l (hp.imp fun hab e => by have := congrArg Prod.snd e; simp only [] at this; omega), if_neg (by decide)]
 rw [show orderV I90 (chkC I90) (rtC I90 next) next l = orderC I90 l next from rfl, order_good hD h hp]
theorem key_good {D : Int} {l : List S90} (h : ∀ x ∈ l, Good D x) : l.all keyB = true := by
 rw [List.all_eq_true]
 intro x hx
 obtain ⟨n, lo, wa, rfl, hn, _⟩ := h x hx
 unfold keyB
 show (([0, 0, 0, 0, 0, 0, 0, 0, 0, 0, 0, 0, 0, 0, 0, 0, 0, 0, 0, 0, 0, 0, 0, 0, 0, 0, 0, 0, 0, 0, 0, 0] : List Int).all _ && (decide (-9223372036854775808 ≤ n) && decide (n ≤ 9223372036854775807))) = true
 rw [decide_eq_true (by omega : -9223372036854775808 ≤ n), decide_eq_true (by omega : n ≤ 9223372036854775807)]
 decide
end Go.Proofs.Ytiodebjjbgcbhaa.Pure
