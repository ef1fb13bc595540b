/- What the law's own made and one tell, in letters. -/
import Derived.KernelRfl
import Derived.Test.YtiodebjjbgcbhaaInpT
namespace Go.Proofs.Ytiodebjjbgcbhaa.Inp
open Go.RowKit Go.Sort Go.Lib Go.Shelf Go.Proofs.Ytiodebjjbgcbhaa Go.Proofs.Ytiodebjjbgcbhaa.Hand Go.Proofs.YtiodebjjbgcbhaaW.PrintWords Go.Proofs.YtiodebjjbgcbhaaW.PrintLast Go.Proofs.YtiodebjjbgcbhaaW.PrintMore Go.Proofs.Ytiodebjjbgcbhaa.RowK Go.Proofs.Ytiodebjjbgcbhaa.Fill Go.Proofs.Ytiodebjjbgcbhaa.OrdO Go.Proofs.Ytiodebjjbgcbhaa.QLef Go.Proofs.Ytiodebjjbgcbhaa.LefL
attribute [local go_sem ↓ high] Wide.hv44 Wide.hv33 Wide.hv37
set_option linter.unusedVariables false
set_option linter.unusedSectionVars false
set_option linter.unusedSimpArgs false
variable {α : Type}
def J68 : Spec S68 where
 bs x := [x.f0.f0.f0, x.f0.f0.f1, x.f0.f0.f2, x.f0.f0.f3, x.f0.f0.f4, x.f0.f0.f5, x.f0.f0.f6, x.f0.f0.f7, x.f0.f0.f8, x.f0.f0.f9, x.f0.f0.f10, x.f0.f0.f11, x.f0.f0.f12, x.f0.f0.f13, x.f0.f0.f14, x.f0.f0.f15, x.f0.f0.f16, x.f0.f0.f17, x.f0.f0.f18, x.f0.f0.f19, x.f0.f0.f20, x.f0.f0.f21, x.f0.f0.f22, x.f0.f0.f23, x.f0.f0.f24, x.f0.f0.f25, x.f0.f0.f26, x.f0.f0.f27, x.f0.f0.f28, x.f0.f0.f29, x.f0.f0.f30, x.f0.f0.f31]
 nn x := x.f0.f1
 value x := x.f1
 kind x := x.f2.f0.f0
 key x := x.f2.f0.f1
 pre x := x.f2.f0.f2
 seq x := x.f2.f1
 lock x := x.f2.f2
 wait x := x.f2.f3
 conf x := x.f3
 since x := x.f4
 dl x := x.f5
 budget x := x.f6
 hbs _ := rfl
def to90 (x : S68) : S90 := ⟨x.f0, x.f1, ⟨x.f2.f0, x.f2.f1, x.f2.f2, x.f2.f3⟩, x.f3, x.f4, x.f5, x.f6⟩
theorem enc_to90 (x : S68) : I90.enc (to90 x) = J68.enc x := rfl
set_option maxHeartbeats 8000000 in
set_option maxRecDepth 100000 in
/-- coraclelaw17.made hands on all cells. -/
theorem made_calls (I : Spec α) (x : α) (w : World) : Calls Try.prog 43 #[.agg (I.enc x).toArray] w fun e w' => e = .returned (.agg (I.enc x).toArray) ∧ Below w.heap.size w w' := by
 have hx := I.hk x
 have tx := I.take_pt x
 have lx := I.hpt x
 have hh := I.h1 x
 have a0 : (I.enc x)[33]? = some (.int .i64 (I.value x)) := I.at_ x 0
 have a1 : (I.enc x)[34]? = some (.int .i64 (I.kind x)) := I.at_ x 1
 have a2 : (I.enc x)[35]? = some (.int .i64 (I.key x)) := I.at_ x 2
 have a3 : (I.enc x)[36]? = some (.string (I.pre x)) := I.at_ x 3
 have a4 : (I.enc x)[37]? = some (.int .i64 (I.seq x)) := I.at_ x 4
 have a5 : (I.enc x)[38]? = some (.int .i64 (I.lock x)) := I.at_ x 5
 have a6 : (I.enc x)[39]? = some (.int .i64 (I.wait x)) := I.at_ x 6
 have a7 : (I.enc x)[40]? = some (.int .i64 (I.conf x)) := I.at_ x 7
 have a8 : (I.enc x)[41]? = some (.int .i64 (I.since x)) := I.at_ x 8
 have a9 : (I.enc x)[42]? = some (.int .i64 (I.dl x)) := I.at_ x 9
 have a10 : (I.enc x)[43]? = some (.int .i64 (I.budget x)) := I.at_ x 10
 have hspl : I.enc x = I.pt x ++ ([.int .i64 (I.value x), .int .i64 (I.kind x), .int .i64 (I.key x), .string (I.pre x), .int .i64 (I.seq x), .int .i64 (I.lock x), .int .i64 (I.wait x), .int .i64 (I.conf x), .int .i64 (I.since x), .int .i64 (I.dl x), .int .i64 (I.budget x)] : List Value) := rfl
 generalize I.pt x = px at tx lx hspl
 generalize I.enc x = cx at hx tx hh hspl a0 a1 a2 a3 a4 a5 a6 a7 a8 a9 a10 ⊢
 generalize I.value x = n0 at a0 hspl
 generalize I.kind x = n1 at a1 hspl
 generalize I.key x = n2 at a2 hspl
 generalize I.pre x = n3 at a3 hspl
 generalize I.seq x = n4 at a4 hspl
 generalize I.lock x = n5 at a5 hspl
 generalize I.wait x = n6 at a6 hspl
 generalize I.conf x = n7 at a7 hspl
 generalize I.since x = n8 at a8 hspl
 generalize I.dl x = n9 at a9 hspl
 generalize I.budget x = n10 at a10 hspl
 obtain ⟨u0, u1, u2, u3, u4, u5, u6, u7, u8, u9, u10, u11, u12, u13, u14, u15, u16, u17, u18, u19, u20, u21, u22, u23, u24, u25, u26, u27, u28, u29, u30, u31, u32, rfl⟩ := list33 lx
 have hcx : cx = [u0, u1, u2, u3, u4, u5, u6, u7, u8, u9, u10, u11, u12, u13, u14, u15, u16, u17, u18, u19, u20, u21, u22, u23, u24, u25, u26, u27, u28, u29, u30, u31, u32, Value.int IntKind.i64 n0, Value.int IntKind.i64 n1, Value.int IntKind.i64 n2, Value.string n3, Value.int IntKind.i64 n4, Value.int IntKind.i64 n5, Value.int IntKind.i64 n6, Value.int IntKind.i64 n7, Value.int IntKind.i64 n8, Value.int IntKind.i64 n9, Value.int IntKind.i64 n10] := hspl
 clear hspl
 have hbx : (((w.alloc (.cells cx.toArray 68)).alloc (.cells #[Value.int IntKind.u8 0, Value.int IntKind.u8 0, Value.int IntKind.u8 0, Value.int IntKind.u8 0, Value.int IntKind.u8 0, Value.int IntKind.u8 0, Value.int IntKind.u8 0, Value.int IntKind.u8 0, Value.int IntKind.u8 0, Value.int IntKind.u8 0, Value.int IntKind.u8 0, Value.int IntKind.u8 0, Value.int IntKind.u8 0, Value.int IntKind.u8 0, Value.int IntKind.u8 0, Value.int IntKind.u8 0, Value.int IntKind.u8 0, Value.int IntKind.u8 0, Value.int IntKind.u8 0, Value.int IntKind.u8 0, Value.int IntKind.u8 0, Value.int IntKind.u8 0, Value.int IntKind.u8 0, Value.int IntKind.u8 0, Value.int IntKind.u8 0, Value.int IntKind.u8 0, Value.int IntKind.u8 0, Value.int IntKind.u8 0, Value.int IntKind.u8 0, Value.int IntKind.u8 0, Value.int IntKind.u8 0, Value.int IntKind.u8 0, Value.int IntKind.i64 0, Value.int IntKind.i64 0, Value.int IntKind.i64 0, Value.int IntKind.i64 0, Value.string { data := #[] }, Value.int IntKind.i64 0, Value.int IntKind.i64 0, Value.int IntKind.i64 0, Value.int IntKind.i64 0, Value.int IntKind.i64 0, Value.int IntKind.i64 0, Value.int IntKind.i64 0] 90))).heap[w.heap.size]? = some (.cells cx.toArray 68 (0, 0)) := (Below.heap_alloc _ _ _ (by simp)).trans (blk_new w _)
 have hl1 : Sem.run Try.prog (Wide.heavy0 ⟨w.heap.size, 0, none⟩ 33) (((w.alloc (.cells cx.toArray 68)).alloc (.cells #[Value.int IntKind.u8 0, Value.int IntKind.u8 0, Value.int IntKind.u8 0, Value.int IntKind.u8 0, Value.int IntKind.u8 0, Value.int IntKind.u8 0, Value.int IntKind.u8 0, Value.int IntKind.u8 0, Value.int IntKind.u8 0, Value.int IntKind.u8 0, Value.int IntKind.u8 0, Value.int IntKind.u8 0, Value.int IntKind.u8 0, Value.int IntKind.u8 0, Value.int IntKind.u8 0, Value.int IntKind.u8 0, Value.int IntKind.u8 0, Value.int IntKind.u8 0, Value.int IntKind.u8 0, Value.int IntKind.u8 0, Value.int IntKind.u8 0, Value.int IntKind.u8 0, Value.int IntKind.u8 0, Value.int IntKind.u8 0, Value.int IntKind.u8 0, Value.int IntKind.u8 0, Value.int IntKind.u8 0, Value.int IntKind.u8 0, Value.int IntKind.u8 0, Value.int IntKind.u8 0, Value.int IntKind.u8 0, Value.int IntKind.u8 0, Value.int IntKind.i64 0, Value.int IntKind.i64 0, Value.int IntKind.i64 0, Value.int IntKind.i64 0, Value.string { data := #[] }, Value.int IntKind.i64 0, Value.int IntKind.i64 0, Value.int IntKind.i64 0, Value.int IntKind.i64 0, Value.int IntKind.i64 0, Value.int IntKind.i64 0, Value.int IntKind.i64 0] 90))) = .ok #[u0, u1, u2, u3, u4, u5, u6, u7, u8, u9, u10, u11, u12, u13, u14, u15, u16, u17, u18, u19, u20, u21, u22, u23, u24, u25, u26, u27, u28, u29, u30, u31, u32] _ := row_load hbx 0 33 _ lx (by rw [List.drop_zero]; exact tx)
 have k33 : (((w.alloc (.cells cx.toArray 68)).alloc (.cells #[Value.int IntKind.u8 0, Value.int IntKind.u8 0, Value.int IntKind.u8 0, Value.int IntKind.u8 0, Value.int IntKind.u8 0, Value.int IntKind.u8 0, Value.int IntKind.u8 0, Value.int IntKind.u8 0, Value.int IntKind.u8 0, Value.int IntKind.u8 0, Value.int IntKind.u8 0, Value.int IntKind.u8 0, Value.int IntKind.u8 0, Value.int IntKind.u8 0, Value.int IntKind.u8 0, Value.int IntKind.u8 0, Value.int IntKind.u8 0, Value.int IntKind.u8 0, Value.int IntKind.u8 0, Value.int IntKind.u8 0, Value.int IntKind.u8 0, Value.int IntKind.u8 0, Value.int IntKind.u8 0, Value.int IntKind.u8 0, Value.int IntKind.u8 0, Value.int IntKind.u8 0, Value.int IntKind.u8 0, Value.int IntKind.u8 0, Value.int IntKind.u8 0, Value.int IntKind.u8 0, Value.int IntKind.u8 0, Value.int IntKind.u8 0, Value.int IntKind.i64 0, Value.int IntKind.i64 0, Value.int IntKind.i64 0, Value.int IntKind.i64 0, Value.string { data := #[] }, Value.int IntKind.i64 0, Value.int IntKind.i64 0, Value.int IntKind.i64 0, Value.int IntKind.i64 0, Value.int IntKind.i64 0, Value.int IntKind.i64 0, Value.int IntKind.i64 0] 90))).cell? ⟨w.heap.size, 33, none⟩ = _ := (blk_cell hbx 33).trans (by simpa using a0)
 have k34 : (((w.alloc (.cells cx.toArray 68)).alloc (.cells #[Value.int IntKind.u8 0, Value.int IntKind.u8 0, Value.int IntKind.u8 0, Value.int IntKind.u8 0, Value.int IntKind.u8 0, Value.int IntKind.u8 0, Value.int IntKind.u8 0, Value.int IntKind.u8 0, Value.int IntKind.u8 0, Value.int IntKind.u8 0, Value.int IntKind.u8 0, Value.int IntKind.u8 0, Value.int IntKind.u8 0, Value.int IntKind.u8 0, Value.int IntKind.u8 0, Value.int IntKind.u8 0, Value.int IntKind.u8 0, Value.int IntKind.u8 0, Value.int IntKind.u8 0, Value.int IntKind.u8 0, Value.int IntKind.u8 0, Value.int IntKind.u8 0, Value.int IntKind.u8 0, Value.int IntKind.u8 0, Value.int IntKind.u8 0, Value.int IntKind.u8 0, Value.int IntKind.u8 0, Value.int IntKind.u8 0, Value.int IntKind.u8 0, Value.int IntKind.u8 0, Value.int IntKind.u8 0, Value.int IntKind.u8 0, Value.int IntKind.i64 0, Value.int IntKind.i64 0, Value.int IntKind.i64 0, Value.int IntKind.i64 0, Value.string { data := #[] }, Value.int IntKind.i64 0, Value.int IntKind.i64 0, Value.int IntKind.i64 0, Value.int IntKind.i64 0, Value.int IntKind.i64 0, Value.int IntKind.i64 0, Value.int IntKind.i64 0] 90))).cell? ⟨w.heap.size, 34, none⟩ = _ := (blk_cell hbx 34).trans (by simpa using a1)
 have k35 : (((w.alloc (.cells cx.toArray 68)).alloc (.cells #[Value.int IntKind.u8 0, Value.int IntKind.u8 0, Value.int IntKind.u8 0, Value.int IntKind.u8 0, Value.int IntKind.u8 0, Value.int IntKind.u8 0, Value.int IntKind.u8 0, Value.int IntKind.u8 0, Value.int IntKind.u8 0, Value.int IntKind.u8 0, Value.int IntKind.u8 0, Value.int IntKind.u8 0, Value.int IntKind.u8 0, Value.int IntKind.u8 0, Value.int IntKind.u8 0, Value.int IntKind.u8 0, Value.int IntKind.u8 0, Value.int IntKind.u8 0, Value.int IntKind.u8 0, Value.int IntKind.u8 0, Value.int IntKind.u8 0, Value.int IntKind.u8 0, Value.int IntKind.u8 0, Value.int IntKind.u8 0, Value.int IntKind.u8 0, Value.int IntKind.u8 0, Value.int IntKind.u8 0, Value.int IntKind.u8 0, Value.int IntKind.u8 0, Value.int IntKind.u8 0, Value.int IntKind.u8 0, Value.int IntKind.u8 0, Value.int IntKind.i64 0, Value.int IntKind.i64 0, Value.int IntKind.i64 0, Value.int IntKind.i64 0, Value.string { data := #[] }, Value.int IntKind.i64 0, Value.int IntKind.i64 0, Value.int IntKind.i64 0, Value.int IntKind.i64 0, Value.int IntKind.i64 0, Value.int IntKind.i64 0, Value.int IntKind.i64 0] 90))).cell? ⟨w.heap.size, 35, none⟩ = _ := (blk_cell hbx 35).trans (by simpa using a2)
 have k36 : (((w.alloc (.cells cx.toArray 68)).alloc (.cells #[Value.int IntKind.u8 0, Value.int IntKind.u8 0, Value.int IntKind.u8 0, Value.int IntKind.u8 0, Value.int IntKind.u8 0, Value.int IntKind.u8 0, Value.int IntKind.u8 0, Value.int IntKind.u8 0, Value.int IntKind.u8 0, Value.int IntKind.u8 0, Value.int IntKind.u8 0, Value.int IntKind.u8 0, Value.int IntKind.u8 0, Value.int IntKind.u8 0, Value.int IntKind.u8 0, Value.int IntKind.u8 0, Value.int IntKind.u8 0, Value.int IntKind.u8 0, Value.int IntKind.u8 0, Value.int IntKind.u8 0, Value.int IntKind.u8 0, Value.int IntKind.u8 0, Value.int IntKind.u8 0, Value.int IntKind.u8 0, Value.int IntKind.u8 0, Value.int IntKind.u8 0, Value.int IntKind.u8 0, Value.int IntKind.u8 0, Value.int IntKind.u8 0, Value.int IntKind.u8 0, Value.int IntKind.u8 0, Value.int IntKind.u8 0, Value.int IntKind.i64 0, Value.int IntKind.i64 0, Value.int IntKind.i64 0, Value.int IntKind.i64 0, Value.string { data := #[] }, Value.int IntKind.i64 0, Value.int IntKind.i64 0, Value.int IntKind.i64 0, Value.int IntKind.i64 0, Value.int IntKind.i64 0, Value.int IntKind.i64 0, Value.int IntKind.i64 0] 90))).cell? ⟨w.heap.size, 36, none⟩ = _ := (blk_cell hbx 36).trans (by simpa using a3)
 have k37 : (((w.alloc (.cells cx.toArray 68)).alloc (.cells #[Value.int IntKind.u8 0, Value.int IntKind.u8 0, Value.int IntKind.u8 0, Value.int IntKind.u8 0, Value.int IntKind.u8 0, Value.int IntKind.u8 0, Value.int IntKind.u8 0, Value.int IntKind.u8 0, Value.int IntKind.u8 0, Value.int IntKind.u8 0, Value.int IntKind.u8 0, Value.int IntKind.u8 0, Value.int IntKind.u8 0, Value.int IntKind.u8 0, Value.int IntKind.u8 0, Value.int IntKind.u8 0, Value.int IntKind.u8 0, Value.int IntKind.u8 0, Value.int IntKind.u8 0, Value.int IntKind.u8 0, Value.int IntKind.u8 0, Value.int IntKind.u8 0, Value.int IntKind.u8 0, Value.int IntKind.u8 0, Value.int IntKind.u8 0, Value.int IntKind.u8 0, Value.int IntKind.u8 0, Value.int IntKind.u8 0, Value.int IntKind.u8 0, Value.int IntKind.u8 0, Value.int IntKind.u8 0, Value.int IntKind.u8 0, Value.int IntKind.i64 0, Value.int IntKind.i64 0, Value.int IntKind.i64 0, Value.int IntKind.i64 0, Value.string { data := #[] }, Value.int IntKind.i64 0, Value.int IntKind.i64 0, Value.int IntKind.i64 0, Value.int IntKind.i64 0, Value.int IntKind.i64 0, Value.int IntKind.i64 0, Value.int IntKind.i64 0] 90))).cell? ⟨w.heap.size, 37, none⟩ = _ := (blk_cell hbx 37).trans (by simpa using a4)
 have k38 : (((w.alloc (.cells cx.toArray 68)).alloc (.cells #[Value.int IntKind.u8 0, Value.int IntKind.u8 0, Value.int IntKind.u8 0, Value.int IntKind.u8 0, Value.int IntKind.u8 0, Value.int IntKind.u8 0, Value.int IntKind.u8 0, Value.int IntKind.u8 0, Value.int IntKind.u8 0, Value.int IntKind.u8 0, Value.int IntKind.u8 0, Value.int IntKind.u8 0, Value.int IntKind.u8 0, Value.int IntKind.u8 0, Value.int IntKind.u8 0, Value.int IntKind.u8 0, Value.int IntKind.u8 0, Value.int IntKind.u8 0, Value.int IntKind.u8 0, Value.int IntKind.u8 0, Value.int IntKind.u8 0, Value.int IntKind.u8 0, Value.int IntKind.u8 0, Value.int IntKind.u8 0, Value.int IntKind.u8 0, Value.int IntKind.u8 0, Value.int IntKind.u8 0, Value.int IntKind.u8 0, Value.int IntKind.u8 0, Value.int IntKind.u8 0, Value.int IntKind.u8 0, Value.int IntKind.u8 0, Value.int IntKind.i64 0, Value.int IntKind.i64 0, Value.int IntKind.i64 0, Value.int IntKind.i64 0, Value.string { data := #[] }, Value.int IntKind.i64 0, Value.int IntKind.i64 0, Value.int IntKind.i64 0, Value.int IntKind.i64 0, Value.int IntKind.i64 0, Value.int IntKind.i64 0, Value.int IntKind.i64 0] 90))).cell? ⟨w.heap.size, 38, none⟩ = _ := (blk_cell hbx 38).trans (by simpa using a5)
 have k39 : (((w.alloc (.cells cx.toArray 68)).alloc (.cells #[Value.int IntKind.u8 0, Value.int IntKind.u8 0, Value.int IntKind.u8 0, Value.int IntKind.u8 0, Value.int IntKind.u8 0, Value.int IntKind.u8 0, Value.int IntKind.u8 0, Value.int IntKind.u8 0, Value.int IntKind.u8 0, Value.int IntKind.u8 0, Value.int IntKind.u8 0, Value.int IntKind.u8 0, Value.int IntKind.u8 0, Value.int IntKind.u8 0, Value.int IntKind.u8 0, Value.int IntKind.u8 0, Value.int IntKind.u8 0, Value.int IntKind.u8 0, Value.int IntKind.u8 0, Value.int IntKind.u8 0, Value.int IntKind.u8 0, Value.int IntKind.u8 0, Value.int IntKind.u8 0, Value.int IntKind.u8 0, Value.int IntKind.u8 0, Value.int IntKind.u8 0, Value.int IntKind.u8 0, Value.int IntKind.u8 0, Value.int IntKind.u8 0, Value.int IntKind.u8 0, Value.int IntKind.u8 0, Value.int IntKind.u8 0, Value.int IntKind.i64 0, Value.int IntKind.i64 0, Value.int IntKind.i64 0, Value.int IntKind.i64 0, Value.string { data := #[] }, Value.int IntKind.i64 0, Value.int IntKind.i64 0, Value.int IntKind.i64 0, Value.int IntKind.i64 0, Value.int IntKind.i64 0, Value.int IntKind.i64 0, Value.int IntKind.i64 0] 90))).cell? ⟨w.heap.size, 39, none⟩ = _ := (blk_cell hbx 39).trans (by simpa using a6)
 have k40 : (((w.alloc (.cells cx.toArray 68)).alloc (.cells #[Value.int IntKind.u8 0, Value.int IntKind.u8 0, Value.int IntKind.u8 0, Value.int IntKind.u8 0, Value.int IntKind.u8 0, Value.int IntKind.u8 0, Value.int IntKind.u8 0, Value.int IntKind.u8 0, Value.int IntKind.u8 0, Value.int IntKind.u8 0, Value.int IntKind.u8 0, Value.int IntKind.u8 0, Value.int IntKind.u8 0, Value.int IntKind.u8 0, Value.int IntKind.u8 0, Value.int IntKind.u8 0, Value.int IntKind.u8 0, Value.int IntKind.u8 0, Value.int IntKind.u8 0, Value.int IntKind.u8 0, Value.int IntKind.u8 0, Value.int IntKind.u8 0, Value.int IntKind.u8 0, Value.int IntKind.u8 0, Value.int IntKind.u8 0, Value.int IntKind.u8 0, Value.int IntKind.u8 0, Value.int IntKind.u8 0, Value.int IntKind.u8 0, Value.int IntKind.u8 0, Value.int IntKind.u8 0, Value.int IntKind.u8 0, Value.int IntKind.i64 0, Value.int IntKind.i64 0, Value.int IntKind.i64 0, Value.int IntKind.i64 0, Value.string { data := #[] }, Value.int IntKind.i64 0, Value.int IntKind.i64 0, Value.int IntKind.i64 0, Value.int IntKind.i64 0, Value.int IntKind.i64 0, Value.int IntKind.i64 0, Value.int IntKind.i64 0] 90))).cell? ⟨w.heap.size, 40, none⟩ = _ := (blk_cell hbx 40).trans (by simpa using a7)
 have k41 : (((w.alloc (.cells cx.toArray 68)).alloc (.cells #[Value.int IntKind.u8 0, Value.int IntKind.u8 0, Value.int IntKind.u8 0, Value.int IntKind.u8 0, Value.int IntKind.u8 0, Value.int IntKind.u8 0, Value.int IntKind.u8 0, Value.int IntKind.u8 0, Value.int IntKind.u8 0, Value.int IntKind.u8 0, Value.int IntKind.u8 0, Value.int IntKind.u8 0, Value.int IntKind.u8 0, Value.int IntKind.u8 0, Value.int IntKind.u8 0, Value.int IntKind.u8 0, Value.int IntKind.u8 0, Value.int IntKind.u8 0, Value.int IntKind.u8 0, Value.int IntKind.u8 0, Value.int IntKind.u8 0, Value.int IntKind.u8 0, Value.int IntKind.u8 0, Value.int IntKind.u8 0, Value.int IntKind.u8 0, Value.int IntKind.u8 0, Value.int IntKind.u8 0, Value.int IntKind.u8 0, Value.int IntKind.u8 0, Value.int IntKind.u8 0, Value.int IntKind.u8 0, Value.int IntKind.u8 0, Value.int IntKind.i64 0, Value.int IntKind.i64 0, Value.int IntKind.i64 0, Value.int IntKind.i64 0, Value.string { data := #[] }, Value.int IntKind.i64 0, Value.int IntKind.i64 0, Value.int IntKind.i64 0, Value.int IntKind.i64 0, Value.int IntKind.i64 0, Value.int IntKind.i64 0, Value.int IntKind.i64 0] 90))).cell? ⟨w.heap.size, 41, none⟩ = _ := (blk_cell hbx 41).trans (by simpa using a8)
 have k42 : (((w.alloc (.cells cx.toArray 68)).alloc (.cells #[Value.int IntKind.u8 0, Value.int IntKind.u8 0, Value.int IntKind.u8 0, Value.int IntKind.u8 0, Value.int IntKind.u8 0, Value.int IntKind.u8 0, Value.int IntKind.u8 0, Value.int IntKind.u8 0, Value.int IntKind.u8 0, Value.int IntKind.u8 0, Value.int IntKind.u8 0, Value.int IntKind.u8 0, Value.int IntKind.u8 0, Value.int IntKind.u8 0, Value.int IntKind.u8 0, Value.int IntKind.u8 0, Value.int IntKind.u8 0, Value.int IntKind.u8 0, Value.int IntKind.u8 0, Value.int IntKind.u8 0, Value.int IntKind.u8 0, Value.int IntKind.u8 0, Value.int IntKind.u8 0, Value.int IntKind.u8 0, Value.int IntKind.u8 0, Value.int IntKind.u8 0, Value.int IntKind.u8 0, Value.int IntKind.u8 0, Value.int IntKind.u8 0, Value.int IntKind.u8 0, Value.int IntKind.u8 0, Value.int IntKind.u8 0, Value.int IntKind.i64 0, Value.int IntKind.i64 0, Value.int IntKind.i64 0, Value.int IntKind.i64 0, Value.string { data := #[] }, Value.int IntKind.i64 0, Value.int IntKind.i64 0, Value.int IntKind.i64 0, Value.int IntKind.i64 0, Value.int IntKind.i64 0, Value.int IntKind.i64 0, Value.int IntKind.i64 0] 90))).cell? ⟨w.heap.size, 42, none⟩ = _ := (blk_cell hbx 42).trans (by simpa using a9)
 have k43 : (((w.alloc (.cells cx.toArray 68)).alloc (.cells #[Value.int IntKind.u8 0, Value.int IntKind.u8 0, Value.int IntKind.u8 0, Value.int IntKind.u8 0, Value.int IntKind.u8 0, Value.int IntKind.u8 0, Value.int IntKind.u8 0, Value.int IntKind.u8 0, Value.int IntKind.u8 0, Value.int IntKind.u8 0, Value.int IntKind.u8 0, Value.int IntKind.u8 0, Value.int IntKind.u8 0, Value.int IntKind.u8 0, Value.int IntKind.u8 0, Value.int IntKind.u8 0, Value.int IntKind.u8 0, Value.int IntKind.u8 0, Value.int IntKind.u8 0, Value.int IntKind.u8 0, Value.int IntKind.u8 0, Value.int IntKind.u8 0, Value.int IntKind.u8 0, Value.int IntKind.u8 0, Value.int IntKind.u8 0, Value.int IntKind.u8 0, Value.int IntKind.u8 0, Value.int IntKind.u8 0, Value.int IntKind.u8 0, Value.int IntKind.u8 0, Value.int IntKind.u8 0, Value.int IntKind.u8 0, Value.int IntKind.i64 0, Value.int IntKind.i64 0, Value.int IntKind.i64 0, Value.int IntKind.i64 0, Value.string { data := #[] }, Value.int IntKind.i64 0, Value.int IntKind.i64 0, Value.int IntKind.i64 0, Value.int IntKind.i64 0, Value.int IntKind.i64 0, Value.int IntKind.i64 0, Value.int IntKind.i64 0] 90))).cell? ⟨w.heap.size, 43, none⟩ = _ := (blk_cell hbx 43).trans (by simpa using a10)
 have hbz : (((w.alloc (.cells cx.toArray 68)).alloc (.cells #[Value.int IntKind.u8 0, Value.int IntKind.u8 0, Value.int IntKind.u8 0, Value.int IntKind.u8 0, Value.int IntKind.u8 0, Value.int IntKind.u8 0, Value.int IntKind.u8 0, Value.int IntKind.u8 0, Value.int IntKind.u8 0, Value.int IntKind.u8 0, Value.int IntKind.u8 0, Value.int IntKind.u8 0, Value.int IntKind.u8 0, Value.int IntKind.u8 0, Value.int IntKind.u8 0, Value.int IntKind.u8 0, Value.int IntKind.u8 0, Value.int IntKind.u8 0, Value.int IntKind.u8 0, Value.int IntKind.u8 0, Value.int IntKind.u8 0, Value.int IntKind.u8 0, Value.int IntKind.u8 0, Value.int IntKind.u8 0, Value.int IntKind.u8 0, Value.int IntKind.u8 0, Value.int IntKind.u8 0, Value.int IntKind.u8 0, Value.int IntKind.u8 0, Value.int IntKind.u8 0, Value.int IntKind.u8 0, Value.int IntKind.u8 0, Value.int IntKind.i64 0, Value.int IntKind.i64 0, Value.int IntKind.i64 0, Value.int IntKind.i64 0, Value.string { data := #[] }, Value.int IntKind.i64 0, Value.int IntKind.i64 0, Value.int IntKind.i64 0, Value.int IntKind.i64 0, Value.int IntKind.i64 0, Value.int IntKind.i64 0, Value.int IntKind.i64 0] 90))).heap[w.heap.size + 1]? = some (.cells #[Value.int IntKind.u8 0, Value.int IntKind.u8 0, Value.int IntKind.u8 0, Value.int IntKind.u8 0, Value.int IntKind.u8 0, Value.int IntKind.u8 0, Value.int IntKind.u8 0, Value.int IntKind.u8 0, Value.int IntKind.u8 0, Value.int IntKind.u8 0, Value.int IntKind.u8 0, Value.int IntKind.u8 0, Value.int IntKind.u8 0, Value.int IntKind.u8 0, Value.int IntKind.u8 0, Value.int IntKind.u8 0, Value.int IntKind.u8 0, Value.int IntKind.u8 0, Value.int IntKind.u8 0, Value.int IntKind.u8 0, Value.int IntKind.u8 0, Value.int IntKind.u8 0, Value.int IntKind.u8 0, Value.int IntKind.u8 0, Value.int IntKind.u8 0, Value.int IntKind.u8 0, Value.int IntKind.u8 0, Value.int IntKind.u8 0, Value.int IntKind.u8 0, Value.int IntKind.u8 0, Value.int IntKind.u8 0, Value.int IntKind.u8 0, Value.int IntKind.i64 0, Value.int IntKind.i64 0, Value.int IntKind.i64 0, Value.int IntKind.i64 0, Value.string { data := #[] }, Value.int IntKind.i64 0, Value.int IntKind.i64 0, Value.int IntKind.i64 0, Value.int IntKind.i64 0, Value.int IntKind.i64 0, Value.int IntKind.i64 0, Value.int IntKind.i64 0] 90 (0, 0)) := by
  have := blk_new (w.alloc (.cells cx.toArray 68)) (.cells #[Value.int IntKind.u8 0, Value.int IntKind.u8 0, Value.int IntKind.u8 0, Value.int IntKind.u8 0, Value.int IntKind.u8 0, Value.int IntKind.u8 0, Value.int IntKind.u8 0, Value.int IntKind.u8 0, Value.int IntKind.u8 0, Value.int IntKind.u8 0, Value.int IntKind.u8 0, Value.int IntKind.u8 0, Value.int IntKind.u8 0, Value.int IntKind.u8 0, Value.int IntKind.u8 0, Value.int IntKind.u8 0, Value.int IntKind.u8 0, Value.int IntKind.u8 0, Value.int IntKind.u8 0, Value.int IntKind.u8 0, Value.int IntKind.u8 0, Value.int IntKind.u8 0, Value.int IntKind.u8 0, Value.int IntKind.u8 0, Value.int IntKind.u8 0, Value.int IntKind.u8 0, Value.int IntKind.u8 0, Value.int IntKind.u8 0, Value.int IntKind.u8 0, Value.int IntKind.u8 0, Value.int IntKind.u8 0, Value.int IntKind.u8 0, Value.int IntKind.i64 0, Value.int IntKind.i64 0, Value.int IntKind.i64 0, Value.int IntKind.i64 0, Value.string { data := #[] }, Value.int IntKind.i64 0, Value.int IntKind.i64 0, Value.int IntKind.i64 0, Value.int IntKind.i64 0, Value.int IntKind.i64 0, Value.int IntKind.i64 0, Value.int IntKind.i64 0] 90)
  rwa [World.size_alloc] at this
 have h1 : ([u0, u1, u2, u3, u4, u5, u6, u7, u8, u9, u10, u11, u12, u13, u14, u15, u16, u17, u18, u19, u20, u21, u22, u23, u24, u25, u26, u27, u28, u29, u30, u31, u32, Value.int IntKind.i64 n0, Value.int IntKind.i64 n1, Value.int IntKind.i64 n2, Value.string n3, Value.int IntKind.i64 n4, Value.int IntKind.i64 n5, Value.int IntKind.i64 n6, Value.int IntKind.i64 n7, Value.int IntKind.i64 n8, Value.int IntKind.i64 n9, Value.int IntKind.i64 n10].toArray : Array Value).all (·.oneCell') = true := by
  rw [Array.all_eq_true_iff_forall_mem]
  intro v hv
  rw [List.mem_toArray, ← hcx] at hv
  exact hh v hv
 have HB := Aside0.mk (show Below w.heap.size w (((w.alloc (.cells cx.toArray 68)).alloc (.cells #[Value.int IntKind.u8 0, Value.int IntKind.u8 0, Value.int IntKind.u8 0, Value.int IntKind.u8 0, Value.int IntKind.u8 0, Value.int IntKind.u8 0, Value.int IntKind.u8 0, Value.int IntKind.u8 0, Value.int IntKind.u8 0, Value.int IntKind.u8 0, Value.int IntKind.u8 0, Value.int IntKind.u8 0, Value.int IntKind.u8 0, Value.int IntKind.u8 0, Value.int IntKind.u8 0, Value.int IntKind.u8 0, Value.int IntKind.u8 0, Value.int IntKind.u8 0, Value.int IntKind.u8 0, Value.int IntKind.u8 0, Value.int IntKind.u8 0, Value.int IntKind.u8 0, Value.int IntKind.u8 0, Value.int IntKind.u8 0, Value.int IntKind.u8 0, Value.int IntKind.u8 0, Value.int IntKind.u8 0, Value.int IntKind.u8 0, Value.int IntKind.u8 0, Value.int IntKind.u8 0, Value.int IntKind.u8 0, Value.int IntKind.u8 0, Value.int IntKind.i64 0, Value.int IntKind.i64 0, Value.int IntKind.i64 0, Value.int IntKind.i64 0, Value.string { data := #[] }, Value.int IntKind.i64 0, Value.int IntKind.i64 0, Value.int IntKind.i64 0, Value.int IntKind.i64 0, Value.int IntKind.i64 0, Value.int IntKind.i64 0, Value.int IntKind.i64 0] 90))) from below_alloc (below_alloc (Below.refl _ _) _) _)
 have HX := Aside0.mk (And.intro hbz h1)
 have HC := Aside0.mk hcx
 clear hbz h1 hbx lx tx hh hcx hx a0 a1 a2 a3 a4 a5 a6 a7 a8 a9 a10
 go_enter Try.func43, Try.ntmps43
 go_wp2_with (first | ((with_reducible refine gate_store (t := 90) (p := 2) rfl ?_); refine PutW.store_event ?b1 ?b2 90 (.tmp 2) (.tmp 28) ?b3 (g := w.heap.size + 1) (t := 90) (cells := #[u0, u1, u2, u3, u4, u5, u6, u7, u8, u9, u10, u11, u12, u13, u14, u15, u16, u17, u18, u19, u20, u21, u22, u23, u24, u25, u26, u27, u28, u29, u30, u31, u32, Value.int IntKind.i64 n0, Value.int IntKind.i64 n1, Value.int IntKind.i64 n2, Value.string n3, Value.int IntKind.i64 n4, Value.int IntKind.i64 n5, Value.int IntKind.i64 n6, Value.int IntKind.i64 n7, Value.int IntKind.i64 n8, Value.int IntKind.i64 n9, Value.int IntKind.i64 n10]) ?a1 ?a2 HX.out.1 ?a3 ?a4 HX.out.2 ?_; (case b1 => rfl); (case b2 => rfl); (case b3 => rfl); (case a1 => first | rfl | (go_simp; done)); (case a2 => first | rfl | (go_simp; done)); (case a3 => rfl); (case a4 => kernel_rfl); intro w3 hz3 hs3 hg3; have HB3 := Aside0.mk (pw_below_grown HB.out (some (w.heap.size + 1)) HB.out.size hg3 (fun k e => by cases e; omega)); have BK3 := Aside0.mk hz3; clear hz3 hs3 hg3 hl1 k33 k34 k35 k36 k37 k38 k39 k40 k41 k42 k43))
 refine bodyPost_ret (results_cell_row rfl _ _ (w.heap.size + 1) 90 #[u0, u1, u2, u3, u4, u5, u6, u7, u8, u9, u10, u11, u12, u13, u14, u15, u16, u17, u18, u19, u20, u21, u22, u23, u24, u25, u26, u27, u28, u29, u30, u31, u32, Value.int IntKind.i64 n0, Value.int IntKind.i64 n1, Value.int IntKind.i64 n2, Value.string n3, Value.int IntKind.i64 n4, Value.int IntKind.i64 n5, Value.int IntKind.i64 n6, Value.int IntKind.i64 n7, Value.int IntKind.i64 n8, Value.int IntKind.i64 n9, Value.int IntKind.i64 n10] (0, 0) _ rfl BK3.out Try.underlying90 rfl (by kernel_rfl)) rfl ?_
 exact ⟨by rw [HC.out], HB3.out⟩
/-- An input of a number. -/
def one68 (n v b : Int) : S68 := ⟨⟨⟨0, 0, 0, 0, 0, 0, 0, 0, 0, 0, 0, 0, 0, 0, 0, 0, 0, 0, 0, 0, 0, 0, 0, 0, 0, 0, 0, 0, 0, 0, 0, 0⟩, n⟩, v, ⟨⟨1, 2, ⟨#[]⟩⟩, 0, 0, 0⟩, 0, 0, 10, b⟩
set_option maxHeartbeats 8000000 in
set_option maxRecDepth 100000 in
theorem one_calls' (n v b : Int) (w : World) : Calls Try.prog 25 #[.int .i64 n, .int .i64 v, .int .i64 b] w fun e w' => e = .returned (.agg (J68.enc (one68 n v b)).toArray) ∧ Below w.heap.size w w' := by
 obtain ⟨cs, hcs⟩ : ∃ c : Array Value, c = #[.int .u8 0, .int .u8 0, .int .u8 0, .int .u8 0, .int .u8 0, .int .u8 0, .int .u8 0, .int .u8 0, .int .u8 0, .int .u8 0, .int .u8 0, .int .u8 0, .int .u8 0, .int .u8 0, .int .u8 0, .int .u8 0, .int .u8 0, .int .u8 0, .int .u8 0, .int .u8 0, .int .u8 0, .int .u8 0, .int .u8 0, .int .u8 0, .int .u8 0, .int .u8 0, .int .u8 0, .int .u8 0, .int .u8 0, .int .u8 0, .int .u8 0, .int .u8 0, .int .i64 n, .int .i64 v, .int .i64 1, .int .i64 2, .string ⟨#[]⟩, .int .i64 0, .int .i64 0, .int .i64 0, .int .i64 0, .int .i64 0, .int .i64 10, .int .i64 b] := ⟨_, rfl⟩
 have hres : (J68.enc (one68 n v b)).toArray = cs := by rw [hcs]; rfl
 have h1 : cs.all (·.oneCell') = true := by
  rw [← hres, Array.all_eq_true_iff_forall_mem]
  intro u hu
  exact J68.h1 _ u (List.mem_toArray.1 hu)
 have hsz : cs.size = 44 := by rw [← hres, List.size_toArray]; exact J68.hk _
 have CS := Aside0.mk hcs
 have HX := Aside0.mk (And.intro hres (And.intro h1 hsz))
 clear hcs hres h1 hsz
 rw [HX.out.1]
 go_enter Try.func25, Try.ntmps25
 go_wp2_with (first | ((with_reducible refine gate_store (t := 68) (p := 6) rfl ?_); refine PutW.store_event ?b1 ?b2 68 (.tmp 6) (.tmp 13) ?b3 (g := w.heap.size) (t := 68) (cells := cs) ?a1 ?a2 (blk_new w _) ?a3 ?a4 HX.out.2.1 ?_; (case b1 => rfl); (case b2 => rfl); (case b3 => rfl); (case a1 => first | rfl | (go_simp; done)); (case a2 => rw [CS.out]; first | rfl | (go_simp; done)); (case a3 => rw [HX.out.2.2]; rfl); (case a4 => rw [HX.out.2.2]; kernel_rfl); intro w3 hz3 hs3 hg3; have HB3 := Aside0.mk (pw_below_grown (below_alloc (Below.refl _ _) _) (some w.heap.size) (below_alloc (Below.refl _ _) _).size hg3 (fun k e => by cases e; exact Nat.le_refl _)); have BK3 := Aside0.mk hz3; clear hz3 hs3 hg3))
 refine bodyPost_ret (results_cell_row rfl _ _ w.heap.size 68 cs (0, 0) _ rfl BK3.out Try.underlying68 rfl (by rw [HX.out.2.2]; kernel_rfl)) rfl ?_
 exact ⟨rfl, HB3.out⟩
end Go.Proofs.Ytiodebjjbgcbhaa.Inp
/- Plain theory: what goes together, of inputs that are alike but for their points, locks and waits. -/
namespace Go.Proofs.Ytiodebjjbgcbhaa.Pure
open Go Go.Proofs.Ytiodebjjbgcbhaa.Inp Go.Proofs.Ytiodebjjbgcbhaa.QLef Go.Proofs.Ytiodebjjbgcbhaa.LefL Go.Proofs.Ytiodebjjbgcbhaa.OrdO Go.Proofs.Ytiodebjjbgcbhaa.OrdQ
set_option linter.unusedVariables false
set_option linter.unusedSimpArgs false
theorem snoc_ind {α : Type} {P : List α → Prop} (h0 : P []) (h1 : ∀ l x, P l → P (l ++ [x])) : ∀ l, P l := by
 have key : ∀ l : List α, P l.reverse := by
  intro l
  induction l with
  | nil => exact h0
  | cons x l ih => rw [List.reverse_cons]; exact h1 _ _ ih
 intro l
 have := key l.reverse
 rwa [List.reverse_reverse] at this
end Go.Proofs.Ytiodebjjbgcbhaa.Pure
/- Plain theory: what all batches of any inputs have. -/
namespace Go.Proofs.Ytiodebjjbgcbhaa.Pure
open Go Go.RowKit Go.Proofs.Ytiodebjjbgcbhaa.Inp Go.Proofs.Ytiodebjjbgcbhaa.QLef Go.Proofs.Ytiodebjjbgcbhaa.LefL Go.Proofs.Ytiodebjjbgcbhaa.OrdO Go.Proofs.Ytiodebjjbgcbhaa.OrdQ
set_option linter.unusedVariables false
set_option linter.unusedSimpArgs false
theorem oneS_inv {α : Type} (fit : List α → Bt × Bool) (ge : α → Bool) (l : List α) : ∀ i, 1 ≤ i → i ≤ l.length →
 fit (oneS fit ge l i).W = ((oneS fit ge l i).b, (oneS fit ge l i).ok) ∧ ((oneS fit ge l i).W ++ (oneS fit ge l i).L).Perm (l.take i) ∧ ((oneS fit ge l i).ok = false → (oneS fit ge l i).W = l.take 1) := by
 intro i h1 hi
 obtain ⟨j, rfl⟩ : ∃ j, i = j + 1 := ⟨i - 1, by omega⟩
 clear h1
 induction j with
 | zero =>
  rw [oneS_one]
  exact ⟨rfl, by simp, fun _ => rfl⟩
 | succ j ih =>
  have hj : j + 1 < l.length := by omega
  obtain ⟨h1, h2, h3⟩ := ih (by omega)
  rw [oneS_succ _ _ _ _ (by omega) hj]
  generalize oneS fit ge l (j + 1) = s at h1 h2 h3 ⊢
  rw [show l.take (j + 1 + 1) = l.take (j + 1) ++ [l[j + 1]] from List.take_succ_eq_append_getElem hj]
  unfold oneStep
  by_cases hc : (ge l[j + 1] && (fit (s.W ++ [l[j + 1]])).2) = true
  ·rw [if_pos hc]
   simp only [Bool.and_eq_true] at hc
   refine ⟨Prod.ext rfl hc.2, ?_, fun h => by cases h⟩
   show ((s.W ++ [l[j + 1]]) ++ s.L).Perm _
   rw [List.append_assoc]
   refine (List.Perm.append_left s.W List.perm_append_comm).trans ?_
   rw [← List.append_assoc]
   exact h2.append_right _
  ·rw [if_neg hc]
   refine ⟨h1, ?_, h3⟩
   show (s.W ++ (s.L ++ [l[j + 1]])).Perm _
   rw [← List.append_assoc]
   exact h2.append_right _
/-- All batches: of disjoint rows of the inputs, each of which fits; what is in none would not go alone. -/
theorem allL_sound {α : Type} (fits : List α → Int → Bt × Bool) (rt : α → Int) : ∀ (k : Nat) (l : List α), l.length ≤ k →
 ∃ (P : List (List α × Bt × Int)) (rest : List α), allL fits rt k l = P.map (fun p => p.2.1.to) ∧ (∀ p ∈ P, fits p.1 p.2.2 = (p.2.1, true)) ∧ ((P.map (·.1)).flatten ++ rest).Perm l ∧ ∀ y ∈ rest, (fits [y] (rt y)).2 = false := by
 intro k
 induction k with
 | zero =>
  intro l hl
  have : l = [] := List.eq_nil_of_length_eq_zero (by omega)
  subst this
  exact ⟨[], [], rfl, by simp, by simp, by simp⟩
 | succ k ih =>
  intro l hl
  cases l with
  | nil => exact ⟨[], [], rfl, by simp, by simp, by simp⟩
  | cons x0 r =>
   have hless := one_less fits rt (x0 :: r) (by simp)
   have hinv := oneS_inv (fun W => fits W (rt x0)) (fun x => decide (Int.tdiv (rt x0) 2 ≤ rt x)) (x0 :: r) (x0 :: r).length (by simp) (Nat.le_refl _)
   rw [show oneS (fun W => fits W (rt x0)) (fun x => decide (Int.tdiv (rt x0) 2 ≤ rt x)) (x0 :: r) (x0 :: r).length = oneV fits rt (x0 :: r) from rfl, List.take_length] at hinv
   have e0 : allL fits rt (k + 1) (x0 :: r) = if (oneV fits rt (x0 :: r)).ok = true then (oneV fits rt (x0 :: r)).b.to :: allL fits rt k (oneV fits rt (x0 :: r)).L else allL fits rt k (oneV fits rt (x0 :: r)).L := rfl
   rw [e0]
   clear e0
   generalize oneV fits rt (x0 :: r) = s at hinv hless ⊢
   obtain ⟨i1, i2, i3⟩ := hinv
   obtain ⟨P, rest, p1, p2, p3, p4⟩ := ih s.L (by simp only [List.length_cons] at hl hless; omega)
   cases hok : s.ok with
   | true =>
    refine ⟨(s.W, s.b, rt x0) :: P, rest, ?_, ?_, ?_, p4⟩
    ·rw [if_pos rfl, p1]; rfl
    ·intro p hp
     rcases List.mem_cons.1 hp with rfl | hp
     ·simpa [hok] using i1
     ·exact p2 p hp
    ·rw [List.map_cons, List.flatten_cons, List.append_assoc]
     exact (p3.append_left s.W).trans i2
   | false =>
    refine ⟨P, s.W ++ rest, ?_, p2, ?_, ?_⟩
    ·rw [if_neg (by decide)]; exact p1
    ·exact (List.perm_append_comm_assoc _ _ _).trans ((p3.append_left s.W).trans i2)
    ·intro y hy
     rcases List.mem_append.1 hy with hy | hy
     ·have hW := i3 hok
      rw [List.take_succ_cons, List.take_zero] at hW
      rw [hW] at hy i1
      obtain rfl := List.mem_singleton.1 hy
      rw [i1, hok]
     ·exact p4 y hy
/-! ### sums -/
theorem addS_ok {s a : Int} (hs : 0 ≤ s ∧ s ≤ 2100000000000000) (h : (addS s a).2 = 0) : addS s a = (s + a, 0) ∧ (0 ≤ a ∧ a ≤ 2100000000000000) ∧ s + a ≤ 2100000000000000 := by
 unfold addS at h ⊢
 by_cases hc : (okA s && okA a && okA (wrap64 (s + a))) = true
 ·rw [if_pos hc]
  simp only [Bool.and_eq_true, okA_true] at hc
  have e : wrap64 (s + a) = s + a := w64' (by omega) (by omega)
  rw [e] at hc ⊢
  exact ⟨rfl, hc.1.2, hc.2.2⟩
 ·rw [if_neg hc] at h; exact absurd h (by decide)
theorem addS_snd (s a : Int) : (addS s a).2 = 0 ∨ (addS s a).2 = 11 := by unfold addS; split <;> simp
theorem totS_snd : ∀ (l : List Int) (s : Int), (totS s l).2 = 0 ∨ (totS s l).2 = 11
 | [], s => .inl rfl
 | a :: l, s => by
  unfold totS
  split
  ·exact totS_snd l _
  ·exact addS_snd s a
theorem totS_ok : ∀ (l : List Int) (s : Int), (0 ≤ s ∧ s ≤ 2100000000000000) → (totS s l).2 = 0 → totS s l = (s + l.sum, 0) ∧ s + l.sum ≤ 2100000000000000 ∧ 0 ≤ l.sum
 | [], s, hs, _ => by simp [totS]; exact hs.2
 | a :: l, s, hs, h => by
  unfold totS at h ⊢
  by_cases ha : (addS s a).2 = 0
  ·rw [if_pos ha] at h ⊢
   obtain ⟨e, h1, h2⟩ := addS_ok hs ha
   rw [e] at h ⊢
   simp only [] at h ⊢
   obtain ⟨e2, h3, h4⟩ := totS_ok l (s + a) ⟨by omega, h2⟩ h
   rw [List.sum_cons]
   exact ⟨by rw [e2]; congr 1; omega, by omega, by omega⟩
  ·rw [if_neg ha] at h; exact absurd h ha
theorem sum_bound (c : Int) (hc : 0 ≤ c) : ∀ (l : List Int), (∀ a ∈ l, 0 ≤ a ∧ a ≤ c) → 0 ≤ l.sum ∧ l.sum ≤ c * (l.length : Int)
 | [], _ => by simp
 | a :: l, h => by
  have h1 := sum_bound c hc l (fun b hb => h b (List.mem_cons_of_mem _ hb))
  have h2 := h a List.mem_cons_self
  rw [List.sum_cons, List.length_cons, Int.natCast_succ, Int.mul_add]
  omega
theorem feeS_ok {w r : Int} (h : (feeS w r).2 = 0) : feeS w r = ((feeS w r).1, 0) ∧ 0 ≤ (feeS w r).1 ∧ (feeS w r).1 ≤ 2100000000000000 := by
 unfold feeS at h ⊢
 by_cases hc : 0 ≤ w ∧ w ≤ 4000000 ∧ 0 ≤ r ∧ r ≤ 1000000000 ∧ up (w * r) ≤ 2100000000000000
 ·rw [if_pos hc]
  have := Int.mul_nonneg hc.1 hc.2.2.1
  refine ⟨rfl, ?_, hc.2.2.2.2⟩
  show 0 ≤ up (w * r)
  unfold up
  omega
 ·rw [if_neg hc] at h; exact absurd h (by decide)
theorem feeS_snd (w r : Int) : (feeS w r).2 = 0 ∨ (feeS w r).2 = 11 := by unfold feeS; split <;> simp
/-! ### what is made -/
structure MadeOf (W : List S90) (r key : Int) (b : Bt) : Prop where
 ne : W ≠ []
 ck : ∀ x ∈ W, chkC I90 x = 0
 ky : 0 ≤ key ∧ key ≤ 1073741824
 ins : b.ins = W.map I90.inS
 out : b.outs = [outS ((W.map I90.value).sum - b.fee) key]
 dust : 330 ≤ (W.map I90.value).sum - b.fee
 lock : b.lock = lockV I90 W
 fee : feeS (weightV b.ins 1) r = (b.fee, 0)
 bud : b.fee ≤ budV I90 W
 rate : b.rate = r
 tc : tcC b.ins b.outs b.lock = 0
 tot : (W.map I90.value).sum ≤ 2100000000000000
theorem made_of {W : List S90} {r key : Int} {b : Bt} (h : makeC I90 W r key = some b) : MadeOf W r key b := by
 unfold makeC makeV at h
 by_cases h1 : W = []
 ·rw [if_pos h1] at h; cases h
 rw [if_neg h1] at h
 by_cases h2 : wiB key 0 1073741824 = false
 ·rw [if_pos h2] at h; cases h
 rw [if_neg h2] at h
 by_cases h3 : (W.all fun x => chkC I90 x == 0) = false
 ·rw [if_pos h3] at h; cases h
 rw [if_neg h3] at h
 simp only [] at h
 have t2 := totS_snd (W.map I90.value) 0
 have f2 := feeS_snd (weightV (W.map I90.inS) 1) r
 have f3 := @feeS_ok (weightV (W.map I90.inS) 1) r
 have t3 := totS_ok (W.map I90.value) 0 (by omega)
 generalize hF : feeS (weightV (W.map I90.inS) 1) r = F at h f2 f3
 generalize hT : totS 0 (W.map I90.value) = T at h t2 t3
 by_cases h4 : max T.2 F.2 ≠ 0
 ·rw [if_pos h4] at h; cases h
 rw [if_neg h4] at h
 by_cases h5 : F.1 > budV I90 W
 ·rw [if_pos h5] at h; cases h
 rw [if_neg h5] at h
 by_cases h6 : wrap64 (T.1 - F.1) < 330
 ·rw [if_pos h6] at h; cases h
 rw [if_neg h6] at h
 by_cases h7 : tcC (W.map I90.inS) [outS (wrap64 (T.1 - F.1)) key] (lockV I90 W) ≠ 0
 ·rw [if_pos h7] at h; cases h
 rw [if_neg h7] at h
 have ht : T.2 = 0 := by omega
 have hf : F.2 = 0 := by omega
 obtain ⟨e1, b1, b2⟩ := t3 ht
 obtain ⟨e2, b3, b4⟩ := f3 hf
 have e3 : wrap64 (T.1 - F.1) = (W.map I90.value).sum - F.1 := by
  rw [e1]
  simp only []
  rw [w64' (by omega) (by omega)]
  omega
 rw [e3] at h h6 h7
 have e := Option.some.inj h
 subst e
 simp only [wiB, Bool.and_eq_false_iff, decide_eq_false_iff_not, not_or, Decidable.not_not] at h2
 refine ⟨h1, fun x hx => ?_, h2, rfl, rfl, by show 330 ≤ _ - F.1; omega, rfl, by rw [hF]; exact e2, by show F.1 ≤ _; omega, rfl, by simpa using h7, by omega⟩
 have h3' : (W.all fun x => chkC I90 x == 0) = true := by simpa using h3
 simpa using List.all_eq_true.1 h3' x hx
theorem fits_of {W : List S90} {r limit key : Int} {b : Bt} (h : fitsC I90 limit key W r = (b, true)) : MadeOf W r key b ∧ weightV b.ins b.outs.length ≤ limit := by
 unfold fitsC fitsV at h
 simp only [Prod.mk.injEq, Bool.and_eq_true, decide_eq_true_eq] at h
 obtain ⟨h1, h2, h3⟩ := h
 rw [h1] at h3
 refine ⟨made_of ?_, h3⟩
 show makeV I90 (chkC I90) (totS 0) tcC W r key = some b
 generalize makeV I90 (chkC I90) (totS 0) tcC W r key = o at h1 h2
 cases o with
 | none => cases h2
 | some b' => simp only [Option.getD_some] at h1; rw [h1]
theorem chk_facts {x : S90} (h : chkC I90 x = 0) : (0 ≤ I90.nn x ∧ I90.nn x ≤ 99) ∧ (1 ≤ I90.value x ∧ I90.value x ≤ 2100000000000000) ∧ (0 ≤ I90.lock x ∧ I90.lock x ≤ 1000000) ∧ (0 ≤ I90.wait x ∧ I90.wait x ≤ 65535) ∧ (0 ≤ I90.conf x ∧ I90.conf x ≤ 1000000) ∧ ofB (I90.since x) (I90.dl x) (I90.budget x) (aloneV I90 x) = true := by
 unfold chkC chkV at h
 split at h
 ·rename_i hc
  simp only [Bool.and_eq_true, wiB, decide_eq_true_eq] at hc
  obtain ⟨⟨⟨⟨a1, a2⟩, a3⟩, ⟨b1, b2⟩, b3⟩, a5⟩ := hc
  split at h
  ·rename_i ho
   exact ⟨a1, a2, b3, b2, a5, ho⟩
  ·exact absurd h (by decide)
 ·exact absurd h (by decide)
theorem bud_bound {x : S90} (h : chkC I90 x = 0) : 0 ≤ I90.budget x ∧ I90.budget x ≤ 2100000000000000 := (ofB_true.1 (chk_facts h).2.2.2.2.2).2.2.1
theorem budV_sum : ∀ (W : List S90), (∀ x ∈ W, chkC I90 x = 0) → W.length ≤ 400 → budV I90 W = (W.map I90.budget).sum := by
 intro W
 induction W using snoc_ind with
 | h0 => intro _ _; rfl
 | h1 l x ih =>
  intro h hl
  rw [List.length_append, List.length_singleton] at hl
  have hb := bud_bound (h x (by simp))
  have hs := sum_bound 2100000000000000 (by omega) (l.map I90.budget) (fun a ha => by obtain ⟨y, hy, rfl⟩ := List.mem_map.1 ha; exact bud_bound (h y (by simp [hy])))
  rw [List.length_map] at hs
  rw [budV_snoc, ih (fun y hy => h y (by simp [hy])) (by omega), List.map_append, List.sum_append, List.map_cons, List.map_nil, List.sum_cons, List.sum_nil, w64' (by omega) (by omega)]
  omega
theorem lockV_le : ∀ (W : List S90) (n : Int), 0 ≤ n → (∀ x ∈ W, I90.lock x ≤ n) → 0 ≤ lockV I90 W ∧ lockV I90 W ≤ n := by
 intro W n hn
 induction W using snoc_ind with
 | h0 => intro _; exact ⟨Int.le_refl _, hn⟩
 | h1 l x ih =>
  intro h
  have h1 := ih (fun y hy => h y (by simp [hy]))
  have h2 := h x (by simp)
  rw [lockV_snoc]
  omega
theorem ripe_lock {x : S90} {next : Int} (h : chkC I90 x = 0) (hr : ripe (I90.wait x) (I90.lock x) (I90.conf x) next = true) : ripens (I90.wait x) (I90.lock x) (I90.conf x) ≤ next ∧ I90.lock x ≤ next := by
 obtain ⟨_, _, h1, h2, h3, _⟩ := chk_facts h
 have h4 : ripens (I90.wait x) (I90.lock x) (I90.conf x) ≤ next := of_decide_eq_true hr
 refine ⟨h4, ?_⟩
 unfold ripens held at h4
 omega
/-! ### keys, order -/
def ptK (x : S90) : List Int × Int := (I90.bs x, I90.nn x)
theorem met_len : ∀ (l : List S90), (metV I90 l).length ≤ l.length ∧ ((metV I90 l).length = l.length → metV I90 l = l.map ptK ∧ (l.map ptK).Nodup) := by
 intro l
 induction l using snoc_ind with
 | h0 => exact ⟨Nat.le_refl _, fun _ => ⟨rfl, List.nodup_nil⟩⟩
 | h1 l x ih =>
  rw [metV_snoc]
  by_cases hm : (I90.bs x, I90.nn x) ∈ metV I90 l
  ·rw [if_pos hm, List.length_append, List.length_singleton]
   exact ⟨by omega, fun h => by omega⟩
  ·rw [if_neg hm, List.length_append, List.length_append, List.length_singleton, List.length_singleton]
   refine ⟨by omega, fun h => ?_⟩
   obtain ⟨e, hn⟩ := ih.2 (by omega)
   rw [e] at hm ⊢
   rw [List.map_append]
   refine ⟨rfl, List.nodup_append.2 ⟨hn, by simp, ?_⟩⟩
   intro a ha b hb e2
   simp only [List.map_cons, List.map_nil, List.mem_singleton] at hb
   subst e2
   subst hb
   exact hm ha
theorem nodup_of {l : List S90} (h : twiceV I90 l = false) : (l.map ptK).Nodup := by
 have h1 := of_decide_eq_false h
 have h2 := met_len l
 exact (h2.2 (by omega)).2
theorem order_mem {l : List S90} {next : Int} {x : S90} (h : x ∈ orderC I90 l next) : x ∈ l ∧ chkC I90 x = 0 ∧ ripe (I90.wait x) (I90.lock x) (I90.conf x) next = true := by
 unfold orderC orderV at h
 have h1 := (sortV_perm (cmpR I90 (rtC I90 next)) _).mem_iff.1 h
 obtain ⟨h2, h3⟩ := List.mem_filter.1 h1
 unfold out1 at h3
 by_cases hc : chkC I90 x = 0
 ·rw [if_pos hc, Bool.not_not] at h3
  exact ⟨h2, hc, h3⟩
 ·rw [if_neg hc] at h3; cases h3
theorem order_perm (l : List S90) (next : Int) : (orderC I90 l next).Perm (l.filter fun y => !out1 I90 (chkC I90) next y) := sortV_perm _ _
/-- All batches that All tells, when it tells no error. -/
theorem all_sound {l : List S90} {next limit key : Int} (h : (allC I90 l next limit key).2 = 0) : (0 ≤ next ∧ next ≤ 1000000) ∧ (l.map ptK).Nodup ∧
 ∃ (P : List (List S90 × Bt × Int)) (rest : List S90), (allC I90 l next limit key).1 = P.map (fun p => p.2.1.to) ∧ (∀ p ∈ P, MadeOf p.1 p.2.2 key p.2.1 ∧ weightV p.2.1.ins p.2.1.outs.length ≤ limit) ∧ ((P.map (·.1)).flatten ++ rest).Perm (orderC I90 l next) ∧ ∀ y ∈ rest, (fitsC I90 limit key [y] (rtC I90 next y)).2 = false := by
 unfold allC allV at h ⊢
 by_cases h1 : (wiB next 0 1000000 && (wiB limit 1 400000 && wiB key 0 1073741824)) = false
 ·rw [if_pos h1] at h; cases h
 rw [if_neg h1] at h ⊢
 by_cases h2 : 200 < l.length
 ·rw [if_pos h2] at h; cases h
 rw [if_neg h2] at h ⊢
 by_cases h3 : twiceV I90 l = true
 ·rw [if_pos h3] at h; cases h
 rw [if_neg h3]
 have h1' : (wiB next 0 1000000 && (wiB limit 1 400000 && wiB key 0 1073741824)) = true := by simpa using h1
 simp only [Bool.and_eq_true, wiB, decide_eq_true_eq] at h1'
 refine ⟨h1'.1, nodup_of (by simpa using h3), ?_⟩
 obtain ⟨P, rest, p1, p2, p3, p4⟩ := allL_sound (fitsC I90 limit key) (rtC I90 next) l.length (orderV I90 (chkC I90) (rtC I90 next) next l) (order_len I90 (chkC I90) (rtC I90 next) next l)
 exact ⟨P, rest, p1, fun p hp => fits_of (p2 p hp), p3, p4⟩
theorem all_none {l : List S90} {next limit key : Int} (h : (allC I90 l next limit key).2 ≠ 0) : (allC I90 l next limit key).1 = [] := by
 unfold allC allV at h ⊢
 by_cases h1 : (wiB next 0 1000000 && (wiB limit 1 400000 && wiB key 0 1073741824)) = false
 ·rw [if_pos h1]
 rw [if_neg h1] at h ⊢
 by_cases h2 : 200 < l.length
 ·rw [if_pos h2]
 rw [if_neg h2] at h ⊢
 by_cases h3 : twiceV I90 l = true
 ·rw [if_pos h3]
 rw [if_neg h3] at h
 exact absurd rfl h
end Go.Proofs.Ytiodebjjbgcbhaa.Pure
