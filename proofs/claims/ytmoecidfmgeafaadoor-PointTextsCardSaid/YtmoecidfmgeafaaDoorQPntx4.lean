/- Functions of the program as plain Lean functions, and that its calls come to what these tell: written by a program of this session; Lean checks it. -/
import Derived.Test.YtmoecidfmgeafaaDoorQPntx0
import Derived.Test.YtmoecidfmgeafaaDoorQPntx2
import Derived.Test.YtmoecidfmgeafaaDoorQPntx3
namespace Go.Proofs.YtmoecidfmgeafaaDoor.QPnt
open Go.RowKit Go.Proofs.YtmoecidfmgeafaaDoorW.PrintWords Go.Proofs.YtmoecidfmgeafaaDoorW.PrintLast Go.Proofs.YtmoecidfmgeafaaDoorW.PrintMore
attribute [local go_sem] max2_int min2_int max_two min_two max_three min_three max_four min_four  run_fop run_feq run_fne run_flt run_fle run_fgt run_fge run_fint run_toi run_real' run_imag' run_complex' run_ceq run_cne run_cadd run_csub run_cmul Go.Proofs.YtmoecidfmgeafaaDoor.Wide.cellsAt_drewN Go.Proofs.YtmoecidfmgeafaaDoor.Wide.cellsAt_drew Go.Proofs.YtmoecidfmgeafaaDoor.Wide.lw32 Go.Proofs.YtmoecidfmgeafaaDoor.Wide.lw33
attribute [local go_sem ↓ high] Go.Proofs.YtmoecidfmgeafaaDoor.Wide.hv32 Go.Proofs.YtmoecidfmgeafaaDoor.Wide.hv33
set_option linter.unusedVariables false
set_option linter.unusedSimpArgs false

attribute [local go_sem high] eqA25
/-! ### coraclelaw3_awake: function 7 -/
/-- Two, one, two: one, two. -/
theorem aw_sort3 : point_Sort.f [(⟨(⟨0, 0, 0, 0, 0, 0, 0, 0, 0, 0, 0, 0, 0, 0, 0, 0, 0, 0, 0, 0, 0, 0, 0, 0, 0, 0, 0, 0, 0, 0, 0, 0⟩ : S23), 2⟩ : S25), (⟨(⟨0, 0, 0, 0, 0, 0, 0, 0, 0, 0, 0, 0, 0, 0, 0, 0, 0, 0, 0, 0, 0, 0, 0, 0, 0, 0, 0, 0, 0, 0, 0, 0⟩ : S23), 1⟩ : S25), (⟨(⟨0, 0, 0, 0, 0, 0, 0, 0, 0, 0, 0, 0, 0, 0, 0, 0, 0, 0, 0, 0, 0, 0, 0, 0, 0, 0, 0, 0, 0, 0, 0, 0⟩ : S23), 2⟩ : S25)] = some [(⟨(⟨0, 0, 0, 0, 0, 0, 0, 0, 0, 0, 0, 0, 0, 0, 0, 0, 0, 0, 0, 0, 0, 0, 0, 0, 0, 0, 0, 0, 0, 0, 0, 0⟩ : S23), 1⟩ : S25), (⟨(⟨0, 0, 0, 0, 0, 0, 0, 0, 0, 0, 0, 0, 0, 0, 0, 0, 0, 0, 0, 0, 0, 0, 0, 0, 0, 0, 0, 0, 0, 0, 0, 0⟩ : S23), 2⟩ : S25)] := by
  have h : sortO [(⟨(⟨0, 0, 0, 0, 0, 0, 0, 0, 0, 0, 0, 0, 0, 0, 0, 0, 0, 0, 0, 0, 0, 0, 0, 0, 0, 0, 0, 0, 0, 0, 0, 0⟩ : S23), 2⟩ : S25), (⟨(⟨0, 0, 0, 0, 0, 0, 0, 0, 0, 0, 0, 0, 0, 0, 0, 0, 0, 0, 0, 0, 0, 0, 0, 0, 0, 0, 0, 0, 0, 0, 0, 0⟩ : S23), 1⟩ : S25), (⟨(⟨0, 0, 0, 0, 0, 0, 0, 0, 0, 0, 0, 0, 0, 0, 0, 0, 0, 0, 0, 0, 0, 0, 0, 0, 0, 0, 0, 0, 0, 0, 0, 0⟩ : S23), 2⟩ : S25)] = [(⟨(⟨0, 0, 0, 0, 0, 0, 0, 0, 0, 0, 0, 0, 0, 0, 0, 0, 0, 0, 0, 0, 0, 0, 0, 0, 0, 0, 0, 0, 0, 0, 0, 0⟩ : S23), 1⟩ : S25), (⟨(⟨0, 0, 0, 0, 0, 0, 0, 0, 0, 0, 0, 0, 0, 0, 0, 0, 0, 0, 0, 0, 0, 0, 0, 0, 0, 0, 0, 0, 0, 0, 0, 0⟩ : S23), 2⟩ : S25), (⟨(⟨0, 0, 0, 0, 0, 0, 0, 0, 0, 0, 0, 0, 0, 0, 0, 0, 0, 0, 0, 0, 0, 0, 0, 0, 0, 0, 0, 0, 0, 0, 0, 0⟩ : S23), 2⟩ : S25)] := by
    unfold sortO Go.Proofs.YtmoecidfmgeafaaDoor.SortO.osort
    have e : ∀ x y : S25, x.f0 = y.f0 → ltOf (Go.Proofs.YtmoecidfmgeafaaDoor.OrdO.ocmp bsO (fun x : S25 => x.f1)) x y = decide (Go.Proofs.YtmoecidfmgeafaaDoor.OrdO.cmp3 x.f1 y.f1 < 0) := fun x y h => by
      unfold ltOf Go.Proofs.YtmoecidfmgeafaaDoor.OrdO.ocmp
      rw [show bsO x = bsO y by unfold bsO; rw [h], if_pos (Go.Proofs.YtmoecidfmgeafaaDoor.SortO.lcmp_self _)]
    simp only [List.mergeSort, List.MergeSort.Internal.splitInTwo, List.length_cons, List.length_nil, List.splitAt, List.splitAt.go, List.reverse_cons, List.reverse_nil, List.nil_append, List.cons_append, List.mergeSort, List.merge, e, show decide (Go.Proofs.YtmoecidfmgeafaaDoor.OrdO.cmp3 1 2 < 0) = true from rfl, show decide (Go.Proofs.YtmoecidfmgeafaaDoor.OrdO.cmp3 2 1 < 0) = false from rfl, show decide (Go.Proofs.YtmoecidfmgeafaaDoor.OrdO.cmp3 2 2 < 0) = false from rfl, Bool.not_true, Bool.not_false, if_true, Bool.false_eq_true, if_false]
  unfold point_Sort.f setO
  rw [if_pos (by simp), h]
  rfl

/-- The law's own awake answers true. -/
def coraclelaw3_awake.f : Option Bool := some true
def coraclelaw3_awake.T4 : Bool × List (List Nat × List Nat) := (true, [([], []), ([0], [0]), ([1], [1]), ([2], [2]), ([3], [3]), ([4, 3], [3, 4]), ([5, 3], [3, 5]), ([3], [3]), ([6, 7, 3], [3, 6, 7]), ([3, 8], [3, 8]), ([9, 3], [9]), ([10], [10]), ([10], [10]), ([11, 12, 10, 10], [10, 11, 12]), ([10, 13], [10, 13]), ([14, 13], [14]), ([15], [15]), ([15], [15]), ([16, 17, 15, 15], [15, 16, 17]), ([18, 15], [15, 18]), ([15, 19], [15, 19]), ([20, 18], [20]), ([21], [21]), ([21], [21]), ([22, 23, 21, 21], [21, 22, 23]), ([21, 24], [21, 24]), ([25, 24], [25]), ([26], [26]), ([27, 26, 26], [26, 27]), ([28, 26], [26, 28]), ([26, 29], [26, 29]), ([30, 28], [30]), ([31], [31]), ([32, 31], [31, 32]), ([31, 33], [31, 33]), ([34, 31, 0, 1, 2, 3, 4, 5, 6, 7, 8, 9, 10, 11, 12, 13, 14, 15, 16, 17, 18, 19, 20, 21, 22, 23, 24, 25, 26, 27, 28, 29, 30, 31, 32, 33, 34], [34])])
def coraclelaw3_awake.B4 : List Nat := [0, 1, 3, 7, 15, 31, 63, 15, 255, 511, 1023, 2047, 2047, 8191, 16383, 32767, 65535, 65535, 262143, 524287, 1048575, 2097151, 4194303, 4194303, 16777215, 33554431, 67108863, 134217727, 268435455, 536870911, 1073741823, 2147483647, 4294967295, 8589934591, 17179869183, 34359738367]
theorem coraclelaw3_awake.tab4 : rtab .any (opsOf Tryd.f7 4) = coraclelaw3_awake.T4 := by kernel_rfl
theorem coraclelaw3_awake.bits4 : waitsOk coraclelaw3_awake.T4.2 coraclelaw3_awake.B4 = true := by kernel_rfl
set_option maxHeartbeats 8000000 in
set_option maxRecDepth 100000 in
theorem coraclelaw3_awake.calls (r : Bool) (w : World) (h : coraclelaw3_awake.f = some r) :
    Calls Tryd.prog 7 #[] w fun e w' => e = .returned (.bool r) ∧ Below w.heap.size w w' := by
  obtain rfl := Option.some.inj (show some true = some r from h)
  clear h
  have hu25 := Tryd.underlying25
  have HB := Aside0.mk (Below.refl w.heap.size w)
  have A1 := aw_sort3
  obtain ⟨y116, hy116⟩ : ∃ y_ : List (S25), y_ = [(⟨(⟨0, 0, 0, 0, 0, 0, 0, 0, 0, 0, 0, 0, 0, 0, 0, 0, 0, 0, 0, 0, 0, 0, 0, 0, 0, 0, 0, 0, 0, 0, 0, 0⟩ : S23), 2⟩ : S25), (⟨(⟨0, 0, 0, 0, 0, 0, 0, 0, 0, 0, 0, 0, 0, 0, 0, 0, 0, 0, 0, 0, 0, 0, 0, 0, 0, 0, 0, 0, 0, 0, 0, 0⟩ : S23), 1⟩ : S25), (⟨(⟨0, 0, 0, 0, 0, 0, 0, 0, 0, 0, 0, 0, 0, 0, 0, 0, 0, 0, 0, 0, 0, 0, 0, 0, 0, 0, 0, 0, 0, 0, 0, 0⟩ : S23), 2⟩ : S25)] := ⟨_, rfl⟩
  obtain ⟨t119, ht119⟩ : ∃ y_ : List (S25), y_ = [(⟨(⟨0, 0, 0, 0, 0, 0, 0, 0, 0, 0, 0, 0, 0, 0, 0, 0, 0, 0, 0, 0, 0, 0, 0, 0, 0, 0, 0, 0, 0, 0, 0, 0⟩ : S23), 1⟩ : S25), (⟨(⟨0, 0, 0, 0, 0, 0, 0, 0, 0, 0, 0, 0, 0, 0, 0, 0, 0, 0, 0, 0, 0, 0, 0, 0, 0, 0, 0, 0, 0, 0, 0, 0⟩ : S23), 2⟩ : S25)] := ⟨_, rfl⟩
  rw [← hy116, ← ht119] at A1
  replace A1 := Aside0.mk A1
  have A25 := Aside0.mk (show point_Has.f 40 t119 0 0 0 0 0 0 0 0 0 0 0 0 0 0 0 0 0 0 0 0 0 0 0 0 0 0 0 0 0 0 0 0 2 = some true by rw [ht119]; kernel_rfl)
  have c3b0 : ((t119.length : Int) == 2) = true := by rw [ht119]; rfl
  have p157 : 0 ≤ (0 : Int) := by omega
  have q157 : 0 < (t119.length : Int) := by rw [ht119]; decide
  have hrd := Aside0.mk (show rd_T25 t119 0 = (⟨(⟨0, 0, 0, 0, 0, 0, 0, 0, 0, 0, 0, 0, 0, 0, 0, 0, 0, 0, 0, 0, 0, 0, 0, 0, 0, 0, 0, 0, 0, 0, 0, 0⟩ : S23), 1⟩ : S25) by rw [ht119]; rfl)
  have Ny116 := Aside0.mk hy116
  clear hy116 ht119
  have A2 := Aside0.mk (show point_Parse.f (⟨#[120, 58, 49]⟩ : ByteArray) = some (0, 0, 0, 0, 0, 0, 0, 0, 0, 0, 0, 0, 0, 0, 0, 0, 0, 0, 0, 0, 0, 0, 0, 0, 0, 0, 0, 0, 0, 0, 0, 0, 0, false) by kernel_rfl)
  have A6 := Aside0.mk (show point_Less.f 0 0 0 0 0 0 0 0 0 0 0 0 0 0 0 0 0 0 0 0 0 0 0 0 0 0 0 0 0 0 0 0 1 0 0 0 0 0 0 0 0 0 0 0 0 0 0 0 0 0 0 0 0 0 0 0 0 0 0 0 0 0 0 0 0 2 = some true by kernel_rfl)
  have A8 := Aside0.mk (show point_Less.f 0 0 0 0 0 0 0 0 0 0 0 0 0 0 0 0 0 0 0 0 0 0 0 0 0 0 0 0 0 0 0 0 2 0 0 0 0 0 0 0 0 0 0 0 0 0 0 0 0 0 0 0 0 0 0 0 0 0 0 0 0 0 0 0 0 1 = some false by kernel_rfl)
  have A27 := Aside0.mk (show point_Text.f 0 0 0 0 0 0 0 0 0 0 0 0 0 0 0 0 0 0 0 0 0 0 0 0 0 0 0 0 0 0 0 0 (-1) = some (⟨#[]⟩ : ByteArray) by kernel_rfl)
  go_enter Tryd.func7, Tryd.ntmps7
  try go_wp2_with (first | ((with_reducible refine gate_dst (N := 1) rfl ?_); refine box_event ?hg (N := 1) ?hd (cs := (List.toArray (.int .u8 0 :: .int .u8 0 :: .int .u8 0 :: .int .u8 0 :: .int .u8 0 :: .int .u8 0 :: .int .u8 0 :: .int .u8 0 :: .int .u8 0 :: .int .u8 0 :: .int .u8 0 :: .int .u8 0 :: .int .u8 0 :: .int .u8 0 :: .int .u8 0 :: .int .u8 0 :: .int .u8 0 :: .int .u8 0 :: .int .u8 0 :: .int .u8 0 :: .int .u8 0 :: .int .u8 0 :: .int .u8 0 :: .int .u8 0 :: .int .u8 0 :: .int .u8 0 :: .int .u8 0 :: .int .u8 0 :: .int .u8 0 :: .int .u8 0 :: .int .u8 0 :: .int .u8 0 :: .int .i64 0 :: []))) (t := 25) ?hr ?_; (case hd => rfl); (case hg => rfl); (case hr => first | (go_simp; done) | (go_simp; rfl)); intro g1 hg w_g1 hbox hb; have hgw := below_size (by repeat (first | (with_reducible first | exact HB.out | apply below_alloc | apply pw_below_drewN | apply below_drew1) | exact HB.out)); have n0_ := Aside0.mk (below_step (by repeat (first | (with_reducible first | exact HB.out | apply below_alloc | apply pw_below_drewN | apply below_drew1) | exact HB.out)) hb); clear HB; have HB := n0_; clear n0_; have BK1 := Aside0.mk hbox; have G1 := Aside0.mk (show w.heap.size ≤ g1 by rw [hg]; exact hgw); clear hb hbox hg hgw) | ((with_reducible refine gate_dst (N := 2) rfl ?_); refine box_event ?hg (N := 2) ?hd (cs := (List.toArray (.int .u8 0 :: .int .u8 0 :: .int .u8 0 :: .int .u8 0 :: .int .u8 0 :: .int .u8 0 :: .int .u8 0 :: .int .u8 0 :: .int .u8 0 :: .int .u8 0 :: .int .u8 0 :: .int .u8 0 :: .int .u8 0 :: .int .u8 0 :: .int .u8 0 :: .int .u8 0 :: .int .u8 0 :: .int .u8 0 :: .int .u8 0 :: .int .u8 0 :: .int .u8 0 :: .int .u8 0 :: .int .u8 0 :: .int .u8 0 :: .int .u8 0 :: .int .u8 0 :: .int .u8 0 :: .int .u8 0 :: .int .u8 0 :: .int .u8 0 :: .int .u8 0 :: .int .u8 0 :: .int .i64 0 :: []))) (t := 25) ?hr ?_; (case hd => rfl); (case hg => rfl); (case hr => first | (go_simp; done) | (go_simp; rfl)); intro g2 hg w_g2 hbox hb; have hgw := below_size (by repeat (first | (with_reducible first | exact HB.out | apply below_alloc | apply pw_below_drewN | apply below_drew1) | exact HB.out)); have n0_ := Aside0.mk (below_step (by repeat (first | (with_reducible first | exact HB.out | apply below_alloc | apply pw_below_drewN | apply below_drew1) | exact HB.out)) hb); have n1_ := Aside0.mk (blk_below (g := g1) (o := .cells (List.toArray (.int .u8 0 :: .int .u8 0 :: .int .u8 0 :: .int .u8 0 :: .int .u8 0 :: .int .u8 0 :: .int .u8 0 :: .int .u8 0 :: .int .u8 0 :: .int .u8 0 :: .int .u8 0 :: .int .u8 0 :: .int .u8 0 :: .int .u8 0 :: .int .u8 0 :: .int .u8 0 :: .int .u8 0 :: .int .u8 0 :: .int .u8 0 :: .int .u8 0 :: .int .u8 0 :: .int .u8 0 :: .int .u8 0 :: .int .u8 0 :: .int .u8 0 :: .int .u8 0 :: .int .u8 0 :: .int .u8 0 :: .int .u8 0 :: .int .u8 0 :: .int .u8 0 :: .int .u8 0 :: .int .i64 0 :: [])) 25 (0, 0)) (by (with_reducible repeat (first | refine blk_drewN ?_ _ | refine blk_drew ?_ | refine blk_alloc ?_ _)); exact BK1.out) hb); have NE := Aside0.mk (show g1 ≠ g2 by rw [hg]; exact Nat.ne_of_lt (blk_lt (g := g1) (o := .cells (List.toArray (.int .u8 0 :: .int .u8 0 :: .int .u8 0 :: .int .u8 0 :: .int .u8 0 :: .int .u8 0 :: .int .u8 0 :: .int .u8 0 :: .int .u8 0 :: .int .u8 0 :: .int .u8 0 :: .int .u8 0 :: .int .u8 0 :: .int .u8 0 :: .int .u8 0 :: .int .u8 0 :: .int .u8 0 :: .int .u8 0 :: .int .u8 0 :: .int .u8 0 :: .int .u8 0 :: .int .u8 0 :: .int .u8 0 :: .int .u8 0 :: .int .u8 0 :: .int .u8 0 :: .int .u8 0 :: .int .u8 0 :: .int .u8 0 :: .int .u8 0 :: .int .u8 0 :: .int .u8 0 :: .int .i64 0 :: [])) 25 (0, 0)) (by (with_reducible repeat (first | refine blk_drewN ?_ _ | refine blk_drew ?_ | refine blk_alloc ?_ _)); exact BK1.out))); clear HB BK1; have HB := n0_; have BK1 := n1_; clear n0_ n1_; have BK2 := Aside0.mk hbox; have G2 := Aside0.mk (show w.heap.size ≤ g2 by rw [hg]; exact hgw); clear hb hbox hg hgw; refine Go.Proofs.YtmoecidfmgeafaaDoor.PutW.store_event ?b1 ?b2 25 (.tmp 1) (.tmp 6) ?b3 (g := g1) (z := (List.toArray (.int .u8 0 :: .int .u8 0 :: .int .u8 0 :: .int .u8 0 :: .int .u8 0 :: .int .u8 0 :: .int .u8 0 :: .int .u8 0 :: .int .u8 0 :: .int .u8 0 :: .int .u8 0 :: .int .u8 0 :: .int .u8 0 :: .int .u8 0 :: .int .u8 0 :: .int .u8 0 :: .int .u8 0 :: .int .u8 0 :: .int .u8 0 :: .int .u8 0 :: .int .u8 0 :: .int .u8 0 :: .int .u8 0 :: .int .u8 0 :: .int .u8 0 :: .int .u8 0 :: .int .u8 0 :: .int .u8 0 :: .int .u8 0 :: .int .u8 0 :: .int .u8 0 :: .int .u8 0 :: .int .i64 0 :: []))) (cells := (List.toArray (.int .u8 0 :: .int .u8 0 :: .int .u8 0 :: .int .u8 0 :: .int .u8 0 :: .int .u8 0 :: .int .u8 0 :: .int .u8 0 :: .int .u8 0 :: .int .u8 0 :: .int .u8 0 :: .int .u8 0 :: .int .u8 0 :: .int .u8 0 :: .int .u8 0 :: .int .u8 0 :: .int .u8 0 :: .int .u8 0 :: .int .u8 0 :: .int .u8 0 :: .int .u8 0 :: .int .u8 0 :: .int .u8 0 :: .int .u8 0 :: .int .u8 0 :: .int .u8 0 :: .int .u8 0 :: .int .u8 0 :: .int .u8 0 :: .int .u8 0 :: .int .u8 0 :: .int .u8 0 :: .int .i64 1 :: []))) (t := 25) ?a1 ?a2 BK1.out ?a3 ?a4 ?a5 ?_; (case b1 => rfl); (case b2 => rfl); (case b3 => rfl); (case a1 => first | rfl | (go_simp; done)); (case a2 => first | rfl | (go_simp; done)); (case a3 => rfl); (case a4 => kernel_rfl); (case a5 => first | kernel_rfl | (simp; done)); intro wa hswa hzwa hrwa; have n1_ := Aside0.mk ((hrwa.block g2 (blk_lt BK2.out) (fun e => NE.out (Option.some.inj e).symm)).trans BK2.out); have n0_ := Aside0.mk (pw_below_grown HB.out (some g1) (below_size HB.out) hrwa (fun k e => by cases e; exact G1.out)); clear HB BK1 BK2; have HB := n0_; have BK1 := Aside0.mk hswa; have BK2 := n1_; clear n0_ n1_ hswa hzwa hrwa; refine Go.Proofs.YtmoecidfmgeafaaDoor.PutW.store_event ?b1 ?b2 25 (.tmp 2) (.tmp 7) ?b3 (g := g2) (z := (List.toArray (.int .u8 0 :: .int .u8 0 :: .int .u8 0 :: .int .u8 0 :: .int .u8 0 :: .int .u8 0 :: .int .u8 0 :: .int .u8 0 :: .int .u8 0 :: .int .u8 0 :: .int .u8 0 :: .int .u8 0 :: .int .u8 0 :: .int .u8 0 :: .int .u8 0 :: .int .u8 0 :: .int .u8 0 :: .int .u8 0 :: .int .u8 0 :: .int .u8 0 :: .int .u8 0 :: .int .u8 0 :: .int .u8 0 :: .int .u8 0 :: .int .u8 0 :: .int .u8 0 :: .int .u8 0 :: .int .u8 0 :: .int .u8 0 :: .int .u8 0 :: .int .u8 0 :: .int .u8 0 :: .int .i64 0 :: []))) (cells := (List.toArray (.int .u8 0 :: .int .u8 0 :: .int .u8 0 :: .int .u8 0 :: .int .u8 0 :: .int .u8 0 :: .int .u8 0 :: .int .u8 0 :: .int .u8 0 :: .int .u8 0 :: .int .u8 0 :: .int .u8 0 :: .int .u8 0 :: .int .u8 0 :: .int .u8 0 :: .int .u8 0 :: .int .u8 0 :: .int .u8 0 :: .int .u8 0 :: .int .u8 0 :: .int .u8 0 :: .int .u8 0 :: .int .u8 0 :: .int .u8 0 :: .int .u8 0 :: .int .u8 0 :: .int .u8 0 :: .int .u8 0 :: .int .u8 0 :: .int .u8 0 :: .int .u8 0 :: .int .u8 0 :: .int .i64 2 :: []))) (t := 25) ?a1 ?a2 BK2.out ?a3 ?a4 ?a5 ?_; (case b1 => rfl); (case b2 => rfl); (case b3 => rfl); (case a1 => first | rfl | (go_simp; done)); (case a2 => first | rfl | (go_simp; done)); (case a3 => rfl); (case a4 => kernel_rfl); (case a5 => first | kernel_rfl | (simp; done)); intro wb hswb hzwb hrwb; have n1_ := Aside0.mk ((hrwb.block g1 (blk_lt BK1.out) (fun e => NE.out (Option.some.inj e))).trans BK1.out); have n0_ := Aside0.mk (pw_below_grown HB.out (some g2) (below_size HB.out) hrwb (fun k e => by cases e; exact G2.out)); clear HB BK1 BK2; have HB := n0_; have BK2 := Aside0.mk hswb; have BK1 := n1_; clear n0_ n1_ hswb hzwb hrwb; have hL1 := Go.Proofs.YtmoecidfmgeafaaDoor.Wide.cells_blk (cs := (.int .u8 0 :: .int .u8 0 :: .int .u8 0 :: .int .u8 0 :: .int .u8 0 :: .int .u8 0 :: .int .u8 0 :: .int .u8 0 :: .int .u8 0 :: .int .u8 0 :: .int .u8 0 :: .int .u8 0 :: .int .u8 0 :: .int .u8 0 :: .int .u8 0 :: .int .u8 0 :: .int .u8 0 :: .int .u8 0 :: .int .u8 0 :: .int .u8 0 :: .int .u8 0 :: .int .u8 0 :: .int .u8 0 :: .int .u8 0 :: .int .u8 0 :: .int .u8 0 :: .int .u8 0 :: .int .u8 0 :: .int .u8 0 :: .int .u8 0 :: .int .u8 0 :: .int .u8 0 :: .int .i64 1 :: [])) 33 rfl BK1.out; have hL2 := Go.Proofs.YtmoecidfmgeafaaDoor.Wide.cells_blk (cs := (.int .u8 0 :: .int .u8 0 :: .int .u8 0 :: .int .u8 0 :: .int .u8 0 :: .int .u8 0 :: .int .u8 0 :: .int .u8 0 :: .int .u8 0 :: .int .u8 0 :: .int .u8 0 :: .int .u8 0 :: .int .u8 0 :: .int .u8 0 :: .int .u8 0 :: .int .u8 0 :: .int .u8 0 :: .int .u8 0 :: .int .u8 0 :: .int .u8 0 :: .int .u8 0 :: .int .u8 0 :: .int .u8 0 :: .int .u8 0 :: .int .u8 0 :: .int .u8 0 :: .int .u8 0 :: .int .u8 0 :: .int .u8 0 :: .int .u8 0 :: .int .u8 0 :: .int .u8 0 :: .int .i64 2 :: [])) 33 rfl BK2.out) | (refine Kd.R_lit k25 _ 25 ?hg (N := 11) ?hd (xs := [(⟨(⟨0, 0, 0, 0, 0, 0, 0, 0, 0, 0, 0, 0, 0, 0, 0, 0, 0, 0, 0, 0, 0, 0, 0, 0, 0, 0, 0, 0, 0, 0, 0, 0⟩ : S23), 2⟩ : S25), (⟨(⟨0, 0, 0, 0, 0, 0, 0, 0, 0, 0, 0, 0, 0, 0, 0, 0, 0, 0, 0, 0, 0, 0, 0, 0, 0, 0, 0, 0, 0, 0, 0, 0⟩ : S23), 1⟩ : S25), (⟨(⟨0, 0, 0, 0, 0, 0, 0, 0, 0, 0, 0, 0, 0, 0, 0, 0, 0, 0, 0, 0, 0, 0, 0, 0, 0, 0, 0, 0, 0, 0, 0, 0⟩ : S23), 2⟩ : S25)]) (inner := (.int .u8 0 :: .int .u8 0 :: .int .u8 0 :: .int .u8 0 :: .int .u8 0 :: .int .u8 0 :: .int .u8 0 :: .int .u8 0 :: .int .u8 0 :: .int .u8 0 :: .int .u8 0 :: .int .u8 0 :: .int .u8 0 :: .int .u8 0 :: .int .u8 0 :: .int .u8 0 :: .int .u8 0 :: .int .u8 0 :: .int .u8 0 :: .int .u8 0 :: .int .u8 0 :: .int .u8 0 :: .int .u8 0 :: .int .u8 0 :: .int .u8 0 :: .int .u8 0 :: .int .u8 0 :: .int .u8 0 :: .int .u8 0 :: .int .u8 0 :: .int .u8 0 :: .int .u8 0 :: .int .i64 2 :: .int .u8 0 :: .int .u8 0 :: .int .u8 0 :: .int .u8 0 :: .int .u8 0 :: .int .u8 0 :: .int .u8 0 :: .int .u8 0 :: .int .u8 0 :: .int .u8 0 :: .int .u8 0 :: .int .u8 0 :: .int .u8 0 :: .int .u8 0 :: .int .u8 0 :: .int .u8 0 :: .int .u8 0 :: .int .u8 0 :: .int .u8 0 :: .int .u8 0 :: .int .u8 0 :: .int .u8 0 :: .int .u8 0 :: .int .u8 0 :: .int .u8 0 :: .int .u8 0 :: .int .u8 0 :: .int .u8 0 :: .int .u8 0 :: .int .u8 0 :: .int .u8 0 :: .int .u8 0 :: .int .i64 1 :: .int .u8 0 :: .int .u8 0 :: .int .u8 0 :: .int .u8 0 :: .int .u8 0 :: .int .u8 0 :: .int .u8 0 :: .int .u8 0 :: .int .u8 0 :: .int .u8 0 :: .int .u8 0 :: .int .u8 0 :: .int .u8 0 :: .int .u8 0 :: .int .u8 0 :: .int .u8 0 :: .int .u8 0 :: .int .u8 0 :: .int .u8 0 :: .int .u8 0 :: .int .u8 0 :: .int .u8 0 :: .int .u8 0 :: .int .u8 0 :: .int .u8 0 :: .int .u8 0 :: .int .u8 0 :: .int .u8 0 :: .int .u8 0 :: .int .u8 0 :: .int .u8 0 :: .int .u8 0 :: .int .i64 2 :: [])) (ok := fun _ => True) (okp := fun _ => True) ?hr ?hp (fun _ hk => hk) trivial (Below.refl _ _) (Nat.le_refl _) (by simp) ?_; (case hd => rfl); (case hg => rfl); (case hr => first | (go_simp; done) | (go_simp; rfl)); (case hp => exact (Reps.front (show Kd.M k25 _ _ _ (⟨(⟨0, 0, 0, 0, 0, 0, 0, 0, 0, 0, 0, 0, 0, 0, 0, 0, 0, 0, 0, 0, 0, 0, 0, 0, 0, 0, 0, 0, 0, 0, 0, 0⟩ : S23), 2⟩ : S25) (.int .u8 0 :: .int .u8 0 :: .int .u8 0 :: .int .u8 0 :: .int .u8 0 :: .int .u8 0 :: .int .u8 0 :: .int .u8 0 :: .int .u8 0 :: .int .u8 0 :: .int .u8 0 :: .int .u8 0 :: .int .u8 0 :: .int .u8 0 :: .int .u8 0 :: .int .u8 0 :: .int .u8 0 :: .int .u8 0 :: .int .u8 0 :: .int .u8 0 :: .int .u8 0 :: .int .u8 0 :: .int .u8 0 :: .int .u8 0 :: .int .u8 0 :: .int .u8 0 :: .int .u8 0 :: .int .u8 0 :: .int .u8 0 :: .int .u8 0 :: .int .u8 0 :: .int .u8 0 :: .int .i64 2 :: []) from (k25_mkM _ _ _ (⟨(⟨0, 0, 0, 0, 0, 0, 0, 0, 0, 0, 0, 0, 0, 0, 0, 0, 0, 0, 0, 0, 0, 0, 0, 0, 0, 0, 0, 0, 0, 0, 0, 0⟩ : S23), 2⟩ : S25) )) rfl (Reps.front (show Kd.M k25 _ _ _ (⟨(⟨0, 0, 0, 0, 0, 0, 0, 0, 0, 0, 0, 0, 0, 0, 0, 0, 0, 0, 0, 0, 0, 0, 0, 0, 0, 0, 0, 0, 0, 0, 0, 0⟩ : S23), 1⟩ : S25) (.int .u8 0 :: .int .u8 0 :: .int .u8 0 :: .int .u8 0 :: .int .u8 0 :: .int .u8 0 :: .int .u8 0 :: .int .u8 0 :: .int .u8 0 :: .int .u8 0 :: .int .u8 0 :: .int .u8 0 :: .int .u8 0 :: .int .u8 0 :: .int .u8 0 :: .int .u8 0 :: .int .u8 0 :: .int .u8 0 :: .int .u8 0 :: .int .u8 0 :: .int .u8 0 :: .int .u8 0 :: .int .u8 0 :: .int .u8 0 :: .int .u8 0 :: .int .u8 0 :: .int .u8 0 :: .int .u8 0 :: .int .u8 0 :: .int .u8 0 :: .int .u8 0 :: .int .u8 0 :: .int .i64 1 :: []) from (k25_mkM _ _ _ (⟨(⟨0, 0, 0, 0, 0, 0, 0, 0, 0, 0, 0, 0, 0, 0, 0, 0, 0, 0, 0, 0, 0, 0, 0, 0, 0, 0, 0, 0, 0, 0, 0, 0⟩ : S23), 1⟩ : S25) )) rfl (Reps.front (show Kd.M k25 _ _ _ (⟨(⟨0, 0, 0, 0, 0, 0, 0, 0, 0, 0, 0, 0, 0, 0, 0, 0, 0, 0, 0, 0, 0, 0, 0, 0, 0, 0, 0, 0, 0, 0, 0, 0⟩ : S23), 2⟩ : S25) (.int .u8 0 :: .int .u8 0 :: .int .u8 0 :: .int .u8 0 :: .int .u8 0 :: .int .u8 0 :: .int .u8 0 :: .int .u8 0 :: .int .u8 0 :: .int .u8 0 :: .int .u8 0 :: .int .u8 0 :: .int .u8 0 :: .int .u8 0 :: .int .u8 0 :: .int .u8 0 :: .int .u8 0 :: .int .u8 0 :: .int .u8 0 :: .int .u8 0 :: .int .u8 0 :: .int .u8 0 :: .int .u8 0 :: .int .u8 0 :: .int .u8 0 :: .int .u8 0 :: .int .u8 0 :: .int .u8 0 :: .int .u8 0 :: .int .u8 0 :: .int .u8 0 :: .int .u8 0 :: .int .i64 2 :: []) from (k25_mkM _ _ _ (⟨(⟨0, 0, 0, 0, 0, 0, 0, 0, 0, 0, 0, 0, 0, 0, 0, 0, 0, 0, 0, 0, 0, 0, 0, 0, 0, 0, 0, 0, 0, 0, 0, 0⟩ : S23), 2⟩ : S25) )) rfl (Reps.none _ _) rfl) rfl) rfl)); intro v117 w34 ho35 hb hg_ hnew_; clear hg_ hnew_ hL1 hL2; rw [← Ny116.out] at ho35; have HO118 := Aside0.mk ho35; have n1_ := Aside0.mk (blk_below (g := g1) (o := .cells (List.toArray (.int .u8 0 :: .int .u8 0 :: .int .u8 0 :: .int .u8 0 :: .int .u8 0 :: .int .u8 0 :: .int .u8 0 :: .int .u8 0 :: .int .u8 0 :: .int .u8 0 :: .int .u8 0 :: .int .u8 0 :: .int .u8 0 :: .int .u8 0 :: .int .u8 0 :: .int .u8 0 :: .int .u8 0 :: .int .u8 0 :: .int .u8 0 :: .int .u8 0 :: .int .u8 0 :: .int .u8 0 :: .int .u8 0 :: .int .u8 0 :: .int .u8 0 :: .int .u8 0 :: .int .u8 0 :: .int .u8 0 :: .int .u8 0 :: .int .u8 0 :: .int .u8 0 :: .int .u8 0 :: .int .i64 1 :: [])) 25 (0, 0)) (by (with_reducible repeat (first | refine blk_drewN ?_ _ | refine blk_drew ?_ | refine blk_alloc ?_ _)); exact BK1.out) hb); have n2_ := Aside0.mk (blk_below (g := g2) (o := .cells (List.toArray (.int .u8 0 :: .int .u8 0 :: .int .u8 0 :: .int .u8 0 :: .int .u8 0 :: .int .u8 0 :: .int .u8 0 :: .int .u8 0 :: .int .u8 0 :: .int .u8 0 :: .int .u8 0 :: .int .u8 0 :: .int .u8 0 :: .int .u8 0 :: .int .u8 0 :: .int .u8 0 :: .int .u8 0 :: .int .u8 0 :: .int .u8 0 :: .int .u8 0 :: .int .u8 0 :: .int .u8 0 :: .int .u8 0 :: .int .u8 0 :: .int .u8 0 :: .int .u8 0 :: .int .u8 0 :: .int .u8 0 :: .int .u8 0 :: .int .u8 0 :: .int .u8 0 :: .int .u8 0 :: .int .i64 2 :: [])) 25 (0, 0)) (by (with_reducible repeat (first | refine blk_drewN ?_ _ | refine blk_drew ?_ | refine blk_alloc ?_ _)); exact BK2.out) hb); have n3_ := Aside0.mk (below_step (by repeat (first | (with_reducible first | exact HB.out | apply below_alloc | apply pw_below_drewN | apply below_drew1) | exact HB.out)) hb); clear BK1 BK2 HB; have BK1 := n1_; have BK2 := n2_; have HB := n3_; clear n1_ n2_ n3_; clear hb ho35; obtain ⟨Ao36, co36, eo36⟩ := Kd.R_slice HO118.out; subst eo36) | ((with_reducible refine gate_callee (f := 14) rfl ?_); refine goesL_ (some 12) rfl rfl Tryd.func14 (by kernel_rfl) rfl #[.slice Ao36 y116.length co36] rfl (by (try simp only [List.map_toArray, List.map_cons, List.map_nil]); first | done | rfl | (simp only [List.length_drop, List.length_take]; rfl)) ?_; (with_reducible refine (point_Sort.calls _ _ y116 t119 _ ?side1 ?side2 A1.out).mono ?_); (case side1 => repeat (first | exact (Kd.R_reads' HO118.out).2.2 | (with_reducible refine Kd.C_alloc ?_ _) | (with_reducible refine Kd.C_drewN ?_ _) | (with_reducible refine Kd.C_drew ?_))); (case side2 => exact (Kd.R_reads' HO118.out).2.1); rintro e w37 ⟨v120, rfl, ho0, hb⟩; refine ⟨_, rfl, ?_⟩; have HO121 := Aside0.mk ho0; have n1_ := Aside0.mk (blk_below (g := g1) (o := .cells (List.toArray (.int .u8 0 :: .int .u8 0 :: .int .u8 0 :: .int .u8 0 :: .int .u8 0 :: .int .u8 0 :: .int .u8 0 :: .int .u8 0 :: .int .u8 0 :: .int .u8 0 :: .int .u8 0 :: .int .u8 0 :: .int .u8 0 :: .int .u8 0 :: .int .u8 0 :: .int .u8 0 :: .int .u8 0 :: .int .u8 0 :: .int .u8 0 :: .int .u8 0 :: .int .u8 0 :: .int .u8 0 :: .int .u8 0 :: .int .u8 0 :: .int .u8 0 :: .int .u8 0 :: .int .u8 0 :: .int .u8 0 :: .int .u8 0 :: .int .u8 0 :: .int .u8 0 :: .int .u8 0 :: .int .i64 1 :: [])) 25 (0, 0)) (by (with_reducible repeat (first | refine blk_drewN ?_ _ | refine blk_drew ?_ | refine blk_alloc ?_ _)); exact BK1.out) hb); have n2_ := Aside0.mk (blk_below (g := g2) (o := .cells (List.toArray (.int .u8 0 :: .int .u8 0 :: .int .u8 0 :: .int .u8 0 :: .int .u8 0 :: .int .u8 0 :: .int .u8 0 :: .int .u8 0 :: .int .u8 0 :: .int .u8 0 :: .int .u8 0 :: .int .u8 0 :: .int .u8 0 :: .int .u8 0 :: .int .u8 0 :: .int .u8 0 :: .int .u8 0 :: .int .u8 0 :: .int .u8 0 :: .int .u8 0 :: .int .u8 0 :: .int .u8 0 :: .int .u8 0 :: .int .u8 0 :: .int .u8 0 :: .int .u8 0 :: .int .u8 0 :: .int .u8 0 :: .int .u8 0 :: .int .u8 0 :: .int .u8 0 :: .int .u8 0 :: .int .i64 2 :: [])) 25 (0, 0)) (by (with_reducible repeat (first | refine blk_drewN ?_ _ | refine blk_drew ?_ | refine blk_alloc ?_ _)); exact BK2.out) hb); have n3_ := Aside0.mk (below_step (by repeat (first | (with_reducible first | exact HB.out | apply below_alloc | apply pw_below_drewN | apply below_drew1) | exact HB.out)) hb); clear BK1 BK2 HB; have BK1 := n1_; have BK2 := n2_; have HB := n3_; clear n1_ n2_ n3_; clear hb ho0 HO118) | ((with_reducible refine gate_callee (f := 8) rfl ?_); refine goesL_ (some 14) rfl rfl Tryd.func8 (by kernel_rfl) rfl #[.string (⟨#[120, 58, 49]⟩ : ByteArray)] rfl (by (try simp only [List.map_toArray, List.map_cons, List.map_nil]); first | done | rfl | (simp only [List.length_drop, List.length_take]; rfl)) ?_; (with_reducible refine (point_Parse.calls (⟨#[120, 58, 49]⟩ : ByteArray) 0 0 0 0 0 0 0 0 0 0 0 0 0 0 0 0 0 0 0 0 0 0 0 0 0 0 0 0 0 0 0 0 0 false _ A2.out).mono ?_); rintro e w38 ⟨rfl, hb⟩; refine ⟨_, rfl, ?_⟩; have n0_ := Aside0.mk (Kd.R_below (by (with_reducible repeat (first | apply Kd.R_alloc | apply Kd.R_drewN | apply Kd.R_drew)); exact HO121.out) hb); clear HO121; have HO121 := n0_; clear n0_; have n1_ := Aside0.mk (blk_below (g := g1) (o := .cells (List.toArray (.int .u8 0 :: .int .u8 0 :: .int .u8 0 :: .int .u8 0 :: .int .u8 0 :: .int .u8 0 :: .int .u8 0 :: .int .u8 0 :: .int .u8 0 :: .int .u8 0 :: .int .u8 0 :: .int .u8 0 :: .int .u8 0 :: .int .u8 0 :: .int .u8 0 :: .int .u8 0 :: .int .u8 0 :: .int .u8 0 :: .int .u8 0 :: .int .u8 0 :: .int .u8 0 :: .int .u8 0 :: .int .u8 0 :: .int .u8 0 :: .int .u8 0 :: .int .u8 0 :: .int .u8 0 :: .int .u8 0 :: .int .u8 0 :: .int .u8 0 :: .int .u8 0 :: .int .u8 0 :: .int .i64 1 :: [])) 25 (0, 0)) (by (with_reducible repeat (first | refine blk_drewN ?_ _ | refine blk_drew ?_ | refine blk_alloc ?_ _)); exact BK1.out) hb); have n2_ := Aside0.mk (blk_below (g := g2) (o := .cells (List.toArray (.int .u8 0 :: .int .u8 0 :: .int .u8 0 :: .int .u8 0 :: .int .u8 0 :: .int .u8 0 :: .int .u8 0 :: .int .u8 0 :: .int .u8 0 :: .int .u8 0 :: .int .u8 0 :: .int .u8 0 :: .int .u8 0 :: .int .u8 0 :: .int .u8 0 :: .int .u8 0 :: .int .u8 0 :: .int .u8 0 :: .int .u8 0 :: .int .u8 0 :: .int .u8 0 :: .int .u8 0 :: .int .u8 0 :: .int .u8 0 :: .int .u8 0 :: .int .u8 0 :: .int .u8 0 :: .int .u8 0 :: .int .u8 0 :: .int .u8 0 :: .int .u8 0 :: .int .u8 0 :: .int .i64 2 :: [])) 25 (0, 0)) (by (with_reducible repeat (first | refine blk_drewN ?_ _ | refine blk_drew ?_ | refine blk_alloc ?_ _)); exact BK2.out) hb); have n3_ := Aside0.mk (below_step (by repeat (first | (with_reducible first | exact HB.out | apply below_alloc | apply pw_below_drewN | apply below_drew1) | exact HB.out)) hb); clear BK1 BK2 HB; have BK1 := n1_; have BK2 := n2_; have HB := n3_; clear n1_ n2_ n3_; clear hb) | ((with_reducible refine gate_dst (N := 4) rfl ?_); refine box_event ?hg (N := 4) ?hd (cs := (List.toArray (.int .u8 0 :: .int .u8 0 :: .int .u8 0 :: .int .u8 0 :: .int .u8 0 :: .int .u8 0 :: .int .u8 0 :: .int .u8 0 :: .int .u8 0 :: .int .u8 0 :: .int .u8 0 :: .int .u8 0 :: .int .u8 0 :: .int .u8 0 :: .int .u8 0 :: .int .u8 0 :: .int .u8 0 :: .int .u8 0 :: .int .u8 0 :: .int .u8 0 :: .int .u8 0 :: .int .u8 0 :: .int .u8 0 :: .int .u8 0 :: .int .u8 0 :: .int .u8 0 :: .int .u8 0 :: .int .u8 0 :: .int .u8 0 :: .int .u8 0 :: .int .u8 0 :: .int .u8 0 :: .int .i64 0 :: []))) (t := 25) ?hr ?_; (case hd => rfl); (case hg => rfl); (case hr => first | (go_simp; done) | (go_simp; rfl)); intro g4 hg w_g4 hbox hb; have hgw := below_size (by repeat (first | (with_reducible first | exact HB.out | apply below_alloc | apply pw_below_drewN | apply below_drew1) | exact HB.out)); have NE1 := Aside0.mk (show g1 ≠ g4 by rw [hg]; exact Nat.ne_of_lt (blk_lt (g := g1) (o := .cells (List.toArray (.int .u8 0 :: .int .u8 0 :: .int .u8 0 :: .int .u8 0 :: .int .u8 0 :: .int .u8 0 :: .int .u8 0 :: .int .u8 0 :: .int .u8 0 :: .int .u8 0 :: .int .u8 0 :: .int .u8 0 :: .int .u8 0 :: .int .u8 0 :: .int .u8 0 :: .int .u8 0 :: .int .u8 0 :: .int .u8 0 :: .int .u8 0 :: .int .u8 0 :: .int .u8 0 :: .int .u8 0 :: .int .u8 0 :: .int .u8 0 :: .int .u8 0 :: .int .u8 0 :: .int .u8 0 :: .int .u8 0 :: .int .u8 0 :: .int .u8 0 :: .int .u8 0 :: .int .u8 0 :: .int .i64 1 :: [])) 25 (0, 0)) (by (with_reducible repeat (first | refine blk_drewN ?_ _ | refine blk_drew ?_ | refine blk_alloc ?_ _)); exact BK1.out))); have NE2 := Aside0.mk (show g2 ≠ g4 by rw [hg]; exact Nat.ne_of_lt (blk_lt (g := g2) (o := .cells (List.toArray (.int .u8 0 :: .int .u8 0 :: .int .u8 0 :: .int .u8 0 :: .int .u8 0 :: .int .u8 0 :: .int .u8 0 :: .int .u8 0 :: .int .u8 0 :: .int .u8 0 :: .int .u8 0 :: .int .u8 0 :: .int .u8 0 :: .int .u8 0 :: .int .u8 0 :: .int .u8 0 :: .int .u8 0 :: .int .u8 0 :: .int .u8 0 :: .int .u8 0 :: .int .u8 0 :: .int .u8 0 :: .int .u8 0 :: .int .u8 0 :: .int .u8 0 :: .int .u8 0 :: .int .u8 0 :: .int .u8 0 :: .int .u8 0 :: .int .u8 0 :: .int .u8 0 :: .int .u8 0 :: .int .i64 2 :: [])) 25 (0, 0)) (by (with_reducible repeat (first | refine blk_drewN ?_ _ | refine blk_drew ?_ | refine blk_alloc ?_ _)); exact BK2.out))); have n0_ := Aside0.mk (Kd.R_below (Kd.R_elderB (by (with_reducible repeat (first | apply Kd.R_alloc | apply Kd.R_drewN | apply Kd.R_drew)); exact HO121.out) g4 (Nat.le_of_eq hg.symm)) hb); clear HO121; have HO121 := n0_; clear n0_; have BK4 := Aside0.mk hbox; have G4 := Aside0.mk (show w.heap.size ≤ g4 by rw [hg]; exact hgw); have n1_ := Aside0.mk (blk_below (g := g1) (o := .cells (List.toArray (.int .u8 0 :: .int .u8 0 :: .int .u8 0 :: .int .u8 0 :: .int .u8 0 :: .int .u8 0 :: .int .u8 0 :: .int .u8 0 :: .int .u8 0 :: .int .u8 0 :: .int .u8 0 :: .int .u8 0 :: .int .u8 0 :: .int .u8 0 :: .int .u8 0 :: .int .u8 0 :: .int .u8 0 :: .int .u8 0 :: .int .u8 0 :: .int .u8 0 :: .int .u8 0 :: .int .u8 0 :: .int .u8 0 :: .int .u8 0 :: .int .u8 0 :: .int .u8 0 :: .int .u8 0 :: .int .u8 0 :: .int .u8 0 :: .int .u8 0 :: .int .u8 0 :: .int .u8 0 :: .int .i64 1 :: [])) 25 (0, 0)) (by (with_reducible repeat (first | refine blk_drewN ?_ _ | refine blk_drew ?_ | refine blk_alloc ?_ _)); exact BK1.out) hb); have n2_ := Aside0.mk (blk_below (g := g2) (o := .cells (List.toArray (.int .u8 0 :: .int .u8 0 :: .int .u8 0 :: .int .u8 0 :: .int .u8 0 :: .int .u8 0 :: .int .u8 0 :: .int .u8 0 :: .int .u8 0 :: .int .u8 0 :: .int .u8 0 :: .int .u8 0 :: .int .u8 0 :: .int .u8 0 :: .int .u8 0 :: .int .u8 0 :: .int .u8 0 :: .int .u8 0 :: .int .u8 0 :: .int .u8 0 :: .int .u8 0 :: .int .u8 0 :: .int .u8 0 :: .int .u8 0 :: .int .u8 0 :: .int .u8 0 :: .int .u8 0 :: .int .u8 0 :: .int .u8 0 :: .int .u8 0 :: .int .u8 0 :: .int .u8 0 :: .int .i64 2 :: [])) 25 (0, 0)) (by (with_reducible repeat (first | refine blk_drewN ?_ _ | refine blk_drew ?_ | refine blk_alloc ?_ _)); exact BK2.out) hb); have n3_ := Aside0.mk (below_step (by repeat (first | (with_reducible first | exact HB.out | apply below_alloc | apply pw_below_drewN | apply below_drew1) | exact HB.out)) hb); clear BK1 BK2 HB; have BK1 := n1_; have BK2 := n2_; have HB := n3_; clear n1_ n2_ n3_; clear hb hbox hg hgw; refine Go.Proofs.YtmoecidfmgeafaaDoor.PutW.store_event ?b1 ?b2 25 (.tmp 4) (.tmp 15) ?b3 (g := g4) (z := (List.toArray (.int .u8 0 :: .int .u8 0 :: .int .u8 0 :: .int .u8 0 :: .int .u8 0 :: .int .u8 0 :: .int .u8 0 :: .int .u8 0 :: .int .u8 0 :: .int .u8 0 :: .int .u8 0 :: .int .u8 0 :: .int .u8 0 :: .int .u8 0 :: .int .u8 0 :: .int .u8 0 :: .int .u8 0 :: .int .u8 0 :: .int .u8 0 :: .int .u8 0 :: .int .u8 0 :: .int .u8 0 :: .int .u8 0 :: .int .u8 0 :: .int .u8 0 :: .int .u8 0 :: .int .u8 0 :: .int .u8 0 :: .int .u8 0 :: .int .u8 0 :: .int .u8 0 :: .int .u8 0 :: .int .i64 0 :: []))) (cells := (List.toArray (.int .u8 0 :: .int .u8 0 :: .int .u8 0 :: .int .u8 0 :: .int .u8 0 :: .int .u8 0 :: .int .u8 0 :: .int .u8 0 :: .int .u8 0 :: .int .u8 0 :: .int .u8 0 :: .int .u8 0 :: .int .u8 0 :: .int .u8 0 :: .int .u8 0 :: .int .u8 0 :: .int .u8 0 :: .int .u8 0 :: .int .u8 0 :: .int .u8 0 :: .int .u8 0 :: .int .u8 0 :: .int .u8 0 :: .int .u8 0 :: .int .u8 0 :: .int .u8 0 :: .int .u8 0 :: .int .u8 0 :: .int .u8 0 :: .int .u8 0 :: .int .u8 0 :: .int .u8 0 :: .int .i64 0 :: []))) (t := 25) ?a1 ?a2 BK4.out ?a3 ?a4 ?a5 ?_; (case b1 => rfl); (case b2 => rfl); (case b3 => rfl); (case a1 => first | rfl | (go_simp; done)); (case a2 => first | rfl | (go_simp; done)); (case a3 => rfl); (case a4 => kernel_rfl); (case a5 => first | kernel_rfl | (simp; done)); intro wc hswc hzwc hrwc; have n1_ := Aside0.mk ((hrwc.block g1 (blk_lt BK1.out) (fun e => NE1.out (Option.some.inj e))).trans BK1.out); have n2_ := Aside0.mk ((hrwc.block g2 (blk_lt BK2.out) (fun e => NE2.out (Option.some.inj e))).trans BK2.out); have n0_ := Aside0.mk (Kd.R_grown HO121.out hrwc (fun k hk e => hk.2 (Option.some.inj e))); have n3_ := Aside0.mk (pw_below_grown HB.out (some g4) (below_size HB.out) hrwc (fun k e => by cases e; exact G4.out)); clear HO121 HB BK1 BK2 BK4 hswc hzwc hrwc; have HO121 := n0_; have BK1 := n1_; have BK2 := n2_; have HB := n3_; clear n0_ n1_ n2_ n3_))
  have n0_ := Aside0.mk (Kd.R_drew HO121.out)
  have n1_ := Aside0.mk (blk_drew BK1.out)
  have n2_ := Aside0.mk (blk_drew BK2.out)
  have n3_ := Aside0.mk (below_drew1 HB.out)
  clear HO121 BK1 BK2 HB
  have HO121 := n0_; have BK1 := n1_; have BK2 := n2_; have HB := n3_
  clear n0_ n1_ n2_ n3_
  obtain ⟨Ao41, co41, eo41⟩ := Kd.R_slice HO121.out
  (first | subst eo41 | (injection eo41 with f1_ f2_ f3_; have f4_ := f1_.symm; have f5_ := f3_.symm; clear f1_ f2_ f3_; subst f4_; subst f5_))
  obtain ⟨ad157, e157, hx157_0, hx157_1, hx157_2, hx157_3, hx157_4, hx157_5, hx157_6, hx157_7, hx157_8, hx157_9, hx157_10, hx157_11, hx157_12, hx157_13, hx157_14, hx157_15, hx157_16, hx157_17, hx157_18, hx157_19, hx157_20, hx157_21, hx157_22, hx157_23, hx157_24, hx157_25, hx157_26, hx157_27, hx157_28, hx157_29, hx157_30, hx157_31, hx157_32⟩ := at_T25 (Kd.R_reads' HO121.out).2.2 0 p157 q157
  cases e157
  have hw157_0_32 := Go.Proofs.YtmoecidfmgeafaaDoor.Wide.mk32 hx157_0 hx157_1 hx157_2 hx157_3 hx157_4 hx157_5 hx157_6 hx157_7 hx157_8 hx157_9 hx157_10 hx157_11 hx157_12 hx157_13 hx157_14 hx157_15 hx157_16 hx157_17 hx157_18 hx157_19 hx157_20 hx157_21 hx157_22 hx157_23 hx157_24 hx157_25 hx157_26 hx157_27 hx157_28 hx157_29 hx157_30 hx157_31
  have hw157_0_33 := Go.Proofs.YtmoecidfmgeafaaDoor.Wide.mk33 hx157_0 hx157_1 hx157_2 hx157_3 hx157_4 hx157_5 hx157_6 hx157_7 hx157_8 hx157_9 hx157_10 hx157_11 hx157_12 hx157_13 hx157_14 hx157_15 hx157_16 hx157_17 hx157_18 hx157_19 hx157_20 hx157_21 hx157_22 hx157_23 hx157_24 hx157_25 hx157_26 hx157_27 hx157_28 hx157_29 hx157_30 hx157_31 hx157_32
  have qi157 : (0 < t119.length) = True := eq_true (by omega)
  (try rw [show ((0 : Int)).toNat = 0 from rfl] at hx157_0); (try rw [show 0 * 33 = 0 from rfl] at hx157_0); (try rw [Addr.add_zero'] at hx157_0); rw [hrd.out] at hx157_0
  (try rw [show ((0 : Int)).toNat = 0 from rfl] at hx157_1); (try rw [show 0 * 33 = 0 from rfl] at hx157_1); (try rw [Addr.add_zero'] at hx157_1); rw [hrd.out] at hx157_1
  (try rw [show ((0 : Int)).toNat = 0 from rfl] at hx157_2); (try rw [show 0 * 33 = 0 from rfl] at hx157_2); (try rw [Addr.add_zero'] at hx157_2); rw [hrd.out] at hx157_2
  (try rw [show ((0 : Int)).toNat = 0 from rfl] at hx157_3); (try rw [show 0 * 33 = 0 from rfl] at hx157_3); (try rw [Addr.add_zero'] at hx157_3); rw [hrd.out] at hx157_3
  (try rw [show ((0 : Int)).toNat = 0 from rfl] at hx157_4); (try rw [show 0 * 33 = 0 from rfl] at hx157_4); (try rw [Addr.add_zero'] at hx157_4); rw [hrd.out] at hx157_4
  (try rw [show ((0 : Int)).toNat = 0 from rfl] at hx157_5); (try rw [show 0 * 33 = 0 from rfl] at hx157_5); (try rw [Addr.add_zero'] at hx157_5); rw [hrd.out] at hx157_5
  (try rw [show ((0 : Int)).toNat = 0 from rfl] at hx157_6); (try rw [show 0 * 33 = 0 from rfl] at hx157_6); (try rw [Addr.add_zero'] at hx157_6); rw [hrd.out] at hx157_6
  (try rw [show ((0 : Int)).toNat = 0 from rfl] at hx157_7); (try rw [show 0 * 33 = 0 from rfl] at hx157_7); (try rw [Addr.add_zero'] at hx157_7); rw [hrd.out] at hx157_7
  (try rw [show ((0 : Int)).toNat = 0 from rfl] at hx157_8); (try rw [show 0 * 33 = 0 from rfl] at hx157_8); (try rw [Addr.add_zero'] at hx157_8); rw [hrd.out] at hx157_8
  (try rw [show ((0 : Int)).toNat = 0 from rfl] at hx157_9); (try rw [show 0 * 33 = 0 from rfl] at hx157_9); (try rw [Addr.add_zero'] at hx157_9); rw [hrd.out] at hx157_9
  (try rw [show ((0 : Int)).toNat = 0 from rfl] at hx157_10); (try rw [show 0 * 33 = 0 from rfl] at hx157_10); (try rw [Addr.add_zero'] at hx157_10); rw [hrd.out] at hx157_10
  (try rw [show ((0 : Int)).toNat = 0 from rfl] at hx157_11); (try rw [show 0 * 33 = 0 from rfl] at hx157_11); (try rw [Addr.add_zero'] at hx157_11); rw [hrd.out] at hx157_11
  (try rw [show ((0 : Int)).toNat = 0 from rfl] at hx157_12); (try rw [show 0 * 33 = 0 from rfl] at hx157_12); (try rw [Addr.add_zero'] at hx157_12); rw [hrd.out] at hx157_12
  (try rw [show ((0 : Int)).toNat = 0 from rfl] at hx157_13); (try rw [show 0 * 33 = 0 from rfl] at hx157_13); (try rw [Addr.add_zero'] at hx157_13); rw [hrd.out] at hx157_13
  (try rw [show ((0 : Int)).toNat = 0 from rfl] at hx157_14); (try rw [show 0 * 33 = 0 from rfl] at hx157_14); (try rw [Addr.add_zero'] at hx157_14); rw [hrd.out] at hx157_14
  (try rw [show ((0 : Int)).toNat = 0 from rfl] at hx157_15); (try rw [show 0 * 33 = 0 from rfl] at hx157_15); (try rw [Addr.add_zero'] at hx157_15); rw [hrd.out] at hx157_15
  (try rw [show ((0 : Int)).toNat = 0 from rfl] at hx157_16); (try rw [show 0 * 33 = 0 from rfl] at hx157_16); (try rw [Addr.add_zero'] at hx157_16); rw [hrd.out] at hx157_16
  (try rw [show ((0 : Int)).toNat = 0 from rfl] at hx157_17); (try rw [show 0 * 33 = 0 from rfl] at hx157_17); (try rw [Addr.add_zero'] at hx157_17); rw [hrd.out] at hx157_17
  (try rw [show ((0 : Int)).toNat = 0 from rfl] at hx157_18); (try rw [show 0 * 33 = 0 from rfl] at hx157_18); (try rw [Addr.add_zero'] at hx157_18); rw [hrd.out] at hx157_18
  (try rw [show ((0 : Int)).toNat = 0 from rfl] at hx157_19); (try rw [show 0 * 33 = 0 from rfl] at hx157_19); (try rw [Addr.add_zero'] at hx157_19); rw [hrd.out] at hx157_19
  (try rw [show ((0 : Int)).toNat = 0 from rfl] at hx157_20); (try rw [show 0 * 33 = 0 from rfl] at hx157_20); (try rw [Addr.add_zero'] at hx157_20); rw [hrd.out] at hx157_20
  (try rw [show ((0 : Int)).toNat = 0 from rfl] at hx157_21); (try rw [show 0 * 33 = 0 from rfl] at hx157_21); (try rw [Addr.add_zero'] at hx157_21); rw [hrd.out] at hx157_21
  (try rw [show ((0 : Int)).toNat = 0 from rfl] at hx157_22); (try rw [show 0 * 33 = 0 from rfl] at hx157_22); (try rw [Addr.add_zero'] at hx157_22); rw [hrd.out] at hx157_22
  (try rw [show ((0 : Int)).toNat = 0 from rfl] at hx157_23); (try rw [show 0 * 33 = 0 from rfl] at hx157_23); (try rw [Addr.add_zero'] at hx157_23); rw [hrd.out] at hx157_23
  (try rw [show ((0 : Int)).toNat = 0 from rfl] at hx157_24); (try rw [show 0 * 33 = 0 from rfl] at hx157_24); (try rw [Addr.add_zero'] at hx157_24); rw [hrd.out] at hx157_24
  (try rw [show ((0 : Int)).toNat = 0 from rfl] at hx157_25); (try rw [show 0 * 33 = 0 from rfl] at hx157_25); (try rw [Addr.add_zero'] at hx157_25); rw [hrd.out] at hx157_25
  (try rw [show ((0 : Int)).toNat = 0 from rfl] at hx157_26); (try rw [show 0 * 33 = 0 from rfl] at hx157_26); (try rw [Addr.add_zero'] at hx157_26); rw [hrd.out] at hx157_26
  (try rw [show ((0 : Int)).toNat = 0 from rfl] at hx157_27); (try rw [show 0 * 33 = 0 from rfl] at hx157_27); (try rw [Addr.add_zero'] at hx157_27); rw [hrd.out] at hx157_27
  (try rw [show ((0 : Int)).toNat = 0 from rfl] at hx157_28); (try rw [show 0 * 33 = 0 from rfl] at hx157_28); (try rw [Addr.add_zero'] at hx157_28); rw [hrd.out] at hx157_28
  (try rw [show ((0 : Int)).toNat = 0 from rfl] at hx157_29); (try rw [show 0 * 33 = 0 from rfl] at hx157_29); (try rw [Addr.add_zero'] at hx157_29); rw [hrd.out] at hx157_29
  (try rw [show ((0 : Int)).toNat = 0 from rfl] at hx157_30); (try rw [show 0 * 33 = 0 from rfl] at hx157_30); (try rw [Addr.add_zero'] at hx157_30); rw [hrd.out] at hx157_30
  (try rw [show ((0 : Int)).toNat = 0 from rfl] at hx157_31); (try rw [show 0 * 33 = 0 from rfl] at hx157_31); (try rw [Addr.add_zero'] at hx157_31); rw [hrd.out] at hx157_31
  (try rw [show ((0 : Int)).toNat = 0 from rfl] at hx157_32); (try rw [show 0 * 33 = 0 from rfl] at hx157_32); (try rw [Addr.add_zero'] at hx157_32); rw [hrd.out] at hx157_32
  have hL3 := Aside0.mk (Go.Proofs.YtmoecidfmgeafaaDoor.Wide.mk33 hx157_0 hx157_1 hx157_2 hx157_3 hx157_4 hx157_5 hx157_6 hx157_7 hx157_8 hx157_9 hx157_10 hx157_11 hx157_12 hx157_13 hx157_14 hx157_15 hx157_16 hx157_17 hx157_18 hx157_19 hx157_20 hx157_21 hx157_22 hx157_23 hx157_24 hx157_25 hx157_26 hx157_27 hx157_28 hx157_29 hx157_30 hx157_31 hx157_32)
  clear hx157_0 hx157_1 hx157_2 hx157_3 hx157_4 hx157_5 hx157_6 hx157_7 hx157_8 hx157_9 hx157_10 hx157_11 hx157_12 hx157_13 hx157_14 hx157_15 hx157_16 hx157_17 hx157_18 hx157_19 hx157_20 hx157_21 hx157_22 hx157_23 hx157_24 hx157_25 hx157_26 hx157_27 hx157_28 hx157_29 hx157_30 hx157_31 hx157_32
  replace p157 := eq_true p157
  replace q157 := eq_true q157
  refine start_ (n := 36) (S := fun w' => Go.Proofs.YtmoecidfmgeafaaDoor.Wide.cellsAt w' ⟨g1, 0, none⟩ 33 = some (.int .u8 0 :: .int .u8 0 :: .int .u8 0 :: .int .u8 0 :: .int .u8 0 :: .int .u8 0 :: .int .u8 0 :: .int .u8 0 :: .int .u8 0 :: .int .u8 0 :: .int .u8 0 :: .int .u8 0 :: .int .u8 0 :: .int .u8 0 :: .int .u8 0 :: .int .u8 0 :: .int .u8 0 :: .int .u8 0 :: .int .u8 0 :: .int .u8 0 :: .int .u8 0 :: .int .u8 0 :: .int .u8 0 :: .int .u8 0 :: .int .u8 0 :: .int .u8 0 :: .int .u8 0 :: .int .u8 0 :: .int .u8 0 :: .int .u8 0 :: .int .u8 0 :: .int .u8 0 :: .int .i64 1 :: []) ∧ Go.Proofs.YtmoecidfmgeafaaDoor.Wide.cellsAt w' ⟨g2, 0, none⟩ 33 = some (.int .u8 0 :: .int .u8 0 :: .int .u8 0 :: .int .u8 0 :: .int .u8 0 :: .int .u8 0 :: .int .u8 0 :: .int .u8 0 :: .int .u8 0 :: .int .u8 0 :: .int .u8 0 :: .int .u8 0 :: .int .u8 0 :: .int .u8 0 :: .int .u8 0 :: .int .u8 0 :: .int .u8 0 :: .int .u8 0 :: .int .u8 0 :: .int .u8 0 :: .int .u8 0 :: .int .u8 0 :: .int .u8 0 :: .int .u8 0 :: .int .u8 0 :: .int .u8 0 :: .int .u8 0 :: .int .u8 0 :: .int .u8 0 :: .int .u8 0 :: .int .u8 0 :: .int .u8 0 :: .int .i64 2 :: []) ∧ Go.Proofs.YtmoecidfmgeafaaDoor.Wide.cellsAt w' ad157 33 = some (.int .u8 0 :: .int .u8 0 :: .int .u8 0 :: .int .u8 0 :: .int .u8 0 :: .int .u8 0 :: .int .u8 0 :: .int .u8 0 :: .int .u8 0 :: .int .u8 0 :: .int .u8 0 :: .int .u8 0 :: .int .u8 0 :: .int .u8 0 :: .int .u8 0 :: .int .u8 0 :: .int .u8 0 :: .int .u8 0 :: .int .u8 0 :: .int .u8 0 :: .int .u8 0 :: .int .u8 0 :: .int .u8 0 :: .int .u8 0 :: .int .u8 0 :: .int .u8 0 :: .int .u8 0 :: .int .u8 0 :: .int .u8 0 :: .int .u8 0 :: .int .u8 0 :: .int .u8 0 :: .int .i64 1 :: [])) (ds := []) #[false, false, false, false, false, false, false, false, false, false, false, false, false, false, false, false, false, false, false, false, false, false, false, false, false, false, false, false, false, false, false, false, false, false, false, false] (by kernel_rfl) rfl rfl ⟨Go.Proofs.YtmoecidfmgeafaaDoor.Wide.cells_blk 33 rfl BK1.out, Go.Proofs.YtmoecidfmgeafaaDoor.Wide.cells_blk 33 rfl BK2.out, hL3.out⟩ (fun hHeld => ?_); refine with_tabW coraclelaw3_awake.tab4 coraclelaw3_awake.bits4 (fun HT_ HW_ => ?_)
  refine pure_ (i := 0) (N := some 17) (v := ?_) (a' := ?_) #[true, false, false, false, false, false, false, false, false, false, false, false, false, false, false, false, false, false, false, false, false, false, false, false, false, false, false, false, false, false, false, false, false, false, false, false] rfl rfl (any_of HT_.out (by kernel_rfl)) (fun _ _ _ h => h) (Or.inl ⟨by rfl, ?_⟩) ?_ ?_
  rotate_left
  · intro w'
    go_simp
    with_reducible rfl
  rotate_left
  · simp only [Act.put, List.setIfInBounds_toArray, List.set_cons_zero, List.set_cons_succ, i64_w, i32_w]
    rfl
  refine pure_ (i := 1) (N := some 18) (v := ?_) (a' := ?_) #[true, true, false, false, false, false, false, false, false, false, false, false, false, false, false, false, false, false, false, false, false, false, false, false, false, false, false, false, false, false, false, false, false, false, false, false] rfl rfl (any_of HT_.out (by kernel_rfl)) (fun _ _ _ h => h) (Or.inl ⟨by rfl, ?_⟩) ?_ ?_
  rotate_left
  · intro w'
    go_simp
    with_reducible rfl
  rotate_left
  · simp only [Act.put, List.setIfInBounds_toArray, List.set_cons_zero, List.set_cons_succ, i64_w, i32_w]
    rfl
  refine pure_ (i := 2) (N := some 19) (v := ?_) (a' := ?_) #[true, true, true, false, false, false, false, false, false, false, false, false, false, false, false, false, false, false, false, false, false, false, false, false, false, false, false, false, false, false, false, false, false, false, false, false] rfl rfl (any_of HT_.out (by kernel_rfl)) (fun _ _ _ h => h) (Or.inl ⟨by rfl, ?_⟩) ?_ ?_
  rotate_left
  · intro w'
    go_simp
    with_reducible rfl
  rotate_left
  · simp only [Act.put, List.setIfInBounds_toArray, List.set_cons_zero, List.set_cons_succ, i64_w, i32_w]
    rfl
  refine pure_ (i := 3) (N := some 20) (v := ?_) (a' := ?_) #[true, true, true, true, false, false, false, false, false, false, false, false, false, false, false, false, false, false, false, false, false, false, false, false, false, false, false, false, false, false, false, false, false, false, false, false] rfl rfl (any_of HT_.out (by kernel_rfl)) (fun _ _ _ h => h) (Or.inl ⟨by rfl, ?_⟩) ?_ ?_
  rotate_left
  · intro w'
    go_simp
    with_reducible rfl
  rotate_left
  · simp only [Act.put, List.setIfInBounds_toArray, List.set_cons_zero, List.set_cons_succ, i64_w, i32_w]
    rfl
  refine pure_ (i := 4) (N := some 21) (v := ?_) (a' := ?_) #[true, true, true, true, true, false, false, false, false, false, false, false, false, false, false, false, false, false, false, false, false, false, false, false, false, false, false, false, false, false, false, false, false, false, false, false] rfl rfl (any_of HT_.out (by kernel_rfl)) (fun _ _ _ h => h) (Or.inl ⟨by rfl, ?_⟩) ?_ ?_
  rotate_left
  · intro w'
    go_simp
    with_reducible rfl
  rotate_left
  · simp only [Act.put, List.setIfInBounds_toArray, List.set_cons_zero, List.set_cons_succ, i64_w, i32_w]
    rfl
  refine pure_ (i := 5) (N := some 22) (v := ?_) (a' := ?_) #[true, true, true, true, true, true, false, false, false, false, false, false, false, false, false, false, false, false, false, false, false, false, false, false, false, false, false, false, false, false, false, false, false, false, false, false] rfl rfl (any_of HT_.out (by kernel_rfl)) (fun _ _ _ h => h) (Or.inl ⟨by rfl, ?_⟩) ?_ ?_
  rotate_left
  · intro w'
    go_simp
    with_reducible rfl
  rotate_left
  · simp only [Act.put, List.setIfInBounds_toArray, List.set_cons_zero, List.set_cons_succ, i64_w, i32_w]
    rfl
  refine take_ (i := 6) (N := some 23) (v := ?_) (a' := ?_) #[true, true, true, true, true, true, true, false, false, false, false, false, false, false, false, false, false, false, false, false, false, false, false, false, false, false, false, false, false, false, false, false, false, false, false, false] rfl rfl (take_ofW HT_.out HW_.out (by kernel_rfl)) (fun _ _ _ h => h) (Or.inl ⟨by rfl, ?_⟩) hHeld ?_ ?_
  rotate_left
  · rintro w' ⟨s0, s1, s2⟩
    go_simp
    with_reducible rfl
  rotate_left
  · simp only [Act.put, List.setIfInBounds_toArray, List.set_cons_zero, List.set_cons_succ, i64_w, i32_w]
    rfl
  refine take_ (i := 7) (N := some 24) (v := ?_) (a' := ?_) #[true, true, true, true, true, true, true, true, false, false, false, false, false, false, false, false, false, false, false, false, false, false, false, false, false, false, false, false, false, false, false, false, false, false, false, false] rfl rfl (take_ofW HT_.out HW_.out (by kernel_rfl)) (fun _ _ _ h => h) (Or.inl ⟨by rfl, ?_⟩) hHeld ?_ ?_
  rotate_left
  · rintro w' ⟨s0, s1, s2⟩
    go_simp
    with_reducible rfl
  rotate_left
  · simp only [Act.put, List.setIfInBounds_toArray, List.set_cons_zero, List.set_cons_succ, i64_w, i32_w]
    rfl
  refine pure_ (i := 8) (N := some 25) (v := ?_) (a' := ?_) #[true, true, true, true, true, true, true, true, true, false, false, false, false, false, false, false, false, false, false, false, false, false, false, false, false, false, false, false, false, false, false, false, false, false, false, false] rfl rfl (any_of HT_.out (by kernel_rfl)) (fun _ _ _ h => h) (Or.inl ⟨by rfl, ?_⟩) ?_ ?_
  rotate_left
  · intro w'
    go_simp
    with_reducible rfl
  rotate_left
  · simp only [Act.put, List.setIfInBounds_toArray, List.set_cons_zero, List.set_cons_succ, i64_w, i32_w]
    rfl
  refine pure_ (i := 9) (N := some 26) (v := ?_) (a' := ?_) #[true, true, true, true, true, true, true, true, true, true, false, false, false, false, false, false, false, false, false, false, false, false, false, false, false, false, false, false, false, false, false, false, false, false, false, false] rfl rfl (any_of HT_.out (by kernel_rfl)) (fun _ _ _ h => h) (Or.inl ⟨by rfl, ?_⟩) ?_ ?_
  rotate_left
  · intro w'
    go_simp
    with_reducible rfl
  rotate_left
  · simp only [Act.put, List.setIfInBounds_toArray, List.set_cons_zero, List.set_cons_succ, i64_w, i32_w]
    rfl
  refine pure_ (i := 10) (N := some 27) (v := ?_) (a' := ?_) #[true, true, true, true, true, true, true, true, true, true, true, false, false, false, false, false, false, false, false, false, false, false, false, false, false, false, false, false, false, false, false, false, false, false, false, false] rfl rfl (any_of HT_.out (by kernel_rfl)) (fun _ _ _ h => h) (Or.inl ⟨by rfl, ?_⟩) ?_ ?_
  rotate_left
  · intro w'
    go_simp
    with_reducible rfl
  rotate_left
  · simp only [Act.put, List.setIfInBounds_toArray, List.set_cons_zero, List.set_cons_succ, i64_w, i32_w]
    rfl
  refine take_ (i := 11) (N := some 28) (v := ?_) (a' := ?_) #[true, true, true, true, true, true, true, true, true, true, true, true, false, false, false, false, false, false, false, false, false, false, false, false, false, false, false, false, false, false, false, false, false, false, false, false] rfl rfl (take_ofW HT_.out HW_.out (by kernel_rfl)) (fun _ _ _ h => h) (Or.inl ⟨by rfl, ?_⟩) hHeld ?_ ?_
  rotate_left
  · rintro w' ⟨s0, s1, s2⟩
    go_simp
    with_reducible rfl
  rotate_left
  · simp only [Act.put, List.setIfInBounds_toArray, List.set_cons_zero, List.set_cons_succ, i64_w, i32_w]
    rfl
  refine take_ (i := 12) (N := some 29) (v := ?_) (a' := ?_) #[true, true, true, true, true, true, true, true, true, true, true, true, true, false, false, false, false, false, false, false, false, false, false, false, false, false, false, false, false, false, false, false, false, false, false, false] rfl rfl (take_ofW HT_.out HW_.out (by kernel_rfl)) (fun _ _ _ h => h) (Or.inl ⟨by rfl, ?_⟩) hHeld ?_ ?_
  rotate_left
  · rintro w' ⟨s0, s1, s2⟩
    go_simp
    with_reducible rfl
  rotate_left
  · simp only [Act.put, List.setIfInBounds_toArray, List.set_cons_zero, List.set_cons_succ, i64_w, i32_w]
    rfl
  refine one_ (i := 13) (N := some 30) #[true, true, true, true, true, true, true, true, true, true, true, true, true, true, false, false, false, false, false, false, false, false, false, false, false, false, false, false, false, false, false, false, false, false, false, false] rfl rfl (one_of HT_.out (by kernel_rfl)) (by decide) (fun K hK => ?_)
  refine goes_ Tryd.func23 (by kernel_rfl) rfl #[.agg (List.toArray (.int .u8 0 :: .int .u8 0 :: .int .u8 0 :: .int .u8 0 :: .int .u8 0 :: .int .u8 0 :: .int .u8 0 :: .int .u8 0 :: .int .u8 0 :: .int .u8 0 :: .int .u8 0 :: .int .u8 0 :: .int .u8 0 :: .int .u8 0 :: .int .u8 0 :: .int .u8 0 :: .int .u8 0 :: .int .u8 0 :: .int .u8 0 :: .int .u8 0 :: .int .u8 0 :: .int .u8 0 :: .int .u8 0 :: .int .u8 0 :: .int .u8 0 :: .int .u8 0 :: .int .u8 0 :: .int .u8 0 :: .int .u8 0 :: .int .u8 0 :: .int .u8 0 :: .int .u8 0 :: .int .i64 1 :: [])), .agg (List.toArray (.int .u8 0 :: .int .u8 0 :: .int .u8 0 :: .int .u8 0 :: .int .u8 0 :: .int .u8 0 :: .int .u8 0 :: .int .u8 0 :: .int .u8 0 :: .int .u8 0 :: .int .u8 0 :: .int .u8 0 :: .int .u8 0 :: .int .u8 0 :: .int .u8 0 :: .int .u8 0 :: .int .u8 0 :: .int .u8 0 :: .int .u8 0 :: .int .u8 0 :: .int .u8 0 :: .int .u8 0 :: .int .u8 0 :: .int .u8 0 :: .int .u8 0 :: .int .u8 0 :: .int .u8 0 :: .int .u8 0 :: .int .u8 0 :: .int .u8 0 :: .int .u8 0 :: .int .u8 0 :: .int .i64 2 :: []))] (by rfl) rfl rfl (by (try simp only [List.map_toArray, List.map_cons, List.map_nil]); first | done | rfl | (simp only [List.length_drop, List.length_take]; rfl)) ?_
  with_reducible refine (point_Less.calls 0 0 0 0 0 0 0 0 0 0 0 0 0 0 0 0 0 0 0 0 0 0 0 0 0 0 0 0 0 0 0 0 1 0 0 0 0 0 0 0 0 0 0 0 0 0 0 0 0 0 0 0 0 0 0 0 0 0 0 0 0 0 0 0 0 2 true _ A6.out).mono ?_
  rintro e ws13 ⟨rfl, hb⟩
  refine ⟨_, rfl, ?_⟩
  have n0_ := Aside0.mk (Kd.R_below (by (with_reducible repeat (first | apply Kd.R_alloc | apply Kd.R_drewN | apply Kd.R_drew)); exact HO121.out) hb); clear HO121; have HO121 := n0_; clear n0_
  have n3_ := Aside0.mk (below_step (by repeat (first | (with_reducible first | exact HB.out | apply below_alloc | apply pw_below_drewN | apply below_drew1) | exact HB.out)) hb); clear HB; have HB := n3_; clear n3_
  refine hK.out _ _ ⟨Go.Proofs.YtmoecidfmgeafaaDoor.Wide.cells_below hb 33 0 _ hHeld.1, Go.Proofs.YtmoecidfmgeafaaDoor.Wide.cells_below hb 33 0 _ hHeld.2.1, Go.Proofs.YtmoecidfmgeafaaDoor.Wide.cells_below hb 33 0 _ hHeld.2.2⟩ (fun hHeld2 => ?_)
  clear hK K hb hHeld
  have hHeld := hHeld2
  clear hHeld2
  refine norm_ (a' := ?_) ?_ ?_
  rotate_left
  · show Act.put _ (some 30) _ = _
    simp only [Act.put, List.setIfInBounds_toArray, List.set_cons_zero, List.set_cons_succ, i64_w, i32_w]
    rfl
  refine pure_ (i := 14) (N := some 31) (v := ?_) (a' := ?_) #[true, true, true, true, true, true, true, true, true, true, true, true, true, true, true, false, false, false, false, false, false, false, false, false, false, false, false, false, false, false, false, false, false, false, false, false] rfl rfl (any_of HT_.out (by kernel_rfl)) (fun _ _ _ h => h) (Or.inl ⟨by rfl, ?_⟩) ?_ ?_
  rotate_left
  · intro w'
    go_simp
    with_reducible rfl
  rotate_left
  · simp only [Act.put, List.setIfInBounds_toArray, List.set_cons_zero, List.set_cons_succ, i64_w, i32_w]
    rfl
  refine pure_ (i := 15) (N := some 32) (v := ?_) (a' := ?_) #[true, true, true, true, true, true, true, true, true, true, true, true, true, true, true, true, false, false, false, false, false, false, false, false, false, false, false, false, false, false, false, false, false, false, false, false] rfl rfl (any_of HT_.out (by kernel_rfl)) (fun _ _ _ h => h) (Or.inl ⟨by rfl, ?_⟩) ?_ ?_
  rotate_left
  · intro w'
    go_simp
    with_reducible rfl
  rotate_left
  · simp only [Act.put, List.setIfInBounds_toArray, List.set_cons_zero, List.set_cons_succ, i64_w, i32_w]
    rfl
  refine take_ (i := 16) (N := some 33) (v := ?_) (a' := ?_) #[true, true, true, true, true, true, true, true, true, true, true, true, true, true, true, true, true, false, false, false, false, false, false, false, false, false, false, false, false, false, false, false, false, false, false, false] rfl rfl (take_ofW HT_.out HW_.out (by kernel_rfl)) (fun _ _ _ h => h) (Or.inl ⟨by rfl, ?_⟩) hHeld ?_ ?_
  rotate_left
  · rintro w' ⟨s0, s1, s2⟩
    go_simp
    with_reducible rfl
  rotate_left
  · simp only [Act.put, List.setIfInBounds_toArray, List.set_cons_zero, List.set_cons_succ, i64_w, i32_w]
    rfl
  refine take_ (i := 17) (N := some 34) (v := ?_) (a' := ?_) #[true, true, true, true, true, true, true, true, true, true, true, true, true, true, true, true, true, true, false, false, false, false, false, false, false, false, false, false, false, false, false, false, false, false, false, false] rfl rfl (take_ofW HT_.out HW_.out (by kernel_rfl)) (fun _ _ _ h => h) (Or.inl ⟨by rfl, ?_⟩) hHeld ?_ ?_
  rotate_left
  · rintro w' ⟨s0, s1, s2⟩
    go_simp
    with_reducible rfl
  rotate_left
  · simp only [Act.put, List.setIfInBounds_toArray, List.set_cons_zero, List.set_cons_succ, i64_w, i32_w]
    rfl
  refine one_ (i := 18) (N := some 35) #[true, true, true, true, true, true, true, true, true, true, true, true, true, true, true, true, true, true, true, false, false, false, false, false, false, false, false, false, false, false, false, false, false, false, false, false] rfl rfl (one_of HT_.out (by kernel_rfl)) (by decide) (fun K hK => ?_)
  refine goes_ Tryd.func23 (by kernel_rfl) rfl #[.agg (List.toArray (.int .u8 0 :: .int .u8 0 :: .int .u8 0 :: .int .u8 0 :: .int .u8 0 :: .int .u8 0 :: .int .u8 0 :: .int .u8 0 :: .int .u8 0 :: .int .u8 0 :: .int .u8 0 :: .int .u8 0 :: .int .u8 0 :: .int .u8 0 :: .int .u8 0 :: .int .u8 0 :: .int .u8 0 :: .int .u8 0 :: .int .u8 0 :: .int .u8 0 :: .int .u8 0 :: .int .u8 0 :: .int .u8 0 :: .int .u8 0 :: .int .u8 0 :: .int .u8 0 :: .int .u8 0 :: .int .u8 0 :: .int .u8 0 :: .int .u8 0 :: .int .u8 0 :: .int .u8 0 :: .int .i64 2 :: [])), .agg (List.toArray (.int .u8 0 :: .int .u8 0 :: .int .u8 0 :: .int .u8 0 :: .int .u8 0 :: .int .u8 0 :: .int .u8 0 :: .int .u8 0 :: .int .u8 0 :: .int .u8 0 :: .int .u8 0 :: .int .u8 0 :: .int .u8 0 :: .int .u8 0 :: .int .u8 0 :: .int .u8 0 :: .int .u8 0 :: .int .u8 0 :: .int .u8 0 :: .int .u8 0 :: .int .u8 0 :: .int .u8 0 :: .int .u8 0 :: .int .u8 0 :: .int .u8 0 :: .int .u8 0 :: .int .u8 0 :: .int .u8 0 :: .int .u8 0 :: .int .u8 0 :: .int .u8 0 :: .int .u8 0 :: .int .i64 1 :: []))] (by rfl) rfl rfl (by (try simp only [List.map_toArray, List.map_cons, List.map_nil]); first | done | rfl | (simp only [List.length_drop, List.length_take]; rfl)) ?_
  with_reducible refine (point_Less.calls 0 0 0 0 0 0 0 0 0 0 0 0 0 0 0 0 0 0 0 0 0 0 0 0 0 0 0 0 0 0 0 0 2 0 0 0 0 0 0 0 0 0 0 0 0 0 0 0 0 0 0 0 0 0 0 0 0 0 0 0 0 0 0 0 0 1 false _ A8.out).mono ?_
  rintro e ws18 ⟨rfl, hb⟩
  refine ⟨_, rfl, ?_⟩
  have n0_ := Aside0.mk (Kd.R_below (by (with_reducible repeat (first | apply Kd.R_alloc | apply Kd.R_drewN | apply Kd.R_drew)); exact HO121.out) hb); clear HO121; have HO121 := n0_; clear n0_
  have n3_ := Aside0.mk (below_step (by repeat (first | (with_reducible first | exact HB.out | apply below_alloc | apply pw_below_drewN | apply below_drew1) | exact HB.out)) hb); clear HB; have HB := n3_; clear n3_
  refine hK.out _ _ ⟨Go.Proofs.YtmoecidfmgeafaaDoor.Wide.cells_below hb 33 0 _ hHeld.1, Go.Proofs.YtmoecidfmgeafaaDoor.Wide.cells_below hb 33 0 _ hHeld.2.1, Go.Proofs.YtmoecidfmgeafaaDoor.Wide.cells_below hb 33 0 _ hHeld.2.2⟩ (fun hHeld2 => ?_)
  clear hK K hb hHeld
  have hHeld := hHeld2
  clear hHeld2
  refine norm_ (a' := ?_) ?_ ?_
  rotate_left
  · show Act.put _ (some 35) _ = _
    simp only [Act.put, List.setIfInBounds_toArray, List.set_cons_zero, List.set_cons_succ, i64_w, i32_w]
    rfl
  refine pure_ (i := 19) (N := some 36) (v := ?_) (a' := ?_) #[true, true, true, true, true, true, true, true, true, true, true, true, true, true, true, true, true, true, true, true, false, false, false, false, false, false, false, false, false, false, false, false, false, false, false, false] rfl rfl (any_of HT_.out (by kernel_rfl)) (fun _ _ _ h => h) (Or.inl ⟨by rfl, ?_⟩) ?_ ?_
  rotate_left
  · intro w'
    go_simp
    with_reducible rfl
  rotate_left
  · simp only [Act.put, List.setIfInBounds_toArray, List.set_cons_zero, List.set_cons_succ, i64_w, i32_w]
    rfl
  refine pure_ (i := 20) (N := some 37) (v := ?_) (a' := ?_) #[true, true, true, true, true, true, true, true, true, true, true, true, true, true, true, true, true, true, true, true, true, false, false, false, false, false, false, false, false, false, false, false, false, false, false, false] rfl rfl (any_of HT_.out (by kernel_rfl)) (fun _ _ _ h => h) (Or.inl ⟨by rfl, ?_⟩) ?_ ?_
  rotate_left
  · intro w'
    go_simp
    with_reducible rfl
  rotate_left
  · simp only [Act.put, List.setIfInBounds_toArray, List.set_cons_zero, List.set_cons_succ, i64_w, i32_w]
    rfl
  refine pure_ (i := 21) (N := some 38) (v := ?_) (a' := ?_) #[true, true, true, true, true, true, true, true, true, true, true, true, true, true, true, true, true, true, true, true, true, true, false, false, false, false, false, false, false, false, false, false, false, false, false, false] rfl rfl (any_of HT_.out (by kernel_rfl)) (fun _ _ _ h => h) (Or.inl ⟨by rfl, ?_⟩) ?_ ?_
  rotate_left
  · intro w'
    go_simp
    with_reducible rfl
  rotate_left
  · simp only [Act.put, List.setIfInBounds_toArray, List.set_cons_zero, List.set_cons_succ, i64_w, i32_w]
    rfl
  refine pure_ (i := 22) (N := some 39) (v := ?_) (a' := ?_) #[true, true, true, true, true, true, true, true, true, true, true, true, true, true, true, true, true, true, true, true, true, true, true, false, false, false, false, false, false, false, false, false, false, false, false, false] rfl rfl (any_of HT_.out (by kernel_rfl)) (fun _ _ _ h => h) (Or.inl ⟨by rfl, ?_⟩) ?_ ?_
  rotate_left
  · intro w'
    go_simp
    with_reducible rfl
  rotate_left
  · simp only [Act.put, List.setIfInBounds_toArray, List.set_cons_zero, List.set_cons_succ, i64_w, i32_w]
    rfl
  refine take_ (i := 23) (N := some 40) (v := ?_) (a' := ?_) #[true, true, true, true, true, true, true, true, true, true, true, true, true, true, true, true, true, true, true, true, true, true, true, true, false, false, false, false, false, false, false, false, false, false, false, false] rfl rfl (take_ofW HT_.out HW_.out (by kernel_rfl)) (fun _ _ _ h => h) (Or.inl ⟨by rfl, ?_⟩) hHeld ?_ ?_
  rotate_left
  · rintro w' ⟨s0, s1, s2⟩
    go_simp
    with_reducible rfl
  rotate_left
  · simp only [Act.put, List.setIfInBounds_toArray, List.set_cons_zero, List.set_cons_succ, i64_w, i32_w]
    rfl
  refine one_ (i := 24) (N := some 41) #[true, true, true, true, true, true, true, true, true, true, true, true, true, true, true, true, true, true, true, true, true, true, true, true, true, false, false, false, false, false, false, false, false, false, false, false] rfl rfl (one_of HT_.out (by kernel_rfl)) (by decide) (fun K hK => ?_)
  refine goes_ Tryd.func20 (by kernel_rfl) rfl #[.slice (some ad157) t119.length co41, .agg (List.toArray (.int .u8 0 :: .int .u8 0 :: .int .u8 0 :: .int .u8 0 :: .int .u8 0 :: .int .u8 0 :: .int .u8 0 :: .int .u8 0 :: .int .u8 0 :: .int .u8 0 :: .int .u8 0 :: .int .u8 0 :: .int .u8 0 :: .int .u8 0 :: .int .u8 0 :: .int .u8 0 :: .int .u8 0 :: .int .u8 0 :: .int .u8 0 :: .int .u8 0 :: .int .u8 0 :: .int .u8 0 :: .int .u8 0 :: .int .u8 0 :: .int .u8 0 :: .int .u8 0 :: .int .u8 0 :: .int .u8 0 :: .int .u8 0 :: .int .u8 0 :: .int .u8 0 :: .int .u8 0 :: .int .i64 2 :: []))] (by rfl) rfl rfl (by (try simp only [List.map_toArray, List.map_cons, List.map_nil]); first | done | rfl | (simp only [List.length_drop, List.length_take]; rfl)) ?_
  with_reducible refine (point_Has.calls 40 _ _ t119 0 0 0 0 0 0 0 0 0 0 0 0 0 0 0 0 0 0 0 0 0 0 0 0 0 0 0 0 0 0 0 0 2 true _ ?side1 ?side2 A25.out).mono ?_
  (case side1 => repeat (first | exact (Kd.R_reads' HO121.out).2.2 | (with_reducible refine Kd.C_alloc ?_ _) | (with_reducible refine Kd.C_drewN ?_ _) | (with_reducible refine Kd.C_drew ?_))); (case side2 => exact (Kd.R_reads' HO121.out).2.1)
  rintro e ws24 ⟨rfl, hb⟩
  refine ⟨_, rfl, ?_⟩
  have n0_ := Aside0.mk (Kd.R_below (by (with_reducible repeat (first | apply Kd.R_alloc | apply Kd.R_drewN | apply Kd.R_drew)); exact HO121.out) hb); clear HO121; have HO121 := n0_; clear n0_
  have n3_ := Aside0.mk (below_step (by repeat (first | (with_reducible first | exact HB.out | apply below_alloc | apply pw_below_drewN | apply below_drew1) | exact HB.out)) hb); clear HB; have HB := n3_; clear n3_
  refine hK.out _ _ ⟨Go.Proofs.YtmoecidfmgeafaaDoor.Wide.cells_below hb 33 0 _ hHeld.1, Go.Proofs.YtmoecidfmgeafaaDoor.Wide.cells_below hb 33 0 _ hHeld.2.1, Go.Proofs.YtmoecidfmgeafaaDoor.Wide.cells_below hb 33 0 _ hHeld.2.2⟩ (fun hHeld2 => ?_)
  clear hK K hb hHeld
  have hHeld := hHeld2
  clear hHeld2
  refine norm_ (a' := ?_) ?_ ?_
  rotate_left
  · show Act.put _ (some 41) _ = _
    simp only [Act.put, List.setIfInBounds_toArray, List.set_cons_zero, List.set_cons_succ, i64_w, i32_w]
    rfl
  refine pure_ (i := 25) (N := some 42) (v := ?_) (a' := ?_) #[true, true, true, true, true, true, true, true, true, true, true, true, true, true, true, true, true, true, true, true, true, true, true, true, true, true, false, false, false, false, false, false, false, false, false, false] rfl rfl (any_of HT_.out (by kernel_rfl)) (fun _ _ _ h => h) (Or.inl ⟨by rfl, ?_⟩) ?_ ?_
  rotate_left
  · intro w'
    go_simp
    with_reducible rfl
  rotate_left
  · simp only [Act.put, List.setIfInBounds_toArray, List.set_cons_zero, List.set_cons_succ, i64_w, i32_w]
    rfl
  refine pure_ (i := 26) (N := some 43) (v := ?_) (a' := ?_) #[true, true, true, true, true, true, true, true, true, true, true, true, true, true, true, true, true, true, true, true, true, true, true, true, true, true, true, false, false, false, false, false, false, false, false, false] rfl rfl (any_of HT_.out (by kernel_rfl)) (fun _ _ _ h => h) (Or.inl ⟨by rfl, ?_⟩) ?_ ?_
  rotate_left
  · intro w'
    go_simp
    with_reducible rfl
  rotate_left
  · simp only [Act.put, List.setIfInBounds_toArray, List.set_cons_zero, List.set_cons_succ, i64_w, i32_w]
    rfl
  refine pure_ (i := 27) (N := some 44) (v := ?_) (a' := ?_) #[true, true, true, true, true, true, true, true, true, true, true, true, true, true, true, true, true, true, true, true, true, true, true, true, true, true, true, true, false, false, false, false, false, false, false, false] rfl rfl (any_of HT_.out (by kernel_rfl)) (fun _ _ _ h => h) (Or.inl ⟨by rfl, ?_⟩) ?_ ?_
  rotate_left
  · intro w'
    go_simp
    with_reducible rfl
  rotate_left
  · simp only [Act.put, List.setIfInBounds_toArray, List.set_cons_zero, List.set_cons_succ, i64_w, i32_w]
    rfl
  refine one_ (i := 28) (N := some 45) #[true, true, true, true, true, true, true, true, true, true, true, true, true, true, true, true, true, true, true, true, true, true, true, true, true, true, true, true, true, false, false, false, false, false, false, false] rfl rfl (one_of HT_.out (by kernel_rfl)) (by decide) (fun K hK => ?_)
  refine goes_ Tryd.func10 (by kernel_rfl) rfl #[.agg (List.toArray (.int .u8 0 :: .int .u8 0 :: .int .u8 0 :: .int .u8 0 :: .int .u8 0 :: .int .u8 0 :: .int .u8 0 :: .int .u8 0 :: .int .u8 0 :: .int .u8 0 :: .int .u8 0 :: .int .u8 0 :: .int .u8 0 :: .int .u8 0 :: .int .u8 0 :: .int .u8 0 :: .int .u8 0 :: .int .u8 0 :: .int .u8 0 :: .int .u8 0 :: .int .u8 0 :: .int .u8 0 :: .int .u8 0 :: .int .u8 0 :: .int .u8 0 :: .int .u8 0 :: .int .u8 0 :: .int .u8 0 :: .int .u8 0 :: .int .u8 0 :: .int .u8 0 :: .int .u8 0 :: .int .i64 (-1) :: []))] (by rfl) rfl rfl (by (try simp only [List.map_toArray, List.map_cons, List.map_nil]); first | done | rfl | (simp only [List.length_drop, List.length_take]; rfl)) ?_
  with_reducible refine (point_Text.calls 0 0 0 0 0 0 0 0 0 0 0 0 0 0 0 0 0 0 0 0 0 0 0 0 0 0 0 0 0 0 0 0 (-1) (⟨#[]⟩ : ByteArray) _ A27.out).mono ?_
  rintro e ws28 ⟨rfl, hb⟩
  refine ⟨_, rfl, ?_⟩
  have n0_ := Aside0.mk (Kd.R_below (by (with_reducible repeat (first | apply Kd.R_alloc | apply Kd.R_drewN | apply Kd.R_drew)); exact HO121.out) hb); clear HO121; have HO121 := n0_; clear n0_
  have n3_ := Aside0.mk (below_step (by repeat (first | (with_reducible first | exact HB.out | apply below_alloc | apply pw_below_drewN | apply below_drew1) | exact HB.out)) hb); clear HB; have HB := n3_; clear n3_
  refine hK.out _ _ ⟨Go.Proofs.YtmoecidfmgeafaaDoor.Wide.cells_below hb 33 0 _ hHeld.1, Go.Proofs.YtmoecidfmgeafaaDoor.Wide.cells_below hb 33 0 _ hHeld.2.1, Go.Proofs.YtmoecidfmgeafaaDoor.Wide.cells_below hb 33 0 _ hHeld.2.2⟩ (fun hHeld2 => ?_)
  clear hK K hb hHeld
  have hHeld := hHeld2
  clear hHeld2
  refine norm_ (a' := ?_) ?_ ?_
  rotate_left
  · show Act.put _ (some 45) _ = _
    simp only [Act.put, List.setIfInBounds_toArray, List.set_cons_zero, List.set_cons_succ, i64_w, i32_w]
    rfl
  refine pure_ (i := 29) (N := some 46) (v := ?_) (a' := ?_) #[true, true, true, true, true, true, true, true, true, true, true, true, true, true, true, true, true, true, true, true, true, true, true, true, true, true, true, true, true, true, false, false, false, false, false, false] rfl rfl (any_of HT_.out (by kernel_rfl)) (fun _ _ _ h => h) (Or.inl ⟨by rfl, ?_⟩) ?_ ?_
  rotate_left
  · intro w'
    go_simp
    with_reducible rfl
  rotate_left
  · simp only [Act.put, List.setIfInBounds_toArray, List.set_cons_zero, List.set_cons_succ, i64_w, i32_w]
    rfl
  refine pure_ (i := 30) (N := some 47) (v := ?_) (a' := ?_) #[true, true, true, true, true, true, true, true, true, true, true, true, true, true, true, true, true, true, true, true, true, true, true, true, true, true, true, true, true, true, true, false, false, false, false, false] rfl rfl (any_of HT_.out (by kernel_rfl)) (fun _ _ _ h => h) (Or.inl ⟨by rfl, ?_⟩) ?_ ?_
  rotate_left
  · intro w'
    go_simp
    with_reducible rfl
  rotate_left
  · simp only [Act.put, List.setIfInBounds_toArray, List.set_cons_zero, List.set_cons_succ, i64_w, i32_w]
    rfl
  refine pure_ (i := 31) (N := some 48) (v := ?_) (a' := ?_) #[true, true, true, true, true, true, true, true, true, true, true, true, true, true, true, true, true, true, true, true, true, true, true, true, true, true, true, true, true, true, true, true, false, false, false, false] rfl rfl (any_of HT_.out (by kernel_rfl)) (fun _ _ _ h => h) (Or.inl ⟨by rfl, ?_⟩) ?_ ?_
  rotate_left
  · intro w'
    go_simp
    with_reducible rfl
  rotate_left
  · simp only [Act.put, List.setIfInBounds_toArray, List.set_cons_zero, List.set_cons_succ, i64_w, i32_w]
    rfl
  refine pure_ (i := 32) (N := some 49) (v := ?_) (a' := ?_) #[true, true, true, true, true, true, true, true, true, true, true, true, true, true, true, true, true, true, true, true, true, true, true, true, true, true, true, true, true, true, true, true, true, false, false, false] rfl rfl (any_of HT_.out (by kernel_rfl)) (fun _ _ _ h => h) (Or.inl ⟨by rfl, ?_⟩) ?_ ?_
  rotate_left
  · intro w'
    go_simp
    with_reducible rfl
  rotate_left
  · simp only [Act.put, List.setIfInBounds_toArray, List.set_cons_zero, List.set_cons_succ, i64_w, i32_w]
    rfl
  refine pure_ (i := 33) (N := some 50) (v := ?_) (a' := ?_) #[true, true, true, true, true, true, true, true, true, true, true, true, true, true, true, true, true, true, true, true, true, true, true, true, true, true, true, true, true, true, true, true, true, true, false, false] rfl rfl (any_of HT_.out (by kernel_rfl)) (fun _ _ _ h => h) (Or.inl ⟨by rfl, ?_⟩) ?_ ?_
  rotate_left
  · intro w'
    go_simp
    with_reducible rfl
  rotate_left
  · simp only [Act.put, List.setIfInBounds_toArray, List.set_cons_zero, List.set_cons_succ, i64_w, i32_w]
    rfl
  refine pure_ (i := 34) (N := some 51) (v := ?_) (a' := ?_) #[true, true, true, true, true, true, true, true, true, true, true, true, true, true, true, true, true, true, true, true, true, true, true, true, true, true, true, true, true, true, true, true, true, true, true, false] rfl rfl (any_of HT_.out (by kernel_rfl)) (fun _ _ _ h => h) (Or.inl ⟨by rfl, ?_⟩) ?_ ?_
  rotate_left
  · intro w'
    go_simp
    with_reducible rfl
  rotate_left
  · simp only [Act.put, List.setIfInBounds_toArray, List.set_cons_zero, List.set_cons_succ, i64_w, i32_w]
    rfl
  refine pure_ (i := 35) (N := some 0) (v := ?_) (a' := ?_) #[true, true, true, true, true, true, true, true, true, true, true, true, true, true, true, true, true, true, true, true, true, true, true, true, true, true, true, true, true, true, true, true, true, true, true, true] rfl rfl (any_of HT_.out (by kernel_rfl)) (fun _ _ _ h => h) (Or.inl ⟨by rfl, ?_⟩) ?_ ?_
  rotate_left
  · intro w'
    go_simp
    with_reducible rfl
  rotate_left
  · simp only [Act.put, List.setIfInBounds_toArray, List.set_cons_zero, List.set_cons_succ, i64_w, i32_w]
    rfl
  refine done_ (done_of HT_.out (by kernel_rfl)) ?_
  try go_wp2
  go_ret
  exact ⟨by first | rfl | (simp [errW_none, errW_some] <;> rfl) | (simp [*, errW_none, errW_some] <;> rfl), (by repeat (first | (with_reducible first | exact HB.out | apply below_alloc | apply pw_below_drewN | apply below_drew1) | exact HB.out))⟩

/-! ### coracleref1_Times: function 21 -/
def coracleref1_Times.l0 : Nat → List (S25) → Int → Int → Int → Int → Int → Int → Int → Int → Int → Int → Int → Int → Int → Int → Int → Int → Int → Int → Int → Int → Int → Int → Int → Int → Int → Int → Int → Int → Int → Int → Int → Int → Int → Int → Int → Option (Int)
  | 0, _, _, _, _, _, _, _, _, _, _, _, _, _, _, _, _, _, _, _, _, _, _, _, _, _, _, _, _, _, _, _, _, _, _, _, _ => none
  | k + 1, x0, x5, x6, x115000, x115001, x115002, x115003, x115004, x115005, x115006, x115007, x115008, x115009, x115010, x115011, x115012, x115013, x115014, x115015, x115016, x115017, x115018, x115019, x115020, x115021, x115022, x115023, x115024, x115025, x115026, x115027, x115028, x115029, x115030, x115031, x115032 => if x6 < (x0.length : Int) then (if 0 ≤ x6 then (if ((((rd_T25 x0 x6).f0.f0) == x115000 && (((rd_T25 x0 x6).f0.f1) == x115001 && (((rd_T25 x0 x6).f0.f2) == x115002 && (((rd_T25 x0 x6).f0.f3) == x115003 && (((rd_T25 x0 x6).f0.f4) == x115004 && (((rd_T25 x0 x6).f0.f5) == x115005 && (((rd_T25 x0 x6).f0.f6) == x115006 && (((rd_T25 x0 x6).f0.f7) == x115007 && (((rd_T25 x0 x6).f0.f8) == x115008 && (((rd_T25 x0 x6).f0.f9) == x115009 && (((rd_T25 x0 x6).f0.f10) == x115010 && (((rd_T25 x0 x6).f0.f11) == x115011 && (((rd_T25 x0 x6).f0.f12) == x115012 && (((rd_T25 x0 x6).f0.f13) == x115013 && (((rd_T25 x0 x6).f0.f14) == x115014 && (((rd_T25 x0 x6).f0.f15) == x115015 && (((rd_T25 x0 x6).f0.f16) == x115016 && (((rd_T25 x0 x6).f0.f17) == x115017 && (((rd_T25 x0 x6).f0.f18) == x115018 && (((rd_T25 x0 x6).f0.f19) == x115019 && (((rd_T25 x0 x6).f0.f20) == x115020 && (((rd_T25 x0 x6).f0.f21) == x115021 && (((rd_T25 x0 x6).f0.f22) == x115022 && (((rd_T25 x0 x6).f0.f23) == x115023 && (((rd_T25 x0 x6).f0.f24) == x115024 && (((rd_T25 x0 x6).f0.f25) == x115025 && (((rd_T25 x0 x6).f0.f26) == x115026 && (((rd_T25 x0 x6).f0.f27) == x115027 && (((rd_T25 x0 x6).f0.f28) == x115028 && (((rd_T25 x0 x6).f0.f29) == x115029 && (((rd_T25 x0 x6).f0.f30) == x115030 && (((rd_T25 x0 x6).f0.f31) == x115031)))))))))))))))))))))))))))))))) && (((rd_T25 x0 x6).f1) == x115032)) = true then (coracleref1_Times.l0 k x0 (wrap64 (x5 + 1)) (wrap64 (x6 + 1)) x115000 x115001 x115002 x115003 x115004 x115005 x115006 x115007 x115008 x115009 x115010 x115011 x115012 x115013 x115014 x115015 x115016 x115017 x115018 x115019 x115020 x115021 x115022 x115023 x115024 x115025 x115026 x115027 x115028 x115029 x115030 x115031 x115032) else (coracleref1_Times.l0 k x0 x5 (wrap64 (x6 + 1)) x115000 x115001 x115002 x115003 x115004 x115005 x115006 x115007 x115008 x115009 x115010 x115011 x115012 x115013 x115014 x115015 x115016 x115017 x115018 x115019 x115020 x115021 x115022 x115023 x115024 x115025 x115026 x115027 x115028 x115029 x115030 x115031 x115032)) else (none)) else (some x5)
def coracleref1_Times.f (k : Nat) (l0 : List (S25)) (a1_0 : Int) (a1_1 : Int) (a1_2 : Int) (a1_3 : Int) (a1_4 : Int) (a1_5 : Int) (a1_6 : Int) (a1_7 : Int) (a1_8 : Int) (a1_9 : Int) (a1_10 : Int) (a1_11 : Int) (a1_12 : Int) (a1_13 : Int) (a1_14 : Int) (a1_15 : Int) (a1_16 : Int) (a1_17 : Int) (a1_18 : Int) (a1_19 : Int) (a1_20 : Int) (a1_21 : Int) (a1_22 : Int) (a1_23 : Int) (a1_24 : Int) (a1_25 : Int) (a1_26 : Int) (a1_27 : Int) (a1_28 : Int) (a1_29 : Int) (a1_30 : Int) (a1_31 : Int) (a1_32 : Int) : Option (Int) := coracleref1_Times.l0 k l0 0 0 a1_0 a1_1 a1_2 a1_3 a1_4 a1_5 a1_6 a1_7 a1_8 a1_9 a1_10 a1_11 a1_12 a1_13 a1_14 a1_15 a1_16 a1_17 a1_18 a1_19 a1_20 a1_21 a1_22 a1_23 a1_24 a1_25 a1_26 a1_27 a1_28 a1_29 a1_30 a1_31 a1_32
theorem coracleref1_Times.mono_l : ∀ k, (∀ y0 y1 y2 y3 y4 y5 y6 y7 y8 y9 y10 y11 y12 y13 y14 y15 y16 y17 y18 y19 y20 y21 y22 y23 y24 y25 y26 y27 y28 y29 y30 y31 y32 y33 y34 y35, LeO (coracleref1_Times.l0 k y0 y1 y2 y3 y4 y5 y6 y7 y8 y9 y10 y11 y12 y13 y14 y15 y16 y17 y18 y19 y20 y21 y22 y23 y24 y25 y26 y27 y28 y29 y30 y31 y32 y33 y34 y35) (coracleref1_Times.l0 (k + 1) y0 y1 y2 y3 y4 y5 y6 y7 y8 y9 y10 y11 y12 y13 y14 y15 y16 y17 y18 y19 y20 y21 y22 y23 y24 y25 y26 y27 y28 y29 y30 y31 y32 y33 y34 y35))
  | 0 => fun _ _ _ _ _ _ _ _ _ _ _ _ _ _ _ _ _ _ _ _ _ _ _ _ _ _ _ _ _ _ _ _ _ _ _ _ r h => by simp [coracleref1_Times.l0] at h
  | k + 1 => by
    have ih0 := coracleref1_Times.mono_l k
    · intro y0 y1 y2 y3 y4 y5 y6 y7 y8 y9 y10 y11 y12 y13 y14 y15 y16 y17 y18 y19 y20 y21 y22 y23 y24 y25 y26 y27 y28 y29 y30 y31 y32 y33 y34 y35
      unfold coracleref1_Times.l0
      repeat' first
      | (with_reducible exact ih0 _ _ _ _ _ _ _ _ _ _ _ _ _ _ _ _ _ _ _ _ _ _ _ _ _ _ _ _ _ _ _ _ _ _ _ _)
      | (with_reducible exact LeO.refl _)
      | (with_reducible exact LeO.none _)
      | (with_reducible refine LeO.ite ?_ ?_)
      | (with_reducible refine LeO.bind ?_ (fun _ => ?_))
      | exact ih0 _ _ _ _ _ _ _ _ _ _ _ _ _ _ _ _ _ _ _ _ _ _ _ _ _ _ _ _ _ _ _ _ _ _ _ _
      | exact LeO.none _
      | refine LeO.ite ?_ ?_
      | refine LeO.bind ?_ (fun _ => ?_)
theorem coracleref1_Times.mono : ∀ a0 a1 a2 a3 a4 a5 a6 a7 a8 a9 a10 a11 a12 a13 a14 a15 a16 a17 a18 a19 a20 a21 a22 a23 a24 a25 a26 a27 a28 a29 a30 a31 a32 a33 k, LeO (coracleref1_Times.f k a0 a1 a2 a3 a4 a5 a6 a7 a8 a9 a10 a11 a12 a13 a14 a15 a16 a17 a18 a19 a20 a21 a22 a23 a24 a25 a26 a27 a28 a29 a30 a31 a32 a33) (coracleref1_Times.f (k + 1) a0 a1 a2 a3 a4 a5 a6 a7 a8 a9 a10 a11 a12 a13 a14 a15 a16 a17 a18 a19 a20 a21 a22 a23 a24 a25 a26 a27 a28 a29 a30 a31 a32 a33) := by
  intro a0 a1 a2 a3 a4 a5 a6 a7 a8 a9 a10 a11 a12 a13 a14 a15 a16 a17 a18 a19 a20 a21 a22 a23 a24 a25 a26 a27 a28 a29 a30 a31 a32 a33 k
  have ih0 := coracleref1_Times.mono_l k
  unfold coracleref1_Times.f
  repeat' first
      | (with_reducible exact ih0 _ _ _ _ _ _ _ _ _ _ _ _ _ _ _ _ _ _ _ _ _ _ _ _ _ _ _ _ _ _ _ _ _ _ _ _)
      | (with_reducible exact LeO.refl _)
      | (with_reducible exact LeO.none _)
      | (with_reducible refine LeO.ite ?_ ?_)
      | (with_reducible refine LeO.bind ?_ (fun _ => ?_))
      | exact ih0 _ _ _ _ _ _ _ _ _ _ _ _ _ _ _ _ _ _ _ _ _ _ _ _ _ _ _ _ _ _ _ _ _ _ _ _
      | exact LeO.none _
      | refine LeO.ite ?_ ?_
      | refine LeO.bind ?_ (fun _ => ?_)
set_option maxHeartbeats 8000000 in
set_option maxRecDepth 100000 in
theorem coracleref1_Times.calls (k : Nat) (A0 : Option Addr) (c0 : Nat) (l0 : List (S25)) (a1_0 : Int) (a1_1 : Int) (a1_2 : Int) (a1_3 : Int) (a1_4 : Int) (a1_5 : Int) (a1_6 : Int) (a1_7 : Int) (a1_8 : Int) (a1_9 : Int) (a1_10 : Int) (a1_11 : Int) (a1_12 : Int) (a1_13 : Int) (a1_14 : Int) (a1_15 : Int) (a1_16 : Int) (a1_17 : Int) (a1_18 : Int) (a1_19 : Int) (a1_20 : Int) (a1_21 : Int) (a1_22 : Int) (a1_23 : Int) (a1_24 : Int) (a1_25 : Int) (a1_26 : Int) (a1_27 : Int) (a1_28 : Int) (a1_29 : Int) (a1_30 : Int) (a1_31 : Int) (a1_32 : Int) (r : Int) (w : World) (hr0 : Kd.C k25 w A0 l0.length l0) (hc0 : l0.length ≤ c0) (h : coracleref1_Times.f k l0 a1_0 a1_1 a1_2 a1_3 a1_4 a1_5 a1_6 a1_7 a1_8 a1_9 a1_10 a1_11 a1_12 a1_13 a1_14 a1_15 a1_16 a1_17 a1_18 a1_19 a1_20 a1_21 a1_22 a1_23 a1_24 a1_25 a1_26 a1_27 a1_28 a1_29 a1_30 a1_31 a1_32 = some r) :
    Calls Tryd.prog 21 #[.slice A0 l0.length c0, .agg #[.int .u8 a1_0, .int .u8 a1_1, .int .u8 a1_2, .int .u8 a1_3, .int .u8 a1_4, .int .u8 a1_5, .int .u8 a1_6, .int .u8 a1_7, .int .u8 a1_8, .int .u8 a1_9, .int .u8 a1_10, .int .u8 a1_11, .int .u8 a1_12, .int .u8 a1_13, .int .u8 a1_14, .int .u8 a1_15, .int .u8 a1_16, .int .u8 a1_17, .int .u8 a1_18, .int .u8 a1_19, .int .u8 a1_20, .int .u8 a1_21, .int .u8 a1_22, .int .u8 a1_23, .int .u8 a1_24, .int .u8 a1_25, .int .u8 a1_26, .int .u8 a1_27, .int .u8 a1_28, .int .u8 a1_29, .int .u8 a1_30, .int .u8 a1_31, .int .i64 a1_32]] w fun e w' => e = .returned (.int .i64 r) ∧ Below w.heap.size w w' := by
  have hu25 := Tryd.underlying25
  have HR0 := Aside0.mk hr0
  have HC0 := Aside0.mk hc0
  clear hr0 hc0
  have HB := Aside0.mk (Below.refl w.heap.size w)
  have H : (coracleref1_Times.l0 k l0 0 0 a1_0 a1_1 a1_2 a1_3 a1_4 a1_5 a1_6 a1_7 a1_8 a1_9 a1_10 a1_11 a1_12 a1_13 a1_14 a1_15 a1_16 a1_17 a1_18 a1_19 a1_20 a1_21 a1_22 a1_23 a1_24 a1_25 a1_26 a1_27 a1_28 a1_29 a1_30 a1_31 a1_32) = some r := h
  clear h
  have H' := Aside0.mk H
  clear H
  go_enter Tryd.func21, Tryd.ntmps21
  go_wp2_with (first | ((with_reducible refine gate_dst (N := 3) rfl ?_); refine box_event ?hg (N := 3) ?hd (cs := #[.int .u8 a1_0, .int .u8 a1_1, .int .u8 a1_2, .int .u8 a1_3, .int .u8 a1_4, .int .u8 a1_5, .int .u8 a1_6, .int .u8 a1_7, .int .u8 a1_8, .int .u8 a1_9, .int .u8 a1_10, .int .u8 a1_11, .int .u8 a1_12, .int .u8 a1_13, .int .u8 a1_14, .int .u8 a1_15, .int .u8 a1_16, .int .u8 a1_17, .int .u8 a1_18, .int .u8 a1_19, .int .u8 a1_20, .int .u8 a1_21, .int .u8 a1_22, .int .u8 a1_23, .int .u8 a1_24, .int .u8 a1_25, .int .u8 a1_26, .int .u8 a1_27, .int .u8 a1_28, .int .u8 a1_29, .int .u8 a1_30, .int .u8 a1_31, .int .i64 a1_32]) (t := 25) ?hr ?_; (case hd => rfl); (case hg => rfl); (case hr => first | (go_simp; done) | (go_simp; rfl)); intro gb114 hg w3 hbox hb; have n0_ := Aside0.mk (below_step (by repeat (first | (with_reducible first | exact HB.out | apply below_alloc | apply pw_below_drewN | apply below_drew1) | exact HB.out)) hb); have n1_ := Aside0.mk (hbox); have n2_ := Aside0.mk ((by rw [hg]; exact (below_size (by repeat (first | (with_reducible first | exact HB.out | apply below_alloc | apply pw_below_drewN | apply below_drew1) | exact HB.out))) : w.heap.size ≤ gb114)); have n3_ := Aside0.mk ((by rw [hg]; exact (below_size (by repeat (first | (with_reducible first | exact HB.out | apply below_alloc | apply pw_below_drewN | apply below_drew1) | exact HB.out))) : w.heap.size ≤ gb114)); clear HB; have HB := n0_; have BK114 := n1_; have GW114 := n2_; have GE114 := n3_; clear n0_ n1_ n2_ n3_; clear hb hbox hg))
  repeat (go_quiet (first | ((with_reducible refine gate_dst (N := 3) rfl ?_); refine box_event ?hg (N := 3) ?hd (cs := #[.int .u8 a1_0, .int .u8 a1_1, .int .u8 a1_2, .int .u8 a1_3, .int .u8 a1_4, .int .u8 a1_5, .int .u8 a1_6, .int .u8 a1_7, .int .u8 a1_8, .int .u8 a1_9, .int .u8 a1_10, .int .u8 a1_11, .int .u8 a1_12, .int .u8 a1_13, .int .u8 a1_14, .int .u8 a1_15, .int .u8 a1_16, .int .u8 a1_17, .int .u8 a1_18, .int .u8 a1_19, .int .u8 a1_20, .int .u8 a1_21, .int .u8 a1_22, .int .u8 a1_23, .int .u8 a1_24, .int .u8 a1_25, .int .u8 a1_26, .int .u8 a1_27, .int .u8 a1_28, .int .u8 a1_29, .int .u8 a1_30, .int .u8 a1_31, .int .i64 a1_32]) (t := 25) ?hr ?_; (case hd => rfl); (case hg => rfl); (case hr => first | (go_simp; done) | (go_simp; rfl)); intro gb114 hg w3 hbox hb; have n0_ := Aside0.mk (below_step (by repeat (first | (with_reducible first | exact HB.out | apply below_alloc | apply pw_below_drewN | apply below_drew1) | exact HB.out)) hb); have n1_ := Aside0.mk (hbox); have n2_ := Aside0.mk ((by rw [hg]; exact (below_size (by repeat (first | (with_reducible first | exact HB.out | apply below_alloc | apply pw_below_drewN | apply below_drew1) | exact HB.out))) : w.heap.size ≤ gb114)); have n3_ := Aside0.mk ((by rw [hg]; exact (below_size (by repeat (first | (with_reducible first | exact HB.out | apply below_alloc | apply pw_below_drewN | apply below_drew1) | exact HB.out))) : w.heap.size ≤ gb114)); clear HB; have HB := n0_; have BK114 := n1_; have GW114 := n2_; have GE114 := n3_; clear n0_ n1_ n2_ n3_; clear hb hbox hg)); try go_wp2_with (first | ((with_reducible refine gate_dst (N := 3) rfl ?_); refine box_event ?hg (N := 3) ?hd (cs := #[.int .u8 a1_0, .int .u8 a1_1, .int .u8 a1_2, .int .u8 a1_3, .int .u8 a1_4, .int .u8 a1_5, .int .u8 a1_6, .int .u8 a1_7, .int .u8 a1_8, .int .u8 a1_9, .int .u8 a1_10, .int .u8 a1_11, .int .u8 a1_12, .int .u8 a1_13, .int .u8 a1_14, .int .u8 a1_15, .int .u8 a1_16, .int .u8 a1_17, .int .u8 a1_18, .int .u8 a1_19, .int .u8 a1_20, .int .u8 a1_21, .int .u8 a1_22, .int .u8 a1_23, .int .u8 a1_24, .int .u8 a1_25, .int .u8 a1_26, .int .u8 a1_27, .int .u8 a1_28, .int .u8 a1_29, .int .u8 a1_30, .int .u8 a1_31, .int .i64 a1_32]) (t := 25) ?hr ?_; (case hd => rfl); (case hg => rfl); (case hr => first | (go_simp; done) | (go_simp; rfl)); intro gb114 hg w3 hbox hb; have n0_ := Aside0.mk (below_step (by repeat (first | (with_reducible first | exact HB.out | apply below_alloc | apply pw_below_drewN | apply below_drew1) | exact HB.out)) hb); have n1_ := Aside0.mk (hbox); have n2_ := Aside0.mk ((by rw [hg]; exact (below_size (by repeat (first | (with_reducible first | exact HB.out | apply below_alloc | apply pw_below_drewN | apply below_drew1) | exact HB.out))) : w.heap.size ≤ gb114)); have n3_ := Aside0.mk ((by rw [hg]; exact (below_size (by repeat (first | (with_reducible first | exact HB.out | apply below_alloc | apply pw_below_drewN | apply below_drew1) | exact HB.out))) : w.heap.size ≤ gb114)); clear HB; have HB := n0_; have BK114 := n1_; have GW114 := n2_; have GE114 := n3_; clear n0_ n1_ n2_ n3_; clear hb hbox hg)))
  go_loopg [5, 6] k (fun kq v5 v6 w' => ∃ (x5_1 : Int) (x6_1 : Int), v5 = .int .i64 x5_1 ∧ v6 = .int .i64 x6_1 ∧ Aside0 (coracleref1_Times.l0 kq l0 x5_1 x6_1 a1_0 a1_1 a1_2 a1_3 a1_4 a1_5 a1_6 a1_7 a1_8 a1_9 a1_10 a1_11 a1_12 a1_13 a1_14 a1_15 a1_16 a1_17 a1_18 a1_19 a1_20 a1_21 a1_22 a1_23 a1_24 a1_25 a1_26 a1_27 a1_28 a1_29 a1_30 a1_31 a1_32 = some r) ∧ Aside0 (kq ≤ k) ∧ Aside0 (w'.heap[gb114]? = some (.cells #[.int .u8 a1_0, .int .u8 a1_1, .int .u8 a1_2, .int .u8 a1_3, .int .u8 a1_4, .int .u8 a1_5, .int .u8 a1_6, .int .u8 a1_7, .int .u8 a1_8, .int .u8 a1_9, .int .u8 a1_10, .int .u8 a1_11, .int .u8 a1_12, .int .u8 a1_13, .int .u8 a1_14, .int .u8 a1_15, .int .u8 a1_16, .int .u8 a1_17, .int .u8 a1_18, .int .u8 a1_19, .int .u8 a1_20, .int .u8 a1_21, .int .u8 a1_22, .int .u8 a1_23, .int .u8 a1_24, .int .u8 a1_25, .int .u8 a1_26, .int .u8 a1_27, .int .u8 a1_28, .int .u8 a1_29, .int .u8 a1_30, .int .u8 a1_31, .int .i64 a1_32] 25 (0, 0))) ∧ Aside0 (Below w.heap.size w w'))
  case atStart => exact ⟨(0), (0), (by first | rfl | (simp; done) | (simp [*]; done)), (by first | rfl | (simp; done) | (simp [*]; done)), H', ⟨Nat.le_refl _⟩, ⟨by (with_reducible repeat (first | refine blk_drewN ?_ _ | refine blk_drew ?_ | refine blk_alloc ?_ _)); exact BK114.out⟩, ⟨by repeat (first | (with_reducible first | exact HB.out | apply below_alloc | apply pw_below_drewN | apply below_drew1 | refine below_set ?_ GE114.out) | exact HB.out)⟩⟩
  case round =>
    clear H'
    try clear c2
    try clear p2
    obtain ⟨x5_1, x6_1, rfl, rfl, HA, HK1, BK114, HB⟩ := hrel
    cases gk with
    | zero => exact absurd HA.out (by simp [coracleref1_Times.l0])
    | succ k1 =>
      have H := HA.out
      clear HA
      simp only [coracleref1_Times.l0] at H
      by_cases c4 : x6_1 < (l0.length : Int)
      · rw [if_pos c4] at H
        have c4b0 : decide (x6_1 < (l0.length : Int)) = true := decide_eq_true c4
        clear c4
        by_cases c5 : 0 ≤ x6_1
        · rw [if_pos c5] at H
          have c5b0 : decide (0 ≤ x6_1) = true := decide_eq_true c5
          clear c5
          by_cases c6 : ((((rd_T25 l0 x6_1).f0.f0) == a1_0 && (((rd_T25 l0 x6_1).f0.f1) == a1_1 && (((rd_T25 l0 x6_1).f0.f2) == a1_2 && (((rd_T25 l0 x6_1).f0.f3) == a1_3 && (((rd_T25 l0 x6_1).f0.f4) == a1_4 && (((rd_T25 l0 x6_1).f0.f5) == a1_5 && (((rd_T25 l0 x6_1).f0.f6) == a1_6 && (((rd_T25 l0 x6_1).f0.f7) == a1_7 && (((rd_T25 l0 x6_1).f0.f8) == a1_8 && (((rd_T25 l0 x6_1).f0.f9) == a1_9 && (((rd_T25 l0 x6_1).f0.f10) == a1_10 && (((rd_T25 l0 x6_1).f0.f11) == a1_11 && (((rd_T25 l0 x6_1).f0.f12) == a1_12 && (((rd_T25 l0 x6_1).f0.f13) == a1_13 && (((rd_T25 l0 x6_1).f0.f14) == a1_14 && (((rd_T25 l0 x6_1).f0.f15) == a1_15 && (((rd_T25 l0 x6_1).f0.f16) == a1_16 && (((rd_T25 l0 x6_1).f0.f17) == a1_17 && (((rd_T25 l0 x6_1).f0.f18) == a1_18 && (((rd_T25 l0 x6_1).f0.f19) == a1_19 && (((rd_T25 l0 x6_1).f0.f20) == a1_20 && (((rd_T25 l0 x6_1).f0.f21) == a1_21 && (((rd_T25 l0 x6_1).f0.f22) == a1_22 && (((rd_T25 l0 x6_1).f0.f23) == a1_23 && (((rd_T25 l0 x6_1).f0.f24) == a1_24 && (((rd_T25 l0 x6_1).f0.f25) == a1_25 && (((rd_T25 l0 x6_1).f0.f26) == a1_26 && (((rd_T25 l0 x6_1).f0.f27) == a1_27 && (((rd_T25 l0 x6_1).f0.f28) == a1_28 && (((rd_T25 l0 x6_1).f0.f29) == a1_29 && (((rd_T25 l0 x6_1).f0.f30) == a1_30 && (((rd_T25 l0 x6_1).f0.f31) == a1_31)))))))))))))))))))))))))))))))) && (((rd_T25 l0 x6_1).f1) == a1_32)) = true
          · rw [if_pos c6] at H
            have c6b0 : ((((rd_T25 l0 x6_1).f0.f0) == a1_0 && (((rd_T25 l0 x6_1).f0.f1) == a1_1 && (((rd_T25 l0 x6_1).f0.f2) == a1_2 && (((rd_T25 l0 x6_1).f0.f3) == a1_3 && (((rd_T25 l0 x6_1).f0.f4) == a1_4 && (((rd_T25 l0 x6_1).f0.f5) == a1_5 && (((rd_T25 l0 x6_1).f0.f6) == a1_6 && (((rd_T25 l0 x6_1).f0.f7) == a1_7 && (((rd_T25 l0 x6_1).f0.f8) == a1_8 && (((rd_T25 l0 x6_1).f0.f9) == a1_9 && (((rd_T25 l0 x6_1).f0.f10) == a1_10 && (((rd_T25 l0 x6_1).f0.f11) == a1_11 && (((rd_T25 l0 x6_1).f0.f12) == a1_12 && (((rd_T25 l0 x6_1).f0.f13) == a1_13 && (((rd_T25 l0 x6_1).f0.f14) == a1_14 && (((rd_T25 l0 x6_1).f0.f15) == a1_15 && (((rd_T25 l0 x6_1).f0.f16) == a1_16 && (((rd_T25 l0 x6_1).f0.f17) == a1_17 && (((rd_T25 l0 x6_1).f0.f18) == a1_18 && (((rd_T25 l0 x6_1).f0.f19) == a1_19 && (((rd_T25 l0 x6_1).f0.f20) == a1_20 && (((rd_T25 l0 x6_1).f0.f21) == a1_21 && (((rd_T25 l0 x6_1).f0.f22) == a1_22 && (((rd_T25 l0 x6_1).f0.f23) == a1_23 && (((rd_T25 l0 x6_1).f0.f24) == a1_24 && (((rd_T25 l0 x6_1).f0.f25) == a1_25 && (((rd_T25 l0 x6_1).f0.f26) == a1_26 && (((rd_T25 l0 x6_1).f0.f27) == a1_27 && (((rd_T25 l0 x6_1).f0.f28) == a1_28 && (((rd_T25 l0 x6_1).f0.f29) == a1_29 && (((rd_T25 l0 x6_1).f0.f30) == a1_30 && (((rd_T25 l0 x6_1).f0.f31) == a1_31)))))))))))))))))))))))))))))))) && (((rd_T25 l0 x6_1).f1) == a1_32)) = true := c6
            clear c6
            have H' := Aside0.mk H
            clear H
            have p115 : 0 ≤ (x6_1 : Int) := of_decide_eq_true (by first | (with_reducible assumption) | assumption)
            have q115 : x6_1 < (l0.length : Int) := of_decide_eq_true (by first | (with_reducible assumption) | assumption)
            obtain ⟨ad115, e115, hx115_0, hx115_1, hx115_2, hx115_3, hx115_4, hx115_5, hx115_6, hx115_7, hx115_8, hx115_9, hx115_10, hx115_11, hx115_12, hx115_13, hx115_14, hx115_15, hx115_16, hx115_17, hx115_18, hx115_19, hx115_20, hx115_21, hx115_22, hx115_23, hx115_24, hx115_25, hx115_26, hx115_27, hx115_28, hx115_29, hx115_30, hx115_31, hx115_32⟩ := at_T25 HR0.out x6_1 p115 q115
            cases e115
            replace hx115_0 := (HB.out.cell (World.block_lt_of_cell? w _ hx115_0)).trans hx115_0
            replace hx115_1 := (HB.out.cell (World.block_lt_of_cell? w _ hx115_1)).trans hx115_1
            replace hx115_2 := (HB.out.cell (World.block_lt_of_cell? w _ hx115_2)).trans hx115_2
            replace hx115_3 := (HB.out.cell (World.block_lt_of_cell? w _ hx115_3)).trans hx115_3
            replace hx115_4 := (HB.out.cell (World.block_lt_of_cell? w _ hx115_4)).trans hx115_4
            replace hx115_5 := (HB.out.cell (World.block_lt_of_cell? w _ hx115_5)).trans hx115_5
            replace hx115_6 := (HB.out.cell (World.block_lt_of_cell? w _ hx115_6)).trans hx115_6
            replace hx115_7 := (HB.out.cell (World.block_lt_of_cell? w _ hx115_7)).trans hx115_7
            replace hx115_8 := (HB.out.cell (World.block_lt_of_cell? w _ hx115_8)).trans hx115_8
            replace hx115_9 := (HB.out.cell (World.block_lt_of_cell? w _ hx115_9)).trans hx115_9
            replace hx115_10 := (HB.out.cell (World.block_lt_of_cell? w _ hx115_10)).trans hx115_10
            replace hx115_11 := (HB.out.cell (World.block_lt_of_cell? w _ hx115_11)).trans hx115_11
            replace hx115_12 := (HB.out.cell (World.block_lt_of_cell? w _ hx115_12)).trans hx115_12
            replace hx115_13 := (HB.out.cell (World.block_lt_of_cell? w _ hx115_13)).trans hx115_13
            replace hx115_14 := (HB.out.cell (World.block_lt_of_cell? w _ hx115_14)).trans hx115_14
            replace hx115_15 := (HB.out.cell (World.block_lt_of_cell? w _ hx115_15)).trans hx115_15
            replace hx115_16 := (HB.out.cell (World.block_lt_of_cell? w _ hx115_16)).trans hx115_16
            replace hx115_17 := (HB.out.cell (World.block_lt_of_cell? w _ hx115_17)).trans hx115_17
            replace hx115_18 := (HB.out.cell (World.block_lt_of_cell? w _ hx115_18)).trans hx115_18
            replace hx115_19 := (HB.out.cell (World.block_lt_of_cell? w _ hx115_19)).trans hx115_19
            replace hx115_20 := (HB.out.cell (World.block_lt_of_cell? w _ hx115_20)).trans hx115_20
            replace hx115_21 := (HB.out.cell (World.block_lt_of_cell? w _ hx115_21)).trans hx115_21
            replace hx115_22 := (HB.out.cell (World.block_lt_of_cell? w _ hx115_22)).trans hx115_22
            replace hx115_23 := (HB.out.cell (World.block_lt_of_cell? w _ hx115_23)).trans hx115_23
            replace hx115_24 := (HB.out.cell (World.block_lt_of_cell? w _ hx115_24)).trans hx115_24
            replace hx115_25 := (HB.out.cell (World.block_lt_of_cell? w _ hx115_25)).trans hx115_25
            replace hx115_26 := (HB.out.cell (World.block_lt_of_cell? w _ hx115_26)).trans hx115_26
            replace hx115_27 := (HB.out.cell (World.block_lt_of_cell? w _ hx115_27)).trans hx115_27
            replace hx115_28 := (HB.out.cell (World.block_lt_of_cell? w _ hx115_28)).trans hx115_28
            replace hx115_29 := (HB.out.cell (World.block_lt_of_cell? w _ hx115_29)).trans hx115_29
            replace hx115_30 := (HB.out.cell (World.block_lt_of_cell? w _ hx115_30)).trans hx115_30
            replace hx115_31 := (HB.out.cell (World.block_lt_of_cell? w _ hx115_31)).trans hx115_31
            replace hx115_32 := (HB.out.cell (World.block_lt_of_cell? w _ hx115_32)).trans hx115_32
            replace p115 := eq_true p115
            replace q115 := eq_true q115
            have hw115_0_32 := Go.Proofs.YtmoecidfmgeafaaDoor.Wide.mk32 hx115_0 hx115_1 hx115_2 hx115_3 hx115_4 hx115_5 hx115_6 hx115_7 hx115_8 hx115_9 hx115_10 hx115_11 hx115_12 hx115_13 hx115_14 hx115_15 hx115_16 hx115_17 hx115_18 hx115_19 hx115_20 hx115_21 hx115_22 hx115_23 hx115_24 hx115_25 hx115_26 hx115_27 hx115_28 hx115_29 hx115_30 hx115_31
            have hw115_0_33 := Go.Proofs.YtmoecidfmgeafaaDoor.Wide.mk33 hx115_0 hx115_1 hx115_2 hx115_3 hx115_4 hx115_5 hx115_6 hx115_7 hx115_8 hx115_9 hx115_10 hx115_11 hx115_12 hx115_13 hx115_14 hx115_15 hx115_16 hx115_17 hx115_18 hx115_19 hx115_20 hx115_21 hx115_22 hx115_23 hx115_24 hx115_25 hx115_26 hx115_27 hx115_28 hx115_29 hx115_30 hx115_31 hx115_32
            have hcz7_0 : wr.cell? ⟨gb114, 0, none⟩ = some (.int .u8 a1_0) := (blk_cell BK114.out 0).trans rfl
            have hcz7_1 : wr.cell? ⟨gb114, 1, none⟩ = some (.int .u8 a1_1) := (blk_cell BK114.out 1).trans rfl
            have hcz7_2 : wr.cell? ⟨gb114, 2, none⟩ = some (.int .u8 a1_2) := (blk_cell BK114.out 2).trans rfl
            have hcz7_3 : wr.cell? ⟨gb114, 3, none⟩ = some (.int .u8 a1_3) := (blk_cell BK114.out 3).trans rfl
            have hcz7_4 : wr.cell? ⟨gb114, 4, none⟩ = some (.int .u8 a1_4) := (blk_cell BK114.out 4).trans rfl
            have hcz7_5 : wr.cell? ⟨gb114, 5, none⟩ = some (.int .u8 a1_5) := (blk_cell BK114.out 5).trans rfl
            have hcz7_6 : wr.cell? ⟨gb114, 6, none⟩ = some (.int .u8 a1_6) := (blk_cell BK114.out 6).trans rfl
            have hcz7_7 : wr.cell? ⟨gb114, 7, none⟩ = some (.int .u8 a1_7) := (blk_cell BK114.out 7).trans rfl
            have hcz7_8 : wr.cell? ⟨gb114, 8, none⟩ = some (.int .u8 a1_8) := (blk_cell BK114.out 8).trans rfl
            have hcz7_9 : wr.cell? ⟨gb114, 9, none⟩ = some (.int .u8 a1_9) := (blk_cell BK114.out 9).trans rfl
            have hcz7_10 : wr.cell? ⟨gb114, 10, none⟩ = some (.int .u8 a1_10) := (blk_cell BK114.out 10).trans rfl
            have hcz7_11 : wr.cell? ⟨gb114, 11, none⟩ = some (.int .u8 a1_11) := (blk_cell BK114.out 11).trans rfl
            have hcz7_12 : wr.cell? ⟨gb114, 12, none⟩ = some (.int .u8 a1_12) := (blk_cell BK114.out 12).trans rfl
            have hcz7_13 : wr.cell? ⟨gb114, 13, none⟩ = some (.int .u8 a1_13) := (blk_cell BK114.out 13).trans rfl
            have hcz7_14 : wr.cell? ⟨gb114, 14, none⟩ = some (.int .u8 a1_14) := (blk_cell BK114.out 14).trans rfl
            have hcz7_15 : wr.cell? ⟨gb114, 15, none⟩ = some (.int .u8 a1_15) := (blk_cell BK114.out 15).trans rfl
            have hcz7_16 : wr.cell? ⟨gb114, 16, none⟩ = some (.int .u8 a1_16) := (blk_cell BK114.out 16).trans rfl
            have hcz7_17 : wr.cell? ⟨gb114, 17, none⟩ = some (.int .u8 a1_17) := (blk_cell BK114.out 17).trans rfl
            have hcz7_18 : wr.cell? ⟨gb114, 18, none⟩ = some (.int .u8 a1_18) := (blk_cell BK114.out 18).trans rfl
            have hcz7_19 : wr.cell? ⟨gb114, 19, none⟩ = some (.int .u8 a1_19) := (blk_cell BK114.out 19).trans rfl
            have hcz7_20 : wr.cell? ⟨gb114, 20, none⟩ = some (.int .u8 a1_20) := (blk_cell BK114.out 20).trans rfl
            have hcz7_21 : wr.cell? ⟨gb114, 21, none⟩ = some (.int .u8 a1_21) := (blk_cell BK114.out 21).trans rfl
            have hcz7_22 : wr.cell? ⟨gb114, 22, none⟩ = some (.int .u8 a1_22) := (blk_cell BK114.out 22).trans rfl
            have hcz7_23 : wr.cell? ⟨gb114, 23, none⟩ = some (.int .u8 a1_23) := (blk_cell BK114.out 23).trans rfl
            have hcz7_24 : wr.cell? ⟨gb114, 24, none⟩ = some (.int .u8 a1_24) := (blk_cell BK114.out 24).trans rfl
            have hcz7_25 : wr.cell? ⟨gb114, 25, none⟩ = some (.int .u8 a1_25) := (blk_cell BK114.out 25).trans rfl
            have hcz7_26 : wr.cell? ⟨gb114, 26, none⟩ = some (.int .u8 a1_26) := (blk_cell BK114.out 26).trans rfl
            have hcz7_27 : wr.cell? ⟨gb114, 27, none⟩ = some (.int .u8 a1_27) := (blk_cell BK114.out 27).trans rfl
            have hcz7_28 : wr.cell? ⟨gb114, 28, none⟩ = some (.int .u8 a1_28) := (blk_cell BK114.out 28).trans rfl
            have hcz7_29 : wr.cell? ⟨gb114, 29, none⟩ = some (.int .u8 a1_29) := (blk_cell BK114.out 29).trans rfl
            have hcz7_30 : wr.cell? ⟨gb114, 30, none⟩ = some (.int .u8 a1_30) := (blk_cell BK114.out 30).trans rfl
            have hcz7_31 : wr.cell? ⟨gb114, 31, none⟩ = some (.int .u8 a1_31) := (blk_cell BK114.out 31).trans rfl
            have hcz7_32 : wr.cell? ⟨gb114, 32, none⟩ = some (.int .i64 a1_32) := (blk_cell BK114.out 32).trans rfl
            have hwz7_0_32 := Go.Proofs.YtmoecidfmgeafaaDoor.Wide.mk32 (a := ⟨gb114, 0, none⟩) hcz7_0 hcz7_1 hcz7_2 hcz7_3 hcz7_4 hcz7_5 hcz7_6 hcz7_7 hcz7_8 hcz7_9 hcz7_10 hcz7_11 hcz7_12 hcz7_13 hcz7_14 hcz7_15 hcz7_16 hcz7_17 hcz7_18 hcz7_19 hcz7_20 hcz7_21 hcz7_22 hcz7_23 hcz7_24 hcz7_25 hcz7_26 hcz7_27 hcz7_28 hcz7_29 hcz7_30 hcz7_31
            have hwz7_0_33 := Go.Proofs.YtmoecidfmgeafaaDoor.Wide.mk33 (a := ⟨gb114, 0, none⟩) hcz7_0 hcz7_1 hcz7_2 hcz7_3 hcz7_4 hcz7_5 hcz7_6 hcz7_7 hcz7_8 hcz7_9 hcz7_10 hcz7_11 hcz7_12 hcz7_13 hcz7_14 hcz7_15 hcz7_16 hcz7_17 hcz7_18 hcz7_19 hcz7_20 hcz7_21 hcz7_22 hcz7_23 hcz7_24 hcz7_25 hcz7_26 hcz7_27 hcz7_28 hcz7_29 hcz7_30 hcz7_31 hcz7_32
            have hfz7_0 := blk_frozen BK114.out 0
            have hfz7_1 := blk_frozen BK114.out 1
            have hfz7_2 := blk_frozen BK114.out 2
            have hfz7_3 := blk_frozen BK114.out 3
            have hfz7_4 := blk_frozen BK114.out 4
            have hfz7_5 := blk_frozen BK114.out 5
            have hfz7_6 := blk_frozen BK114.out 6
            have hfz7_7 := blk_frozen BK114.out 7
            have hfz7_8 := blk_frozen BK114.out 8
            have hfz7_9 := blk_frozen BK114.out 9
            have hfz7_10 := blk_frozen BK114.out 10
            have hfz7_11 := blk_frozen BK114.out 11
            have hfz7_12 := blk_frozen BK114.out 12
            have hfz7_13 := blk_frozen BK114.out 13
            have hfz7_14 := blk_frozen BK114.out 14
            have hfz7_15 := blk_frozen BK114.out 15
            have hfz7_16 := blk_frozen BK114.out 16
            have hfz7_17 := blk_frozen BK114.out 17
            have hfz7_18 := blk_frozen BK114.out 18
            have hfz7_19 := blk_frozen BK114.out 19
            have hfz7_20 := blk_frozen BK114.out 20
            have hfz7_21 := blk_frozen BK114.out 21
            have hfz7_22 := blk_frozen BK114.out 22
            have hfz7_23 := blk_frozen BK114.out 23
            have hfz7_24 := blk_frozen BK114.out 24
            have hfz7_25 := blk_frozen BK114.out 25
            have hfz7_26 := blk_frozen BK114.out 26
            have hfz7_27 := blk_frozen BK114.out 27
            have hfz7_28 := blk_frozen BK114.out 28
            have hfz7_29 := blk_frozen BK114.out 29
            have hfz7_30 := blk_frozen BK114.out 30
            have hfz7_31 := blk_frozen BK114.out 31
            have hfz7_32 := blk_frozen BK114.out 32
            go_wp2
            repeat (go_quiet (fail); try go_wp2)
            go_roundg k1
            case measure => have := HK1.out; omega
            case rel => exact ⟨(wrap64 (x5_1 + 1)), (wrap64 (x6_1 + 1)), (by first | rfl | (simp; done) | (simp [*]; done)), (by first | rfl | (simp; done) | (simp [*]; done)), H', ⟨by have := HK1.out; omega⟩, ⟨by (with_reducible repeat (first | refine blk_drewN ?_ _ | refine blk_drew ?_ | refine blk_alloc ?_ _)); exact BK114.out⟩, ⟨by repeat (first | (with_reducible first | exact HB.out | apply below_alloc | apply pw_below_drewN | apply below_drew1 | refine below_set ?_ GE114.out) | exact HB.out)⟩⟩
          · rw [if_neg c6] at H
            have c6b0 : ((((rd_T25 l0 x6_1).f0.f0) == a1_0 && (((rd_T25 l0 x6_1).f0.f1) == a1_1 && (((rd_T25 l0 x6_1).f0.f2) == a1_2 && (((rd_T25 l0 x6_1).f0.f3) == a1_3 && (((rd_T25 l0 x6_1).f0.f4) == a1_4 && (((rd_T25 l0 x6_1).f0.f5) == a1_5 && (((rd_T25 l0 x6_1).f0.f6) == a1_6 && (((rd_T25 l0 x6_1).f0.f7) == a1_7 && (((rd_T25 l0 x6_1).f0.f8) == a1_8 && (((rd_T25 l0 x6_1).f0.f9) == a1_9 && (((rd_T25 l0 x6_1).f0.f10) == a1_10 && (((rd_T25 l0 x6_1).f0.f11) == a1_11 && (((rd_T25 l0 x6_1).f0.f12) == a1_12 && (((rd_T25 l0 x6_1).f0.f13) == a1_13 && (((rd_T25 l0 x6_1).f0.f14) == a1_14 && (((rd_T25 l0 x6_1).f0.f15) == a1_15 && (((rd_T25 l0 x6_1).f0.f16) == a1_16 && (((rd_T25 l0 x6_1).f0.f17) == a1_17 && (((rd_T25 l0 x6_1).f0.f18) == a1_18 && (((rd_T25 l0 x6_1).f0.f19) == a1_19 && (((rd_T25 l0 x6_1).f0.f20) == a1_20 && (((rd_T25 l0 x6_1).f0.f21) == a1_21 && (((rd_T25 l0 x6_1).f0.f22) == a1_22 && (((rd_T25 l0 x6_1).f0.f23) == a1_23 && (((rd_T25 l0 x6_1).f0.f24) == a1_24 && (((rd_T25 l0 x6_1).f0.f25) == a1_25 && (((rd_T25 l0 x6_1).f0.f26) == a1_26 && (((rd_T25 l0 x6_1).f0.f27) == a1_27 && (((rd_T25 l0 x6_1).f0.f28) == a1_28 && (((rd_T25 l0 x6_1).f0.f29) == a1_29 && (((rd_T25 l0 x6_1).f0.f30) == a1_30 && (((rd_T25 l0 x6_1).f0.f31) == a1_31)))))))))))))))))))))))))))))))) && (((rd_T25 l0 x6_1).f1) == a1_32)) = false := by simpa using c6
            clear c6
            have H' := Aside0.mk H
            clear H
            have p115 : 0 ≤ (x6_1 : Int) := of_decide_eq_true (by first | (with_reducible assumption) | assumption)
            have q115 : x6_1 < (l0.length : Int) := of_decide_eq_true (by first | (with_reducible assumption) | assumption)
            obtain ⟨ad115, e115, hx115_0, hx115_1, hx115_2, hx115_3, hx115_4, hx115_5, hx115_6, hx115_7, hx115_8, hx115_9, hx115_10, hx115_11, hx115_12, hx115_13, hx115_14, hx115_15, hx115_16, hx115_17, hx115_18, hx115_19, hx115_20, hx115_21, hx115_22, hx115_23, hx115_24, hx115_25, hx115_26, hx115_27, hx115_28, hx115_29, hx115_30, hx115_31, hx115_32⟩ := at_T25 HR0.out x6_1 p115 q115
            cases e115
            replace hx115_0 := (HB.out.cell (World.block_lt_of_cell? w _ hx115_0)).trans hx115_0
            replace hx115_1 := (HB.out.cell (World.block_lt_of_cell? w _ hx115_1)).trans hx115_1
            replace hx115_2 := (HB.out.cell (World.block_lt_of_cell? w _ hx115_2)).trans hx115_2
            replace hx115_3 := (HB.out.cell (World.block_lt_of_cell? w _ hx115_3)).trans hx115_3
            replace hx115_4 := (HB.out.cell (World.block_lt_of_cell? w _ hx115_4)).trans hx115_4
            replace hx115_5 := (HB.out.cell (World.block_lt_of_cell? w _ hx115_5)).trans hx115_5
            replace hx115_6 := (HB.out.cell (World.block_lt_of_cell? w _ hx115_6)).trans hx115_6
            replace hx115_7 := (HB.out.cell (World.block_lt_of_cell? w _ hx115_7)).trans hx115_7
            replace hx115_8 := (HB.out.cell (World.block_lt_of_cell? w _ hx115_8)).trans hx115_8
            replace hx115_9 := (HB.out.cell (World.block_lt_of_cell? w _ hx115_9)).trans hx115_9
            replace hx115_10 := (HB.out.cell (World.block_lt_of_cell? w _ hx115_10)).trans hx115_10
            replace hx115_11 := (HB.out.cell (World.block_lt_of_cell? w _ hx115_11)).trans hx115_11
            replace hx115_12 := (HB.out.cell (World.block_lt_of_cell? w _ hx115_12)).trans hx115_12
            replace hx115_13 := (HB.out.cell (World.block_lt_of_cell? w _ hx115_13)).trans hx115_13
            replace hx115_14 := (HB.out.cell (World.block_lt_of_cell? w _ hx115_14)).trans hx115_14
            replace hx115_15 := (HB.out.cell (World.block_lt_of_cell? w _ hx115_15)).trans hx115_15
            replace hx115_16 := (HB.out.cell (World.block_lt_of_cell? w _ hx115_16)).trans hx115_16
            replace hx115_17 := (HB.out.cell (World.block_lt_of_cell? w _ hx115_17)).trans hx115_17
            replace hx115_18 := (HB.out.cell (World.block_lt_of_cell? w _ hx115_18)).trans hx115_18
            replace hx115_19 := (HB.out.cell (World.block_lt_of_cell? w _ hx115_19)).trans hx115_19
            replace hx115_20 := (HB.out.cell (World.block_lt_of_cell? w _ hx115_20)).trans hx115_20
            replace hx115_21 := (HB.out.cell (World.block_lt_of_cell? w _ hx115_21)).trans hx115_21
            replace hx115_22 := (HB.out.cell (World.block_lt_of_cell? w _ hx115_22)).trans hx115_22
            replace hx115_23 := (HB.out.cell (World.block_lt_of_cell? w _ hx115_23)).trans hx115_23
            replace hx115_24 := (HB.out.cell (World.block_lt_of_cell? w _ hx115_24)).trans hx115_24
            replace hx115_25 := (HB.out.cell (World.block_lt_of_cell? w _ hx115_25)).trans hx115_25
            replace hx115_26 := (HB.out.cell (World.block_lt_of_cell? w _ hx115_26)).trans hx115_26
            replace hx115_27 := (HB.out.cell (World.block_lt_of_cell? w _ hx115_27)).trans hx115_27
            replace hx115_28 := (HB.out.cell (World.block_lt_of_cell? w _ hx115_28)).trans hx115_28
            replace hx115_29 := (HB.out.cell (World.block_lt_of_cell? w _ hx115_29)).trans hx115_29
            replace hx115_30 := (HB.out.cell (World.block_lt_of_cell? w _ hx115_30)).trans hx115_30
            replace hx115_31 := (HB.out.cell (World.block_lt_of_cell? w _ hx115_31)).trans hx115_31
            replace hx115_32 := (HB.out.cell (World.block_lt_of_cell? w _ hx115_32)).trans hx115_32
            replace p115 := eq_true p115
            replace q115 := eq_true q115
            have hw115_0_32 := Go.Proofs.YtmoecidfmgeafaaDoor.Wide.mk32 hx115_0 hx115_1 hx115_2 hx115_3 hx115_4 hx115_5 hx115_6 hx115_7 hx115_8 hx115_9 hx115_10 hx115_11 hx115_12 hx115_13 hx115_14 hx115_15 hx115_16 hx115_17 hx115_18 hx115_19 hx115_20 hx115_21 hx115_22 hx115_23 hx115_24 hx115_25 hx115_26 hx115_27 hx115_28 hx115_29 hx115_30 hx115_31
            have hw115_0_33 := Go.Proofs.YtmoecidfmgeafaaDoor.Wide.mk33 hx115_0 hx115_1 hx115_2 hx115_3 hx115_4 hx115_5 hx115_6 hx115_7 hx115_8 hx115_9 hx115_10 hx115_11 hx115_12 hx115_13 hx115_14 hx115_15 hx115_16 hx115_17 hx115_18 hx115_19 hx115_20 hx115_21 hx115_22 hx115_23 hx115_24 hx115_25 hx115_26 hx115_27 hx115_28 hx115_29 hx115_30 hx115_31 hx115_32
            have hcz8_0 : wr.cell? ⟨gb114, 0, none⟩ = some (.int .u8 a1_0) := (blk_cell BK114.out 0).trans rfl
            have hcz8_1 : wr.cell? ⟨gb114, 1, none⟩ = some (.int .u8 a1_1) := (blk_cell BK114.out 1).trans rfl
            have hcz8_2 : wr.cell? ⟨gb114, 2, none⟩ = some (.int .u8 a1_2) := (blk_cell BK114.out 2).trans rfl
            have hcz8_3 : wr.cell? ⟨gb114, 3, none⟩ = some (.int .u8 a1_3) := (blk_cell BK114.out 3).trans rfl
            have hcz8_4 : wr.cell? ⟨gb114, 4, none⟩ = some (.int .u8 a1_4) := (blk_cell BK114.out 4).trans rfl
            have hcz8_5 : wr.cell? ⟨gb114, 5, none⟩ = some (.int .u8 a1_5) := (blk_cell BK114.out 5).trans rfl
            have hcz8_6 : wr.cell? ⟨gb114, 6, none⟩ = some (.int .u8 a1_6) := (blk_cell BK114.out 6).trans rfl
            have hcz8_7 : wr.cell? ⟨gb114, 7, none⟩ = some (.int .u8 a1_7) := (blk_cell BK114.out 7).trans rfl
            have hcz8_8 : wr.cell? ⟨gb114, 8, none⟩ = some (.int .u8 a1_8) := (blk_cell BK114.out 8).trans rfl
            have hcz8_9 : wr.cell? ⟨gb114, 9, none⟩ = some (.int .u8 a1_9) := (blk_cell BK114.out 9).trans rfl
            have hcz8_10 : wr.cell? ⟨gb114, 10, none⟩ = some (.int .u8 a1_10) := (blk_cell BK114.out 10).trans rfl
            have hcz8_11 : wr.cell? ⟨gb114, 11, none⟩ = some (.int .u8 a1_11) := (blk_cell BK114.out 11).trans rfl
            have hcz8_12 : wr.cell? ⟨gb114, 12, none⟩ = some (.int .u8 a1_12) := (blk_cell BK114.out 12).trans rfl
            have hcz8_13 : wr.cell? ⟨gb114, 13, none⟩ = some (.int .u8 a1_13) := (blk_cell BK114.out 13).trans rfl
            have hcz8_14 : wr.cell? ⟨gb114, 14, none⟩ = some (.int .u8 a1_14) := (blk_cell BK114.out 14).trans rfl
            have hcz8_15 : wr.cell? ⟨gb114, 15, none⟩ = some (.int .u8 a1_15) := (blk_cell BK114.out 15).trans rfl
            have hcz8_16 : wr.cell? ⟨gb114, 16, none⟩ = some (.int .u8 a1_16) := (blk_cell BK114.out 16).trans rfl
            have hcz8_17 : wr.cell? ⟨gb114, 17, none⟩ = some (.int .u8 a1_17) := (blk_cell BK114.out 17).trans rfl
            have hcz8_18 : wr.cell? ⟨gb114, 18, none⟩ = some (.int .u8 a1_18) := (blk_cell BK114.out 18).trans rfl
            have hcz8_19 : wr.cell? ⟨gb114, 19, none⟩ = some (.int .u8 a1_19) := (blk_cell BK114.out 19).trans rfl
            have hcz8_20 : wr.cell? ⟨gb114, 20, none⟩ = some (.int .u8 a1_20) := (blk_cell BK114.out 20).trans rfl
            have hcz8_21 : wr.cell? ⟨gb114, 21, none⟩ = some (.int .u8 a1_21) := (blk_cell BK114.out 21).trans rfl
            have hcz8_22 : wr.cell? ⟨gb114, 22, none⟩ = some (.int .u8 a1_22) := (blk_cell BK114.out 22).trans rfl
            have hcz8_23 : wr.cell? ⟨gb114, 23, none⟩ = some (.int .u8 a1_23) := (blk_cell BK114.out 23).trans rfl
            have hcz8_24 : wr.cell? ⟨gb114, 24, none⟩ = some (.int .u8 a1_24) := (blk_cell BK114.out 24).trans rfl
            have hcz8_25 : wr.cell? ⟨gb114, 25, none⟩ = some (.int .u8 a1_25) := (blk_cell BK114.out 25).trans rfl
            have hcz8_26 : wr.cell? ⟨gb114, 26, none⟩ = some (.int .u8 a1_26) := (blk_cell BK114.out 26).trans rfl
            have hcz8_27 : wr.cell? ⟨gb114, 27, none⟩ = some (.int .u8 a1_27) := (blk_cell BK114.out 27).trans rfl
            have hcz8_28 : wr.cell? ⟨gb114, 28, none⟩ = some (.int .u8 a1_28) := (blk_cell BK114.out 28).trans rfl
            have hcz8_29 : wr.cell? ⟨gb114, 29, none⟩ = some (.int .u8 a1_29) := (blk_cell BK114.out 29).trans rfl
            have hcz8_30 : wr.cell? ⟨gb114, 30, none⟩ = some (.int .u8 a1_30) := (blk_cell BK114.out 30).trans rfl
            have hcz8_31 : wr.cell? ⟨gb114, 31, none⟩ = some (.int .u8 a1_31) := (blk_cell BK114.out 31).trans rfl
            have hcz8_32 : wr.cell? ⟨gb114, 32, none⟩ = some (.int .i64 a1_32) := (blk_cell BK114.out 32).trans rfl
            have hwz8_0_32 := Go.Proofs.YtmoecidfmgeafaaDoor.Wide.mk32 (a := ⟨gb114, 0, none⟩) hcz8_0 hcz8_1 hcz8_2 hcz8_3 hcz8_4 hcz8_5 hcz8_6 hcz8_7 hcz8_8 hcz8_9 hcz8_10 hcz8_11 hcz8_12 hcz8_13 hcz8_14 hcz8_15 hcz8_16 hcz8_17 hcz8_18 hcz8_19 hcz8_20 hcz8_21 hcz8_22 hcz8_23 hcz8_24 hcz8_25 hcz8_26 hcz8_27 hcz8_28 hcz8_29 hcz8_30 hcz8_31
            have hwz8_0_33 := Go.Proofs.YtmoecidfmgeafaaDoor.Wide.mk33 (a := ⟨gb114, 0, none⟩) hcz8_0 hcz8_1 hcz8_2 hcz8_3 hcz8_4 hcz8_5 hcz8_6 hcz8_7 hcz8_8 hcz8_9 hcz8_10 hcz8_11 hcz8_12 hcz8_13 hcz8_14 hcz8_15 hcz8_16 hcz8_17 hcz8_18 hcz8_19 hcz8_20 hcz8_21 hcz8_22 hcz8_23 hcz8_24 hcz8_25 hcz8_26 hcz8_27 hcz8_28 hcz8_29 hcz8_30 hcz8_31 hcz8_32
            have hfz8_0 := blk_frozen BK114.out 0
            have hfz8_1 := blk_frozen BK114.out 1
            have hfz8_2 := blk_frozen BK114.out 2
            have hfz8_3 := blk_frozen BK114.out 3
            have hfz8_4 := blk_frozen BK114.out 4
            have hfz8_5 := blk_frozen BK114.out 5
            have hfz8_6 := blk_frozen BK114.out 6
            have hfz8_7 := blk_frozen BK114.out 7
            have hfz8_8 := blk_frozen BK114.out 8
            have hfz8_9 := blk_frozen BK114.out 9
            have hfz8_10 := blk_frozen BK114.out 10
            have hfz8_11 := blk_frozen BK114.out 11
            have hfz8_12 := blk_frozen BK114.out 12
            have hfz8_13 := blk_frozen BK114.out 13
            have hfz8_14 := blk_frozen BK114.out 14
            have hfz8_15 := blk_frozen BK114.out 15
            have hfz8_16 := blk_frozen BK114.out 16
            have hfz8_17 := blk_frozen BK114.out 17
            have hfz8_18 := blk_frozen BK114.out 18
            have hfz8_19 := blk_frozen BK114.out 19
            have hfz8_20 := blk_frozen BK114.out 20
            have hfz8_21 := blk_frozen BK114.out 21
            have hfz8_22 := blk_frozen BK114.out 22
            have hfz8_23 := blk_frozen BK114.out 23
            have hfz8_24 := blk_frozen BK114.out 24
            have hfz8_25 := blk_frozen BK114.out 25
            have hfz8_26 := blk_frozen BK114.out 26
            have hfz8_27 := blk_frozen BK114.out 27
            have hfz8_28 := blk_frozen BK114.out 28
            have hfz8_29 := blk_frozen BK114.out 29
            have hfz8_30 := blk_frozen BK114.out 30
            have hfz8_31 := blk_frozen BK114.out 31
            have hfz8_32 := blk_frozen BK114.out 32
            go_wp2
            repeat (go_quiet (fail); try go_wp2)
            go_roundg k1
            case measure => have := HK1.out; omega
            case rel => exact ⟨(x5_1), (wrap64 (x6_1 + 1)), (by first | rfl | (simp; done) | (simp [*]; done)), (by first | rfl | (simp; done) | (simp [*]; done)), H', ⟨by have := HK1.out; omega⟩, ⟨by (with_reducible repeat (first | refine blk_drewN ?_ _ | refine blk_drew ?_ | refine blk_alloc ?_ _)); exact BK114.out⟩, ⟨by repeat (first | (with_reducible first | exact HB.out | apply below_alloc | apply pw_below_drewN | apply below_drew1 | refine below_set ?_ GE114.out) | exact HB.out)⟩⟩
        · rw [if_neg c5] at H
          exact absurd H (by simp)
      · rw [if_neg c4] at H
        have c4b0 : decide (x6_1 < (l0.length : Int)) = false := decide_eq_false c4
        clear c4
        obtain rfl := Option.some.inj H
        go_wp2
        repeat (go_quiet (fail); try go_wp2)
        go_ret
        exact ⟨by first | rfl | (simp [errW_none, errW_some] <;> rfl) | (simp [*, errW_none, errW_some] <;> rfl), by repeat (first | (with_reducible first | exact HB.out | apply below_alloc | apply pw_below_drewN | apply below_drew1 | refine below_set ?_ GE114.out) | exact HB.out)⟩

end Go.Proofs.YtmoecidfmgeafaaDoor.QPnt
