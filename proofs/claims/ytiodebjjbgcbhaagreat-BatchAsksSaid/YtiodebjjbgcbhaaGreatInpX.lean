import Derived.Test.YtiodebjjbgcbhaaGreatLefL
namespace Go.Proofs.YtiodebjjbgcbhaaGreat.Inp
open Go.RowKit Go.Sort Go.Lib Go.Shelf Go.Proofs YtiodebjjbgcbhaaGreatW.PrintWords YtiodebjjbgcbhaaGreatW.PrintLast YtiodebjjbgcbhaaGreatW.PrintMore YtiodebjjbgcbhaaGreat Hand RowK Fill OrdO QLef LefL
set_option linter.unusedVariables false
set_option linter.unusedSimpArgs false
def inB (x : S79) : Bool := (decide (0 ≤ x.f0.f1) && decide (x.f0.f1 ≤ 99)) && ((decide (0 ≤ x.f1) && decide (x.f1 ≤ 65535)) && witB x.f2.f0 x.f2.f1 x.f2.f2)
def scB (s : S87) : Bool := (decide (0 ≤ s.f1) && decide (s.f1 ≤ 1073741824)) && ((decide (0 ≤ s.f2) && decide (s.f2 ≤ 1073741824)) && ((decide (0 ≤ s.f3) && decide (s.f3 ≤ 1073741824)) && ((decide (1 ≤ s.f0) && decide (s.f0 ≤ 6)) && ((decide (0 ≤ s.f4) && decide (s.f4 ≤ 65535)) && (decide (0 ≤ s.f5) && decide (s.f5 ≤ 1000000))))))
def encSc (x : S87) : List Value := [.int .i64 x.f0, .int .i64 x.f1, .int .i64 x.f2, .int .i64 x.f3, .int .i64 x.f4, .int .i64 x.f5, .int .u8 x.f6.f0, .int .u8 x.f6.f1, .int .u8 x.f6.f2, .int .u8 x.f6.f3, .int .u8 x.f6.f4, .int .u8 x.f6.f5, .int .u8 x.f6.f6, .int .u8 x.f6.f7, .int .u8 x.f6.f8, .int .u8 x.f6.f9, .int .u8 x.f6.f10, .int .u8 x.f6.f11, .int .u8 x.f6.f12, .int .u8 x.f6.f13, .int .u8 x.f6.f14, .int .u8 x.f6.f15, .int .u8 x.f6.f16, .int .u8 x.f6.f17, .int .u8 x.f6.f18, .int .u8 x.f6.f19, .int .u8 x.f6.f20, .int .u8 x.f6.f21, .int .u8 x.f6.f22, .int .u8 x.f6.f23, .int .u8 x.f6.f24, .int .u8 x.f6.f25, .int .u8 x.f6.f26, .int .u8 x.f6.f27, .int .u8 x.f6.f28, .int .u8 x.f6.f29, .int .u8 x.f6.f30, .int .u8 x.f6.f31]
theorem txw (a b c : Int) (V : World) : Calls Tryz.prog 55 #[.int .i64 a, .int .i64 b, .int .i64 c] V fun e w' => e = .returned (.bool (decide (b ≤ a) && decide (a ≤ c))) ∧ Below V.heap.size V w' :=
 (tx_within.calls a b c _ V (txwithin_f _ _ _)).mono fun _ _ ⟨e, nd, h⟩ => ⟨e, by subst h; exact pw_below_drewN (Below.refl _ _) _⟩
set_option maxHeartbeats 8000000 in
set_option maxRecDepth 100000 in
theorem in_calls' (x : S79) (W : World) : Calls Tryz.prog 67 #[.agg (encIn x).toArray] W fun e w' => e = .returned (.bool (inB x)) ∧ Below W.heap.size W w' := by
 have T0 := Ak (txw x.f0.f1 0 99)
 have T1 := Ak (txw x.f1 0 65535)
 have T2 := Ak (fun V => tx_Witness.calls x.f2.f0 x.f2.f1 x.f2.f2 _ V (witness_f _ _ _))
 have KC := Ak (fun (g : Nat) (V : World) (h : V.heap[g]? = some (.cells (encIn x).toArray 79 (0, 0))) => And.intro (show V.cell? ⟨g, 32, none⟩ = some (.int .i64 x.f0.f1) from (blk_cell h 32).trans rfl) (And.intro (show V.cell? ⟨g, 33, none⟩ = some (.int .i64 x.f1) from (blk_cell h 33).trans rfl) (And.intro (show V.cell? ⟨g, 34, none⟩ = some (.int .i64 x.f2.f0) from (blk_cell h 34).trans rfl) (And.intro (show V.cell? ⟨g, 35, none⟩ = some (.int .i64 x.f2.f1) from (blk_cell h 35).trans rfl) (show V.cell? ⟨g, 36, none⟩ = some (.string x.f2.f2) from (blk_cell h 36).trans rfl)))))
 unfold inB
 generalize (decide (0 ≤ x.f0.f1) && decide (x.f0.f1 ≤ 99)) = b0 at T0 ⊢
 generalize (decide (0 ≤ x.f1) && decide (x.f1 ≤ 65535)) = b1 at T1 ⊢
 generalize witB x.f2.f0 x.f2.f1 x.f2.f2 = b2 at T2 ⊢
 generalize x.f0.f1 = n0 at T0 KC
 generalize x.f1 = n1 at T1 KC
 generalize x.f2.f0 = n2 at T2 KC
 generalize x.f2.f1 = n3 at T2 KC
 generalize x.f2.f2 = n4 at T2 KC
 generalize (encIn x).toArray = cs at KC ⊢
 have HB := Ak (Below.refl W.heap.size W)
 have hu38 := Tryz.underlying79
 have hu36 := Tryz.underlying34
 go_enter Tryz.func67, Tryz.ntmps67
 go_upto_region 1 with (first | ((with_reducible refine gate_dst (N := 1) rfl ?_); refine box_event ?hg (N := 1) ?hd (cs := cs) (t := 79) ?hr ?_; (case hd => rfl); (case hg => rfl); (case hr => first | (go_simp; done) | (go_simp; rfl)); intro gb hg w1 hbox hb; replace HB := Ak (below_step HB.1 hb); have BK := Ak hbox; clear hbox hb hg))
 obtain ⟨k0, k1, k2, k3, k4⟩ := KC.1 _ _ BK.1
 have ways : b0 = false ∨ b0 = true ∧ (b1 = false ∨ b1 = true) := by cases b0 <;> cases b1 <;> simp
 rcases ways with rfl | ⟨rfl, rfl | rfl⟩ <;> (go_wp2_with (first | (go_at_call 55; (first | (with_reducible refine (T0.1 _).mono ?_) | (with_reducible refine (T1.1 _).mono ?_)); rintro e w2 ⟨rfl, hb⟩; replace HB := Ak (below_step HB.1 hb); replace BK := Ak (blk_below BK.1 hb); clear k0 k1 k2 k3 k4 hb; obtain ⟨k0, k1, k2, k3, k4⟩ := KC.1 _ _ BK.1) | (go_at_call 24; (with_reducible refine (T2.1 _).mono ?_); rintro e w2 ⟨rfl, hb⟩; replace HB := Ak (below_step HB.1 hb); clear hb)); go_ret; exact ⟨by simp, HB.1⟩)
set_option maxHeartbeats 8000000 in
set_option maxRecDepth 100000 in
theorem script_calls' (x : S87) (W : World) : Calls Tryz.prog 69 #[.agg (encSc x).toArray] W fun e w' => e = .returned (.bool (scB x)) ∧ Below W.heap.size W w' := by
 have T0 := Ak (txw x.f1 0 1073741824)
 have T1 := Ak (txw x.f2 0 1073741824)
 have T2 := Ak (txw x.f3 0 1073741824)
 have T3 := Ak (txw x.f0 1 6)
 have T4 := Ak (txw x.f4 0 65535)
 have T5 := Ak (txw x.f5 0 1000000)
 have KC := Ak (fun (g : Nat) (V : World) (h : V.heap[g]? = some (.cells (encSc x).toArray 87 (0, 0))) => And.intro (show V.cell? ⟨g, 0, none⟩ = some (.int .i64 x.f0) from (blk_cell h 0).trans rfl) (And.intro (show V.cell? ⟨g, 1, none⟩ = some (.int .i64 x.f1) from (blk_cell h 1).trans rfl) (And.intro (show V.cell? ⟨g, 2, none⟩ = some (.int .i64 x.f2) from (blk_cell h 2).trans rfl) (And.intro (show V.cell? ⟨g, 3, none⟩ = some (.int .i64 x.f3) from (blk_cell h 3).trans rfl) (And.intro (show V.cell? ⟨g, 4, none⟩ = some (.int .i64 x.f4) from (blk_cell h 4).trans rfl) (show V.cell? ⟨g, 5, none⟩ = some (.int .i64 x.f5) from (blk_cell h 5).trans rfl))))))
 unfold scB
 generalize (decide (0 ≤ x.f1) && decide (x.f1 ≤ 1073741824)) = b0 at T0 ⊢
 generalize (decide (0 ≤ x.f2) && decide (x.f2 ≤ 1073741824)) = b1 at T1 ⊢
 generalize (decide (0 ≤ x.f3) && decide (x.f3 ≤ 1073741824)) = b2 at T2 ⊢
 generalize (decide (1 ≤ x.f0) && decide (x.f0 ≤ 6)) = b3 at T3 ⊢
 generalize (decide (0 ≤ x.f4) && decide (x.f4 ≤ 65535)) = b4 at T4 ⊢
 generalize (decide (0 ≤ x.f5) && decide (x.f5 ≤ 1000000)) = b5 at T5 ⊢
 generalize x.f1 = n1 at T0 KC
 generalize x.f2 = n2 at T1 KC
 generalize x.f3 = n3 at T2 KC
 generalize x.f0 = n0 at T3 KC
 generalize x.f4 = n4 at T4 KC
 generalize x.f5 = n5 at T5 KC
 generalize (encSc x).toArray = cs at KC ⊢
 have HB := Ak (Below.refl W.heap.size W)
 have hu62 := Tryz.underlying87
 go_enter Tryz.func69, Tryz.ntmps69
 go_upto_region 1 with (first | ((with_reducible refine gate_dst (N := 1) rfl ?_); refine box_event ?hg (N := 1) ?hd (cs := cs) (t := 87) ?hr ?_; (case hd => rfl); (case hg => rfl); (case hr => first | (go_simp; done) | (go_simp; rfl)); intro gb hg w1 hbox hb; replace HB := Ak (below_step HB.1 hb); have BK := Ak hbox; clear hbox hb hg))
 obtain ⟨k0, k1, k2, k3, k4, k5⟩ := KC.1 _ _ BK.1
 have ways : b0 = false ∨ b0 = true ∧ (b1 = false ∨ b1 = true ∧ (b2 = false ∨ b2 = true ∧ (b3 = false ∨ b3 = true ∧ (b4 = false ∨ b4 = true)))) := by cases b0 <;> cases b1 <;> cases b2 <;> cases b3 <;> cases b4 <;> simp
 rcases ways with rfl | ⟨rfl, rfl | ⟨rfl, rfl | ⟨rfl, rfl | ⟨rfl, rfl | rfl⟩⟩⟩⟩ <;> (go_wp2_with (first | (go_at_call 55; (first | (with_reducible refine (T0.1 _).mono ?_) | (with_reducible refine (T1.1 _).mono ?_) | (with_reducible refine (T2.1 _).mono ?_) | (with_reducible refine (T3.1 _).mono ?_) | (with_reducible refine (T4.1 _).mono ?_) | (with_reducible refine (T5.1 _).mono ?_)); rintro e w2 ⟨rfl, hb⟩; replace HB := Ak (below_step HB.1 hb); replace BK := Ak (blk_below BK.1 hb); clear k0 k1 k2 k3 k4 k5 hb; obtain ⟨k0, k1, k2, k3, k4, k5⟩ := KC.1 _ _ BK.1)); go_ret; exact ⟨by simp, HB.1⟩)
end Go.Proofs.YtiodebjjbgcbhaaGreat.Inp
