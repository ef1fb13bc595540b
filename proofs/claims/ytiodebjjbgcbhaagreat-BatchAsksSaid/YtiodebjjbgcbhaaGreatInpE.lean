import Derived.Test.YtiodebjjbgcbhaaGreatQLefx1
namespace Go.Proofs.YtiodebjjbgcbhaaGreat.Inp
open Go.RowKit Go.Sort Go.Lib Go.Shelf Go.Proofs YtiodebjjbgcbhaaGreatW.PrintWords YtiodebjjbgcbhaaGreatW.PrintLast YtiodebjjbgcbhaaGreatW.PrintMore YtiodebjjbgcbhaaGreat Hand RowK Fill OrdO QLef
attribute [local go_sem] run_equalIn_c run_store_float run_store_complex
attribute [local go_sem ↓ high] Wide.hv44 Wide.hv33 Wide.hv37
set_option linter.unusedVariables false
set_option linter.unusedSectionVars false
set_option linter.unusedSimpArgs false
variable {α : Type}
theorem list32 {l : List Int} (h : l.length = 32) : l = [l.getD 0 0, l.getD 1 0, l.getD 2 0, l.getD 3 0, l.getD 4 0, l.getD 5 0, l.getD 6 0, l.getD 7 0, l.getD 8 0, l.getD 9 0, l.getD 10 0, l.getD 11 0, l.getD 12 0, l.getD 13 0, l.getD 14 0, l.getD 15 0, l.getD 16 0, l.getD 17 0, l.getD 18 0, l.getD 19 0, l.getD 20 0, l.getD 21 0, l.getD 22 0, l.getD 23 0, l.getD 24 0, l.getD 25 0, l.getD 26 0, l.getD 27 0, l.getD 28 0, l.getD 29 0, l.getD 30 0, l.getD 31 0] := by
 rcases l with _ | ⟨u0, l⟩
 ·simp at h
 rcases l with _ | ⟨u1, l⟩
 ·simp at h
 rcases l with _ | ⟨u2, l⟩
 ·simp at h
 rcases l with _ | ⟨u3, l⟩
 ·simp at h
 rcases l with _ | ⟨u4, l⟩
 ·simp at h
 rcases l with _ | ⟨u5, l⟩
 ·simp at h
 rcases l with _ | ⟨u6, l⟩
 ·simp at h
 rcases l with _ | ⟨u7, l⟩
 ·simp at h
 rcases l with _ | ⟨u8, l⟩
 ·simp at h
 rcases l with _ | ⟨u9, l⟩
 ·simp at h
 rcases l with _ | ⟨u10, l⟩
 ·simp at h
 rcases l with _ | ⟨u11, l⟩
 ·simp at h
 rcases l with _ | ⟨u12, l⟩
 ·simp at h
 rcases l with _ | ⟨u13, l⟩
 ·simp at h
 rcases l with _ | ⟨u14, l⟩
 ·simp at h
 rcases l with _ | ⟨u15, l⟩
 ·simp at h
 rcases l with _ | ⟨u16, l⟩
 ·simp at h
 rcases l with _ | ⟨u17, l⟩
 ·simp at h
 rcases l with _ | ⟨u18, l⟩
 ·simp at h
 rcases l with _ | ⟨u19, l⟩
 ·simp at h
 rcases l with _ | ⟨u20, l⟩
 ·simp at h
 rcases l with _ | ⟨u21, l⟩
 ·simp at h
 rcases l with _ | ⟨u22, l⟩
 ·simp at h
 rcases l with _ | ⟨u23, l⟩
 ·simp at h
 rcases l with _ | ⟨u24, l⟩
 ·simp at h
 rcases l with _ | ⟨u25, l⟩
 ·simp at h
 rcases l with _ | ⟨u26, l⟩
 ·simp at h
 rcases l with _ | ⟨u27, l⟩
 ·simp at h
 rcases l with _ | ⟨u28, l⟩
 ·simp at h
 rcases l with _ | ⟨u29, l⟩
 ·simp at h
 rcases l with _ | ⟨u30, l⟩
 ·simp at h
 rcases l with _ | ⟨u31, l⟩
 ·simp at h
 rcases l with _ | ⟨u, l⟩
 ·rfl
 ·simp at h
def Spec.inS (I : Spec α) (x : α) : S79 := ⟨⟨⟨(I.bs x).getD 0 0, (I.bs x).getD 1 0, (I.bs x).getD 2 0, (I.bs x).getD 3 0, (I.bs x).getD 4 0, (I.bs x).getD 5 0, (I.bs x).getD 6 0, (I.bs x).getD 7 0, (I.bs x).getD 8 0, (I.bs x).getD 9 0, (I.bs x).getD 10 0, (I.bs x).getD 11 0, (I.bs x).getD 12 0, (I.bs x).getD 13 0, (I.bs x).getD 14 0, (I.bs x).getD 15 0, (I.bs x).getD 16 0, (I.bs x).getD 17 0, (I.bs x).getD 18 0, (I.bs x).getD 19 0, (I.bs x).getD 20 0, (I.bs x).getD 21 0, (I.bs x).getD 22 0, (I.bs x).getD 23 0, (I.bs x).getD 24 0, (I.bs x).getD 25 0, (I.bs x).getD 26 0, (I.bs x).getD 27 0, (I.bs x).getD 28 0, (I.bs x).getD 29 0, (I.bs x).getD 30 0, (I.bs x).getD 31 0⟩, I.nn x⟩, I.seq x, ⟨I.kind x, I.key x, I.pre x⟩⟩
theorem Spec.inS_cells (I : Spec α) (x : α) : I.inCells x = [.int .u8 (I.inS x).f0.f0.f0, .int .u8 (I.inS x).f0.f0.f1, .int .u8 (I.inS x).f0.f0.f2, .int .u8 (I.inS x).f0.f0.f3, .int .u8 (I.inS x).f0.f0.f4, .int .u8 (I.inS x).f0.f0.f5, .int .u8 (I.inS x).f0.f0.f6, .int .u8 (I.inS x).f0.f0.f7, .int .u8 (I.inS x).f0.f0.f8, .int .u8 (I.inS x).f0.f0.f9, .int .u8 (I.inS x).f0.f0.f10, .int .u8 (I.inS x).f0.f0.f11, .int .u8 (I.inS x).f0.f0.f12, .int .u8 (I.inS x).f0.f0.f13, .int .u8 (I.inS x).f0.f0.f14, .int .u8 (I.inS x).f0.f0.f15, .int .u8 (I.inS x).f0.f0.f16, .int .u8 (I.inS x).f0.f0.f17, .int .u8 (I.inS x).f0.f0.f18, .int .u8 (I.inS x).f0.f0.f19, .int .u8 (I.inS x).f0.f0.f20, .int .u8 (I.inS x).f0.f0.f21, .int .u8 (I.inS x).f0.f0.f22, .int .u8 (I.inS x).f0.f0.f23, .int .u8 (I.inS x).f0.f0.f24, .int .u8 (I.inS x).f0.f0.f25, .int .u8 (I.inS x).f0.f0.f26, .int .u8 (I.inS x).f0.f0.f27, .int .u8 (I.inS x).f0.f0.f28, .int .u8 (I.inS x).f0.f0.f29, .int .u8 (I.inS x).f0.f0.f30, .int .u8 (I.inS x).f0.f0.f31, .int .i64 (I.inS x).f0.f1, .int .i64 (I.inS x).f1, .int .i64 (I.inS x).f2.f0, .int .i64 (I.inS x).f2.f1, .string (I.inS x).f2.f2] := by
 unfold Spec.inCells Spec.pt
 rw [list32 (I.hbs x)]
 rfl
theorem Spec.inS_M (I : Spec α) (x : α) (w : World) (base : Nat) (ok : Nat → Prop) : Kd.M k79 w base ok (I.inS x) (I.inCells x) := by
 rw [I.inS_cells]
 exact k79_mkM w base ok (I.inS x)
theorem info_out : (Tryz.prog.info? 90).map (fun i => (i.zero, i.size, i.bytes)) = some (some (.agg #[(.int .i64 0), (.int .i64 0), (.int .i64 0), (.int .i64 0), (.int .i64 0), (.int .i64 0), (.int .i64 0), (.int .u8 0), (.int .u8 0), (.int .u8 0), (.int .u8 0), (.int .u8 0), (.int .u8 0), (.int .u8 0), (.int .u8 0), (.int .u8 0), (.int .u8 0), (.int .u8 0), (.int .u8 0), (.int .u8 0), (.int .u8 0), (.int .u8 0), (.int .u8 0), (.int .u8 0), (.int .u8 0), (.int .u8 0), (.int .u8 0), (.int .u8 0), (.int .u8 0), (.int .u8 0), (.int .u8 0), (.int .u8 0), (.int .u8 0), (.int .u8 0), (.int .u8 0), (.int .u8 0), (.int .u8 0), (.int .u8 0), (.int .u8 0)]), 39, 88) := by kernel_rfl
theorem list37 {l : List Value} (h : l.length = 37) : ∃ u0 u1 u2 u3 u4 u5 u6 u7 u8 u9 u10 u11 u12 u13 u14 u15 u16 u17 u18 u19 u20 u21 u22 u23 u24 u25 u26 u27 u28 u29 u30 u31 u32 u33 u34 u35 u36 : Value, l = [u0, u1, u2, u3, u4, u5, u6, u7, u8, u9, u10, u11, u12, u13, u14, u15, u16, u17, u18, u19, u20, u21, u22, u23, u24, u25, u26, u27, u28, u29, u30, u31, u32, u33, u34, u35, u36] := by
 rcases l with _ | ⟨u0, l⟩
 ·simp at h
 rcases l with _ | ⟨u1, l⟩
 ·simp at h
 rcases l with _ | ⟨u2, l⟩
 ·simp at h
 rcases l with _ | ⟨u3, l⟩
 ·simp at h
 rcases l with _ | ⟨u4, l⟩
 ·simp at h
 rcases l with _ | ⟨u5, l⟩
 ·simp at h
 rcases l with _ | ⟨u6, l⟩
 ·simp at h
 rcases l with _ | ⟨u7, l⟩
 ·simp at h
 rcases l with _ | ⟨u8, l⟩
 ·simp at h
 rcases l with _ | ⟨u9, l⟩
 ·simp at h
 rcases l with _ | ⟨u10, l⟩
 ·simp at h
 rcases l with _ | ⟨u11, l⟩
 ·simp at h
 rcases l with _ | ⟨u12, l⟩
 ·simp at h
 rcases l with _ | ⟨u13, l⟩
 ·simp at h
 rcases l with _ | ⟨u14, l⟩
 ·simp at h
 rcases l with _ | ⟨u15, l⟩
 ·simp at h
 rcases l with _ | ⟨u16, l⟩
 ·simp at h
 rcases l with _ | ⟨u17, l⟩
 ·simp at h
 rcases l with _ | ⟨u18, l⟩
 ·simp at h
 rcases l with _ | ⟨u19, l⟩
 ·simp at h
 rcases l with _ | ⟨u20, l⟩
 ·simp at h
 rcases l with _ | ⟨u21, l⟩
 ·simp at h
 rcases l with _ | ⟨u22, l⟩
 ·simp at h
 rcases l with _ | ⟨u23, l⟩
 ·simp at h
 rcases l with _ | ⟨u24, l⟩
 ·simp at h
 rcases l with _ | ⟨u25, l⟩
 ·simp at h
 rcases l with _ | ⟨u26, l⟩
 ·simp at h
 rcases l with _ | ⟨u27, l⟩
 ·simp at h
 rcases l with _ | ⟨u28, l⟩
 ·simp at h
 rcases l with _ | ⟨u29, l⟩
 ·simp at h
 rcases l with _ | ⟨u30, l⟩
 ·simp at h
 rcases l with _ | ⟨u31, l⟩
 ·simp at h
 rcases l with _ | ⟨u32, l⟩
 ·simp at h
 rcases l with _ | ⟨u33, l⟩
 ·simp at h
 rcases l with _ | ⟨u34, l⟩
 ·simp at h
 rcases l with _ | ⟨u35, l⟩
 ·simp at h
 rcases l with _ | ⟨u36, l⟩
 ·simp at h
 rcases l with _ | ⟨u, l⟩
 ·exact ⟨u0, u1, u2, u3, u4, u5, u6, u7, u8, u9, u10, u11, u12, u13, u14, u15, u16, u17, u18, u19, u20, u21, u22, u23, u24, u25, u26, u27, u28, u29, u30, u31, u32, u33, u34, u35, u36, rfl⟩
 ·simp at h
set_option maxHeartbeats 8000000 in
set_option maxRecDepth 100000 in
theorem rise_calls (I : Spec α) (x : α) (k : Nat) (r : Int) (r1 r2 : C128) (r3 : Int) (hw : tx_Weight.f k [I.inS x] (List.replicate 1 z90) 0 = some r) (ho : curve_Of.f (I.since x) (I.dl x) (I.budget x) r = some (r1, r2, r3)) (w : World) :
 Calls Tryz.prog 25 #[.agg (I.enc x).toArray] w fun e w' => e = .returned (.tuple #[.agg #[.complex .f64 r1.re r1.im, .complex .f64 r2.re r2.im], .int .i64 r3]) ∧ Below w.heap.size w w' := by
 have HIN := Ak (fun W => in_calls I x W)
 have HM := Ak (fun W base ok => I.inS_M x W base ok)
 have HH := Ak (I.hin x)
 have A4 := Ak hw
 have A5 := Ak ho
 have hx := I.hk x
 have a1 := (show (I.enc x)[41]? = some (.int .i64 (I.since x)) from I.at_ x 8)
 have a2 := I.at_dl x
 have a3 := I.at_budget x
 clear hw ho
 generalize I.since x = n1 at a1 A5
 generalize I.dl x = n2 at a2 A5
 generalize I.budget x = n3 at a3 A5
 generalize I.inS x = xs at HM A4
 generalize I.inCells x = ic at HIN HM HH
 generalize I.enc x = cx at hx a1 a2 a3 HIN ⊢
 obtain ⟨yi, hyi⟩ : ∃ y_ : List S79, y_ = [xs] := ⟨_, rfl⟩
 obtain ⟨yo, hyo⟩ : ∃ y_ : List S90, y_ = List.replicate 1 z90 := ⟨_, rfl⟩
 rw [← hyi, ← hyo] at A4
 have NI := Ak hyi
 have NO := Ak hyo
 have HB := Ak (Below.refl w.heap.size w)
 have CX := Ak (And.intro hx (And.intro a1 (And.intro a2 a3)))
 clear hyi hyo hx a1 a2 a3
 have hu90 := Tryz.underlying38
 have hu125 := Tryz.underlying74
 have hu28 := Tryz.underlying48
 go_enter Tryz.func25, Tryz.ntmps25
 try go_wp2_with (first | ((with_reducible refine gate_dst (N := 1) rfl ?_); refine box_event ?hg (N := 1) ?hd (cs := cx.toArray) (t := 38) ?hr ?_; (case hd => rfl); (case hg => rfl); (case hr => first | (go_simp; done) | (go_simp; rfl)); intro gb hg w6 hbox hb; have HB6 := Ak (below_step HB.1 hb); have BK6 := Ak hbox; have GB := Ak (show w.heap.size ≤ gb by rw [hg]; exact Nat.le_refl _); clear HB hbox hb hg) | ((with_reducible refine gate_dst (N := 2) rfl ?_); refine box_event ?hg (N := 2) ?hd (cs := #[.complex .f64 0 0, .complex .f64 0 0]) (t := 74) ?hr ?_; (case hd => rfl); (case hg => rfl); (case hr => first | (go_simp; done) | (go_simp; rfl)); intro gc hgc w7 hbox hb; have HB := Ak (below_step HB6.1 hb); have BK := Ak (blk_below BK6.1 hb); have BC := Ak hbox; have GC := Ak (show w.heap.size ≤ gc by rw [hgc]; exact HB6.1.size); have NBC := Ak (show gb ≠ gc by rw [hgc]; exact Nat.ne_of_lt (Array.getElem?_eq_some_iff.1 BK6.1).1); clear HB6 BK6 hbox hb hgc))
 replace BK := Ak (blk_drew BK.1)
 replace BC := Ak (blk_drew BC.1)
 replace HB := Ak (below_drew1 HB.1)
 refine start_ (n := 7) (S := (fun w' => Sem.run Tryz.prog (Wide.heavy0 ⟨gb, 0, none⟩ 44) w' = .ok cx.toArray w')) (ds := []) #[false, false, false, false, false, false, false] (by kernel_rfl) rfl rfl (row_load BK.1 0 44 _ CX.1.1 (by rw [List.drop_zero, List.take_of_length_le (by rw [CX.1.1]; exact Nat.le_refl _)])) (fun hHeld => ?_)
 generalize w7.drew = w8 at BK BC HB hHeld ⊢
 refine take_ (i := 0) (N := some 5) (v := ?_) (a' := ?_) #[true, false, false, false, false, false, false] rfl rfl (by kernel_rfl) (fun _ _ _ h => h) (Or.inl ⟨by rfl, ?_⟩) hHeld ?_ ?_
 rotate_left
 ·rintro w' hl0
  go_simp
  with_reducible rfl
 rotate_left
 ·simp only [Act.put, ls_, l0_, l1_, i64_w, i32_w]
  rfl
 refine join_ (σ := Value × Value) 3 #[true, true, true, true, false, false, false] (fun s_ => [(6, .agg ic.toArray), (7, s_.1), (8, s_.2)]) (fun s_ w' => ((fun w' => Sem.run Tryz.prog (Wide.heavy0 ⟨gb, 0, none⟩ 44) w' = .ok cx.toArray w') w') ∧ (Kd.R k79 79 w' w.heap.size (fun _ => True) s_.1 yi) ∧ (Kd.R k90 90 w' w.heap.size (fun _ => True) s_.2 yo) ∧ (w'.heap[gb]? = some (.cells cx.toArray 38 (0, 0))) ∧ (w'.heap[gc]? = some (.cells #[.complex .f64 0 0, .complex .f64 0 0] 74 (0, 0))) ∧ (Below w.heap.size w w')) ?_ ?_
 rotate_left
 ·intro hCont
  refine two_ (i := 1) (j := 3) (Ni := some 6) (Nj := some 8) #[true, true, false, false, false, false, false] #[true, false, false, true, false, false, false] rfl rfl rfl rfl (by kernel_rfl) (by decide) (by decide) (fun K hK => ?_) (fun K hK => ?_)
  ·skip
   refine goes_ Tryz.func33 (by kernel_rfl) rfl #[.agg cx.toArray] (by rfl) rfl rfl (by (try simp only [lm_, lc_, ln_]); first | done | rfl) ?_
   refine (HIN.1 _).mono ?_
   rintro e w9 ⟨rfl, hb⟩
   refine ⟨_, rfl, ?_⟩
   replace BK := Ak (blk_below BK.1 hb)
   replace BC := Ak (blk_below BC.1 hb)
   replace HB := Ak (below_step HB.1 hb)
   clear hb
   refine hK.out _ _ (row_load BK.1 0 44 _ CX.1.1 (by rw [List.drop_zero, List.take_of_length_le (by rw [CX.1.1]; exact Nat.le_refl _)])) (fun hHeld => ?_)
   clear hK K
   refine norm_ (a' := ?_) ?_ ?_
   rotate_left
   ·show Act.put _ (some 6) _ = _
    simp only [Act.put, ls_, l0_, l1_, i64_w, i32_w]
    rfl
   refine two_ (i := 2) (j := 3) (Ni := some 7) (Nj := some 8) #[true, true, true, false, false, false, false] #[true, true, false, true, false, false, false] rfl rfl rfl rfl (by kernel_rfl) (by decide) (by decide) (fun K hK => ?_) (fun K hK => ?_)
   ·skip
    refine Kd.R_lit_step k79 _ 79 ?hg (N := 7) ?hd (xs := [xs]) (inner := ic) (ok := fun _ => True) (okp := fun _ => True) ?hr ?hp (fun _ hk => hk) trivial (Below.refl _ _) (Nat.le_refl _) (by simp) ?_
    case hd => rfl
    case hg => rfl
    case hr => clear HIN HM CX; obtain ⟨u0, u1, u2, u3, u4, u5, u6, u7, u8, u9, u10, u11, u12, u13, u14, u15, u16, u17, u18, u19, u20, u21, u22, u23, u24, u25, u26, u27, u28, u29, u30, u31, u32, u33, u34, u35, u36, rfl⟩ := list37 HH.1; first | (go_simp; done) | (go_simp; rfl)
    case hp => exact Reps.front (HM.1 _ _ _) HH.1 (Reps.none _ _) (List.append_nil _)
    intro v7 w10 hv hb hg_ hnew_
    clear hg_ hnew_
    rw [← NI.1] at hv
    have HI := Ak (Kd.R_lower hv HB.1.size)
    replace BK := Ak (blk_below BK.1 hb)
    replace BC := Ak (blk_below BC.1 hb)
    replace HB := Ak (below_step HB.1 hb)
    clear hb hv
    refine hK.out _ _ (row_load BK.1 0 44 _ CX.1.1 (by rw [List.drop_zero, List.take_of_length_le (by rw [CX.1.1]; exact Nat.le_refl _)])) (fun hHeld => ?_)
    clear hK K
    refine norm_ (a' := ?_) ?_ ?_
    rotate_left
    ·show Act.put _ (some 7) _ = _
     simp only [Act.put, ls_, l0_, l1_, i64_w, i32_w]
     rfl
    refine one_ (i := 3) (N := some 8) #[true, true, true, true, false, false, false] rfl rfl (by kernel_rfl) (by decide) (fun K hK => ?_)
    refine Kd.R_make_step k90 _ 90 (by rfl) (N := 8) rfl 46 _ _ rfl 1 rfl rfl Tryz.underlying46 (.agg #[(.int .i64 0), (.int .i64 0), (.int .i64 0), (.int .i64 0), (.int .i64 0), (.int .i64 0), (.int .i64 0), (.int .u8 0), (.int .u8 0), (.int .u8 0), (.int .u8 0), (.int .u8 0), (.int .u8 0), (.int .u8 0), (.int .u8 0), (.int .u8 0), (.int .u8 0), (.int .u8 0), (.int .u8 0), (.int .u8 0), (.int .u8 0), (.int .u8 0), (.int .u8 0), (.int .u8 0), (.int .u8 0), (.int .u8 0), (.int .u8 0), (.int .u8 0), (.int .u8 0), (.int .u8 0), (.int .u8 0), (.int .u8 0), (.int .u8 0), (.int .u8 0), (.int .u8 0), (.int .u8 0), (.int .u8 0), (.int .u8 0), (.int .u8 0)]) 88 info_out rfl (by decide) (by omega) z90 (ok := fun _ => True) (okp := fun _ => True) (k90_mkM _ _ _ z90) (fun _ hk => hk) trivial (by omega) (by omega) (Below.refl _ _) (Nat.le_refl _) ?_
    intro v8 w11 hv hb hg_ hnew_
    clear hg_ hnew_
    simp only [Int.reduceToNat] at hv
    rw [← NO.1] at hv
    have HO := Ak (Kd.R_lower hv HB.1.size)
    replace HI := Ak (Kd.R_below HI.1 hb)
    replace BK := Ak (blk_below BK.1 hb)
    replace BC := Ak (blk_below BC.1 hb)
    replace HB := Ak (below_step HB.1 hb)
    clear hb hv
    refine hK.out _ _ (row_load BK.1 0 44 _ CX.1.1 (by rw [List.drop_zero, List.take_of_length_le (by rw [CX.1.1]; exact Nat.le_refl _)])) (fun hHeld => ?_)
    clear hK K
    refine norm_ (a' := ?_) ?_ ?_
    rotate_left
    ·show Act.put _ (some 8) _ = _
     simp only [Act.put, ls_, l0_, l1_, i64_w, i32_w]
     rfl
    exact norm_ (by simp only [putAll, Act.put, ls_, l0_, l1_]) (hCont (v7, v8) _ ⟨hHeld, HI.1, HO.1, BK.1, BC.1, HB.1⟩)
   ·skip
    refine Kd.R_make_step k90 _ 90 (by rfl) (N := 8) rfl 46 _ _ rfl 1 rfl rfl Tryz.underlying46 (.agg #[(.int .i64 0), (.int .i64 0), (.int .i64 0), (.int .i64 0), (.int .i64 0), (.int .i64 0), (.int .i64 0), (.int .u8 0), (.int .u8 0), (.int .u8 0), (.int .u8 0), (.int .u8 0), (.int .u8 0), (.int .u8 0), (.int .u8 0), (.int .u8 0), (.int .u8 0), (.int .u8 0), (.int .u8 0), (.int .u8 0), (.int .u8 0), (.int .u8 0), (.int .u8 0), (.int .u8 0), (.int .u8 0), (.int .u8 0), (.int .u8 0), (.int .u8 0), (.int .u8 0), (.int .u8 0), (.int .u8 0), (.int .u8 0), (.int .u8 0), (.int .u8 0), (.int .u8 0), (.int .u8 0), (.int .u8 0), (.int .u8 0), (.int .u8 0)]) 88 info_out rfl (by decide) (by omega) z90 (ok := fun _ => True) (okp := fun _ => True) (k90_mkM _ _ _ z90) (fun _ hk => hk) trivial (by omega) (by omega) (Below.refl _ _) (Nat.le_refl _) ?_
    intro v8 w11 hv hb hg_ hnew_
    clear hg_ hnew_
    simp only [Int.reduceToNat] at hv
    rw [← NO.1] at hv
    have HO := Ak (Kd.R_lower hv HB.1.size)
    replace BK := Ak (blk_below BK.1 hb)
    replace BC := Ak (blk_below BC.1 hb)
    replace HB := Ak (below_step HB.1 hb)
    clear hb hv
    refine hK.out _ _ (row_load BK.1 0 44 _ CX.1.1 (by rw [List.drop_zero, List.take_of_length_le (by rw [CX.1.1]; exact Nat.le_refl _)])) (fun hHeld => ?_)
    clear hK K
    refine norm_ (a' := ?_) ?_ ?_
    rotate_left
    ·show Act.put _ (some 8) _ = _
     simp only [Act.put, ls_, l0_, l1_, i64_w, i32_w]
     rfl
    refine one_ (i := 2) (N := some 7) #[true, true, true, true, false, false, false] rfl rfl (by kernel_rfl) (by decide) (fun K hK => ?_)
    refine Kd.R_lit_step k79 _ 79 ?hg (N := 7) ?hd (xs := [xs]) (inner := ic) (ok := fun _ => True) (okp := fun _ => True) ?hr ?hp (fun _ hk => hk) trivial (Below.refl _ _) (Nat.le_refl _) (by simp) ?_
    case hd => rfl
    case hg => rfl
    case hr => clear HIN HM CX; obtain ⟨u0, u1, u2, u3, u4, u5, u6, u7, u8, u9, u10, u11, u12, u13, u14, u15, u16, u17, u18, u19, u20, u21, u22, u23, u24, u25, u26, u27, u28, u29, u30, u31, u32, u33, u34, u35, u36, rfl⟩ := list37 HH.1; first | (go_simp; done) | (go_simp; rfl)
    case hp => exact Reps.front (HM.1 _ _ _) HH.1 (Reps.none _ _) (List.append_nil _)
    intro v7 w10 hv hb hg_ hnew_
    clear hg_ hnew_
    rw [← NI.1] at hv
    have HI := Ak (Kd.R_lower hv HB.1.size)
    replace HO := Ak (Kd.R_below HO.1 hb)
    replace BK := Ak (blk_below BK.1 hb)
    replace BC := Ak (blk_below BC.1 hb)
    replace HB := Ak (below_step HB.1 hb)
    clear hb hv
    refine hK.out _ _ (row_load BK.1 0 44 _ CX.1.1 (by rw [List.drop_zero, List.take_of_length_le (by rw [CX.1.1]; exact Nat.le_refl _)])) (fun hHeld => ?_)
    clear hK K
    refine norm_ (a' := ?_) ?_ ?_
    rotate_left
    ·show Act.put _ (some 7) _ = _
     simp only [Act.put, ls_, l0_, l1_, i64_w, i32_w]
     rfl
    exact norm_ (by simp only [putAll, Act.put, ls_, l0_, l1_]) (hCont (v7, v8) _ ⟨hHeld, HI.1, HO.1, BK.1, BC.1, HB.1⟩)
  ·skip
   refine Kd.R_make_step k90 _ 90 (by rfl) (N := 8) rfl 46 _ _ rfl 1 rfl rfl Tryz.underlying46 (.agg #[(.int .i64 0), (.int .i64 0), (.int .i64 0), (.int .i64 0), (.int .i64 0), (.int .i64 0), (.int .i64 0), (.int .u8 0), (.int .u8 0), (.int .u8 0), (.int .u8 0), (.int .u8 0), (.int .u8 0), (.int .u8 0), (.int .u8 0), (.int .u8 0), (.int .u8 0), (.int .u8 0), (.int .u8 0), (.int .u8 0), (.int .u8 0), (.int .u8 0), (.int .u8 0), (.int .u8 0), (.int .u8 0), (.int .u8 0), (.int .u8 0), (.int .u8 0), (.int .u8 0), (.int .u8 0), (.int .u8 0), (.int .u8 0), (.int .u8 0), (.int .u8 0), (.int .u8 0), (.int .u8 0), (.int .u8 0), (.int .u8 0), (.int .u8 0)]) 88 info_out rfl (by decide) (by omega) z90 (ok := fun _ => True) (okp := fun _ => True) (k90_mkM _ _ _ z90) (fun _ hk => hk) trivial (by omega) (by omega) (Below.refl _ _) (Nat.le_refl _) ?_
   intro v8 w11 hv hb hg_ hnew_
   clear hg_ hnew_
   simp only [Int.reduceToNat] at hv
   rw [← NO.1] at hv
   have HO := Ak (Kd.R_lower hv HB.1.size)
   replace BK := Ak (blk_below BK.1 hb)
   replace BC := Ak (blk_below BC.1 hb)
   replace HB := Ak (below_step HB.1 hb)
   clear hb hv
   refine hK.out _ _ (row_load BK.1 0 44 _ CX.1.1 (by rw [List.drop_zero, List.take_of_length_le (by rw [CX.1.1]; exact Nat.le_refl _)])) (fun hHeld => ?_)
   clear hK K
   refine norm_ (a' := ?_) ?_ ?_
   rotate_left
   ·show Act.put _ (some 8) _ = _
    simp only [Act.put, ls_, l0_, l1_, i64_w, i32_w]
    rfl
   refine one_ (i := 1) (N := some 6) #[true, true, false, true, false, false, false] rfl rfl (by kernel_rfl) (by decide) (fun K hK => ?_)
   refine goes_ Tryz.func33 (by kernel_rfl) rfl #[.agg cx.toArray] (by rfl) rfl rfl (by (try simp only [lm_, lc_, ln_]); first | done | rfl) ?_
   refine (HIN.1 _).mono ?_
   rintro e w9 ⟨rfl, hb⟩
   refine ⟨_, rfl, ?_⟩
   replace HO := Ak (Kd.R_below HO.1 hb)
   replace BK := Ak (blk_below BK.1 hb)
   replace BC := Ak (blk_below BC.1 hb)
   replace HB := Ak (below_step HB.1 hb)
   clear hb
   refine hK.out _ _ (row_load BK.1 0 44 _ CX.1.1 (by rw [List.drop_zero, List.take_of_length_le (by rw [CX.1.1]; exact Nat.le_refl _)])) (fun hHeld => ?_)
   clear hK K
   refine norm_ (a' := ?_) ?_ ?_
   rotate_left
   ·show Act.put _ (some 6) _ = _
    simp only [Act.put, ls_, l0_, l1_, i64_w, i32_w]
    rfl
   refine one_ (i := 2) (N := some 7) #[true, true, true, true, false, false, false] rfl rfl (by kernel_rfl) (by decide) (fun K hK => ?_)
   refine Kd.R_lit_step k79 _ 79 ?hg (N := 7) ?hd (xs := [xs]) (inner := ic) (ok := fun _ => True) (okp := fun _ => True) ?hr ?hp (fun _ hk => hk) trivial (Below.refl _ _) (Nat.le_refl _) (by simp) ?_
   case hd => rfl
   case hg => rfl
   case hr => clear HIN HM CX; obtain ⟨u0, u1, u2, u3, u4, u5, u6, u7, u8, u9, u10, u11, u12, u13, u14, u15, u16, u17, u18, u19, u20, u21, u22, u23, u24, u25, u26, u27, u28, u29, u30, u31, u32, u33, u34, u35, u36, rfl⟩ := list37 HH.1; first | (go_simp; done) | (go_simp; rfl)
   case hp => exact Reps.front (HM.1 _ _ _) HH.1 (Reps.none _ _) (List.append_nil _)
   intro v7 w10 hv hb hg_ hnew_
   clear hg_ hnew_
   rw [← NI.1] at hv
   have HI := Ak (Kd.R_lower hv HB.1.size)
   replace HO := Ak (Kd.R_below HO.1 hb)
   replace BK := Ak (blk_below BK.1 hb)
   replace BC := Ak (blk_below BC.1 hb)
   replace HB := Ak (below_step HB.1 hb)
   clear hb hv
   refine hK.out _ _ (row_load BK.1 0 44 _ CX.1.1 (by rw [List.drop_zero, List.take_of_length_le (by rw [CX.1.1]; exact Nat.le_refl _)])) (fun hHeld => ?_)
   clear hK K
   refine norm_ (a' := ?_) ?_ ?_
   rotate_left
   ·show Act.put _ (some 7) _ = _
    simp only [Act.put, ls_, l0_, l1_, i64_w, i32_w]
    rfl
   exact norm_ (by simp only [putAll, Act.put, ls_, l0_, l1_]) (hCont (v7, v8) _ ⟨hHeld, HI.1, HO.1, BK.1, BC.1, HB.1⟩)
 rintro ⟨v7, v8⟩ w16 ⟨hHeld, h0_, h1_, h2_, h3_, h4_⟩
 clear BK BC HB
 have HI := Ak h0_
 have HO := Ak h1_
 have BK := Ak h2_
 have BC := Ak h3_
 have HB := Ak h4_
 clear h0_ h1_ h2_ h3_ h4_
 obtain ⟨Ai, ci, ei⟩ := Kd.R_slice HI.1
 subst ei
 obtain ⟨Ao, co, eo⟩ := Kd.R_slice HO.1
 subst eo
 refine norm_ (a' := ?_) ?_ ?_
 rotate_left
 ·simp only [putAll, Act.put, ls_, l0_, l1_]
  rfl
 refine pure_ (i := 4) (N := some 9) (v := ?_) (a' := ?_) #[true, true, true, true, true, false, false] rfl rfl (by kernel_rfl) (fun _ _ _ h => h) (Or.inl ⟨by rfl, ?_⟩) ?_ ?_
 rotate_left
 ·intro w'
  go_simp
  with_reducible rfl
 rotate_left
 ·simp only [Act.put, ls_, l0_, l1_, i64_w, i32_w]
  rfl
 refine one_ (i := 5) (N := some 10) #[true, true, true, true, true, true, false] rfl rfl (by kernel_rfl) (by decide) (fun K hK => ?_)
 refine goes_ Tryz.func36 (by kernel_rfl) rfl #[.agg #[.slice Ai yi.length ci, .slice Ao yo.length co, .int .i64 0]] (by rfl) rfl rfl (by (try simp only [lm_, lc_, ln_]); first | done | rfl) ?_
 refine (tx_Weight.calls k _ _ yi _ _ yo 0 r _ (Kd.R_reads' HI.1).2.2 (Kd.R_reads' HI.1).2.1 (Kd.R_reads' HO.1).2.2 (Kd.R_reads' HO.1).2.1 A4.1).mono ?_
 rintro e w19 ⟨rfl, hb⟩
 refine ⟨_, rfl, ?_⟩
 replace BK := Ak (blk_below BK.1 hb)
 replace BC := Ak (blk_below BC.1 hb)
 replace HB := Ak (below_step HB.1 hb)
 clear hb HI HO
 refine hK.out _ _ (row_load BK.1 0 44 _ CX.1.1 (by rw [List.drop_zero, List.take_of_length_le (by rw [CX.1.1]; exact Nat.le_refl _)])) (fun hHeld => ?_)
 clear hK K
 refine norm_ (a' := ?_) ?_ ?_
 rotate_left
 ·show Act.put _ (some 10) _ = _
  simp only [Act.put, ls_, l0_, l1_, i64_w, i32_w]
  rfl
 refine pure_ (i := 6) (N := some 4) (v := ?_) (a' := ?_) #[true, true, true, true, true, true, true] rfl rfl (by kernel_rfl) (fun _ _ _ h => h) (Or.inl ⟨by rfl, ?_⟩) ?_ ?_
 rotate_left
 ·intro w'
  go_simp
  with_reducible rfl
 rotate_left
 ·simp only [Act.put, ls_, l0_, l1_, i64_w, i32_w]
  rfl
 refine done_ (by kernel_rfl) ?_
 clear hHeld
 have k41 : w19.cell? ⟨gb, 41, none⟩ = some (.int .i64 n1) := (blk_cell BK.1 41).trans (by simpa using CX.1.2.1)
 have k42 : w19.cell? ⟨gb, 42, none⟩ = some (.int .i64 n2) := (blk_cell BK.1 42).trans (by simpa using CX.1.2.2.1)
 have k43 : w19.cell? ⟨gb, 43, none⟩ = some (.int .i64 n3) := (blk_cell BK.1 43).trans (by simpa using CX.1.2.2.2)
 go_wp2_with (go_at_call 56; refine (curve_Of.calls n1 n2 n3 r r1 r2 r3 _ A5.1).mono ?_; rintro e w22 ⟨rfl, hb⟩; replace BC := Ak (blk_below BC.1 hb); replace HB := Ak (below_step HB.1 hb); clear BK k41 k42 k43; have hc0 := (blk_cell BC.1 0).trans rfl; have hc1 := (blk_cell BC.1 1).trans rfl; have hf0 := blk_frozen BC.1 0; have hf1 := blk_frozen BC.1 1; clear hb)
 refine bodyPost_ret (results_ct rfl _ _ gc 74 #[.complex .f64 r1.re r1.im, .complex .f64 r2.re r2.im] (0, 0) _ rfl (by refine blk_put (cs := #[.complex .f64 r1.re r1.im, .complex .f64 0 0]) ?_ 1 _ rfl; refine blk_put (cs := #[.complex .f64 0 0, .complex .f64 0 0]) ?_ 0 _ rfl; exact BC.1) Tryz.underlying74 rfl (by kernel_rfl)) rfl ?_
 exact ⟨by first | rfl | simp, below_set (below_set HB.1 GC.1) GC.1⟩
def wiB (a b c : Int) : Bool := decide (b ≤ a) && decide (a ≤ c)
set_option maxHeartbeats 1000000 in
theorem within_calls (a b c : Int) (w : World) : Calls Tryz.prog 23 #[.int .i64 a, .int .i64 b, .int .i64 c] w fun e w' => e = .returned (.bool (wiB a b c)) ∧ Below w.heap.size w w' := by
 have HB := Ak (Below.refl w.heap.size w)
 unfold wiB
 cases h1 : decide (b ≤ a)
 ·go_enter Tryz.func23, Tryz.ntmps23
  go_wp2
  go_ret
  exact ⟨by simp, HB.1⟩
 ·go_enter Tryz.func23, Tryz.ntmps23
  go_wp2
  go_ret
  exact ⟨by simp, HB.1⟩
def chkV (p1 p2 p3 b1 b2 b3 p5 : Bool) (r3 : Int) : Int := if p1 && p2 && p3 && (b1 && b2 && b3) && p5 then r3 else 1
set_option maxHeartbeats 8000000 in
set_option maxRecDepth 100000 in
theorem check_calls (I : Spec α) (x : α) (k : Nat) (r : Int) (r1 r2 : C128) (r3 : Int) (p3 : Bool) (hw : tx_Weight.f k [I.inS x] (List.replicate 1 z90) 0 = some r) (ho : curve_Of.f (I.since x) (I.dl x) (I.budget x) r = some (r1, r2, r3)) (h3 : tx_Witness.f (I.kind x) (I.key x) (I.pre x) = some p3) (w : World) :
 Calls Tryz.prog 8 #[.agg (I.enc x).toArray] w fun e w' => e = .returned (.int .i64 (chkV (wiB (I.nn x) 0 99) (wiB (I.value x) 1 2100000000000000) p3 (wiB (I.seq x) 0 65535) (wiB (I.wait x) 0 65535) (wiB (I.lock x) 0 1000000) (wiB (I.conf x) 0 1000000) r3)) ∧ Below w.heap.size w w' := by
 have HR := Ak (rise_calls I x k r r1 r2 r3 hw ho)
 have HW := Ak (fun W => tx_Witness.calls (I.kind x) (I.key x) (I.pre x) p3 W h3)
 clear hw ho h3
 have B1 := Ak (within_calls (I.seq x) 0 65535)
 have B2 := Ak (within_calls (I.wait x) 0 65535)
 have B3 := Ak (within_calls (I.lock x) 0 1000000)
 have P1 := Ak (within_calls (I.nn x) 0 99)
 have P2 := Ak (within_calls (I.value x) 1 2100000000000000)
 have P5 := Ak (within_calls (I.conf x) 0 1000000)
 have hx := I.hk x
 have a0 := (show (I.enc x)[32]? = some (.int .i64 (I.nn x)) from by unfold Spec.enc Spec.pt; rw [List.append_assoc, List.getElem?_append_right (by simp [I.hbs])]; simp [I.hbs])
 have a1 := I.at_value x
 have a2 := I.at_kind x
 have a3 := I.at_key x
 have a4 := I.at_pre x
 have a5 := I.at_seq x
 have a6 := (show (I.enc x)[38]? = some (.int .i64 (I.lock x)) from I.at_ x 5)
 have a7 := (show (I.enc x)[39]? = some (.int .i64 (I.wait x)) from I.at_ x 6)
 have a8 := I.at_conf x
 generalize wiB (I.seq x) 0 65535 = b1 at B1 ⊢
 generalize wiB (I.wait x) 0 65535 = b2 at B2 ⊢
 generalize wiB (I.lock x) 0 1000000 = b3 at B3 ⊢
 generalize wiB (I.nn x) 0 99 = p1 at P1 ⊢
 generalize wiB (I.value x) 1 2100000000000000 = p2 at P2 ⊢
 generalize wiB (I.conf x) 0 1000000 = p5 at P5 ⊢
 generalize I.nn x = n0 at a0 P1
 generalize I.value x = n1 at a1 P2
 generalize I.kind x = n2 at a2 HW
 generalize I.key x = n3 at a3 HW
 generalize I.pre x = n4 at a4 HW
 generalize I.seq x = n5 at a5 B1
 generalize I.lock x = n6 at a6 B3
 generalize I.wait x = n7 at a7 B2
 generalize I.conf x = n8 at a8 P5
 generalize I.enc x = cx at hx a0 a1 a2 a3 a4 a5 a6 a7 a8 HR ⊢
 have HB := Ak (Below.refl w.heap.size w)
 have CX := Ak (And.intro hx (And.intro a0 (And.intro a1 (And.intro a2 (And.intro a3 (And.intro a4 (And.intro a5 (And.intro a6 (And.intro a7 a8)))))))))
 clear hx a0 a1 a2 a3 a4 a5 a6 a7 a8
 have hu90 := Tryz.underlying38
 have hu125 := Tryz.underlying74
 have hu88 := Tryz.underlying36
 go_enter Tryz.func8, Tryz.ntmps8
 go_upto_region 1 with (first | ((with_reducible refine gate_dst (N := 1) rfl ?_); refine box_event ?hg (N := 1) ?hd (cs := cx.toArray) (t := 38) ?hr ?_; (case hd => rfl); (case hg => rfl); (case hr => first | (go_simp; done) | (go_simp; rfl)); intro gb hg w1 hbox hb; have m_HB := Ak (below_step HB.1 hb); have BK := Ak hbox; have GB := Ak (show w.heap.size ≤ gb by rw [hg]; exact Nat.le_refl _); clear HB hbox hb hg; have HB := m_HB; clear m_HB))
 have k34 : w1.cell? ⟨gb, 34, none⟩ = some (.int .i64 n2) := (blk_cell BK.1 34).trans (by simpa using CX.1.2.2.2.1)
 have k35 : w1.cell? ⟨gb, 35, none⟩ = some (.int .i64 n3) := (blk_cell BK.1 35).trans (by simpa using CX.1.2.2.2.2.1)
 have k36 : w1.cell? ⟨gb, 36, none⟩ = some (.string n4) := (blk_cell BK.1 36).trans (by simpa using CX.1.2.2.2.2.2.1)
 have k37 : w1.cell? ⟨gb, 37, none⟩ = some (.int .i64 n5) := (blk_cell BK.1 37).trans (by simpa using CX.1.2.2.2.2.2.2.1)
 have k38 : w1.cell? ⟨gb, 38, none⟩ = some (.int .i64 n6) := (blk_cell BK.1 38).trans (by simpa using CX.1.2.2.2.2.2.2.2.1)
 have k39 : w1.cell? ⟨gb, 39, none⟩ = some (.int .i64 n7) := (blk_cell BK.1 39).trans (by simpa using CX.1.2.2.2.2.2.2.2.2.1)
 go_upto_region 2 with (first | ((with_reducible refine gate_dst (N := 3) rfl ?_); refine Fill.fill_event (N := 3) (x := 8) (cs := #[.int .i64 n2, .int .i64 n3, .string n4, .int .i64 n5, .int .i64 n6, .int .i64 n7]) (t := 36) rfl rfl rfl rfl rfl rfl Tryz.zeroValue36 Tryz.sizeOf36 rfl rfl (fun _ => rfl) (fun _ => rfl) ?_; intro gd hgd w2 hbox hb; have m_HB := Ak (below_step HB.1 hb); have m_BK := Ak (blk_below BK.1 hb); have BD := Ak hbox; clear HB BK hbox hb hgd k34 k35 k36 k37 k38 k39; have HB := m_HB; have BK := m_BK; clear m_HB m_BK))
 have LD : Aside0 (∀ W', Below w2.heap.size w2 W' → W'.cell? ⟨gb, 32, none⟩ = some (.int .i64 n0) ∧ W'.cell? ⟨gb, 33, none⟩ = some (.int .i64 n1) ∧ W'.cell? ⟨gb, 40, none⟩ = some (.int .i64 n8) ∧ Sem.run Tryz.prog (Wide.heavy0 ⟨gb, 0, none⟩ 44) W' = .ok cx.toArray W' ∧ W'.cell? ⟨gd, 0, none⟩ = some (.int .i64 n2) ∧ W'.cell? ⟨gd, 1, none⟩ = some (.int .i64 n3) ∧ W'.cell? ⟨gd, 2, none⟩ = some (.string n4) ∧ W'.cell? ⟨gd, 3, none⟩ = some (.int .i64 n5) ∧ W'.cell? ⟨gd, 4, none⟩ = some (.int .i64 n6) ∧ W'.cell? ⟨gd, 5, none⟩ = some (.int .i64 n7)) :=
  ⟨fun W' hb => ⟨(blk_cell (blk_below BK.1 hb) 32).trans (by simpa using CX.1.2.1), (blk_cell (blk_below BK.1 hb) 33).trans (by simpa using CX.1.2.2.1), (blk_cell (blk_below BK.1 hb) 40).trans (by simpa using CX.1.2.2.2.2.2.2.2.2.2), row_load (blk_below BK.1 hb) 0 44 _ CX.1.1 (by rw [List.drop_zero, List.take_of_length_le (by rw [CX.1.1]; exact Nat.le_refl _)]), (blk_cell (blk_below BD.1 hb) 0).trans rfl, (blk_cell (blk_below BD.1 hb) 1).trans rfl, (blk_cell (blk_below BD.1 hb) 2).trans rfl, (blk_cell (blk_below BD.1 hb) 3).trans rfl, (blk_cell (blk_below BD.1 hb) 4).trans rfl, (blk_cell (blk_below BD.1 hb) 5).trans rfl⟩⟩
 have H2 := Ak (Below.refl w2.heap.size w2)
 obtain ⟨l0, l1, l2, l3, l4, l5, l6, l7, l8, l9⟩ := LD.1 _ H2.1
 clear BK BD CX
 cases b1
 rotate_left
 cases b2
 rotate_left
 cases b3
 all_goals
  cases p1
  rotate_left
  cases p2
  rotate_left
  cases p3
  rotate_left
  cases p5
  all_goals
   go_wp2_with (first | ((with_reducible refine gate_callee (f := 23) rfl ?_); refine goesL_ (some 11) rfl rfl Tryz.func23 (by kernel_rfl) rfl #[.int .i64 n5, .int .i64 0, .int .i64 65535] rfl (by (try simp only [lm_, lc_, ln_]); first | done | rfl) ?_; with_reducible refine (B1.1 _).mono ?_; rintro e w3 ⟨rfl, hb⟩; refine ⟨_, rfl, ?_⟩; replace H2 := Ak (H2.1.trans (hb.mono H2.1.size)); clear l0 l1 l2 l3 l4 l5 l6 l7 l8 l9 hb; obtain ⟨l0, l1, l2, l3, l4, l5, l6, l7, l8, l9⟩ := LD.1 _ H2.1) | ((with_reducible refine gate_callee (f := 23) rfl ?_); refine goesL_ (some 25) rfl rfl Tryz.func23 (by kernel_rfl) rfl #[.int .i64 n0, .int .i64 0, .int .i64 99] rfl (by (try simp only [lm_, lc_, ln_]); first | done | rfl) ?_; with_reducible refine (P1.1 _).mono ?_; rintro e w3 ⟨rfl, hb⟩; refine ⟨_, rfl, ?_⟩; replace H2 := Ak (H2.1.trans (hb.mono H2.1.size)); clear l0 l1 l2 l3 l4 l5 l6 l7 l8 l9 hb; obtain ⟨l0, l1, l2, l3, l4, l5, l6, l7, l8, l9⟩ := LD.1 _ H2.1) | ((with_reducible refine gate_callee (f := 25) rfl ?_); refine goesL_ (some 51) rfl rfl Tryz.func25 (by kernel_rfl) rfl #[.agg cx.toArray] rfl (by (try simp only [lm_, lc_, ln_]); first | done | rfl) ?_; with_reducible refine (HR.1 _).mono ?_; rintro e w3 ⟨rfl, hb⟩; refine ⟨_, rfl, ?_⟩; replace H2 := Ak (H2.1.trans (hb.mono H2.1.size)); clear l0 l1 l2 l3 l4 l5 l6 l7 l8 l9 hb; obtain ⟨l0, l1, l2, l3, l4, l5, l6, l7, l8, l9⟩ := LD.1 _ H2.1) | (go_at_call 23; (first | (with_reducible refine (B2.1 _).mono ?_) | (with_reducible refine (B3.1 _).mono ?_) | (with_reducible refine (P2.1 _).mono ?_) | (with_reducible refine (P5.1 _).mono ?_)); rintro e w3 ⟨rfl, hb⟩; replace H2 := Ak (H2.1.trans (hb.mono H2.1.size)); clear l0 l1 l2 l3 l4 l5 l6 l7 l8 l9 hb; obtain ⟨l0, l1, l2, l3, l4, l5, l6, l7, l8, l9⟩ := LD.1 _ H2.1) | (go_at_call 24; refine (HW.1 _).mono ?_; rintro e w3 ⟨rfl, hb⟩; replace H2 := Ak (H2.1.trans (hb.mono H2.1.size)); clear l0 l1 l2 l3 l4 l5 l6 l7 l8 l9 hb; obtain ⟨l0, l1, l2, l3, l4, l5, l6, l7, l8, l9⟩ := LD.1 _ H2.1))
   go_ret
   first
   | exact ⟨by simp [chkV], HB.1.trans (H2.1.mono HB.1.size)⟩
   | (
    refine ⟨by simp [chkV], ?_⟩
    have HE := Ak (HB.1.trans (H2.1.mono HB.1.size))
    repeat (first | (with_reducible exact HE.1) | apply below_alloc | refine below_set ?_ HE.1.size))
end Go.Proofs.YtiodebjjbgcbhaaGreat.Inp
