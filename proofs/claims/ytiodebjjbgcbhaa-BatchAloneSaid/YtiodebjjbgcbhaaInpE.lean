/- An input's curve. -/
import Derived.Test.YtiodebjjbgcbhaaRefR
import Derived.Test.YtiodebjjbgcbhaaQLefx1
namespace Go.Proofs.Ytiodebjjbgcbhaa.Inp
open Go.RowKit Go.Sort Go.Lib Go.Shelf Go.Proofs.Ytiodebjjbgcbhaa.Hand Go.Proofs.YtiodebjjbgcbhaaW.PrintWords Go.Proofs.YtiodebjjbgcbhaaW.PrintLast Go.Proofs.YtiodebjjbgcbhaaW.PrintMore Go.Proofs.Ytiodebjjbgcbhaa.RowK Go.Proofs.Ytiodebjjbgcbhaa.Fill Go.Proofs.Ytiodebjjbgcbhaa.OrdO Go.Proofs.Ytiodebjjbgcbhaa.QLef
attribute [local go_sem] run_equalIn_c run_store_float run_store_complex
attribute [local go_sem ↓ high] Wide.hv44 Wide.hv33 Wide.hv37
set_option linter.unusedVariables false
set_option linter.unusedSectionVars false
set_option linter.unusedSimpArgs false
variable {α : Type}
theorem list32 {l : List Int} (h : l.length = 32) : l = [l.getD 0 0, l.getD 1 0, l.getD 2 0, l.getD 3 0, l.getD 4 0, l.getD 5 0, l.getD 6 0, l.getD 7 0, l.getD 8 0, l.getD 9 0, l.getD 10 0, l.getD 11 0, l.getD 12 0, l.getD 13 0, l.getD 14 0, l.getD 15 0, l.getD 16 0, l.getD 17 0, l.getD 18 0, l.getD 19 0, l.getD 20 0, l.getD 21 0, l.getD 22 0, l.getD 23 0, l.getD 24 0, l.getD 25 0, l.getD 26 0, l.getD 27 0, l.getD 28 0, l.getD 29 0, l.getD 30 0, l.getD 31 0] := by
 rcases l with _ | ⟨u0, l⟩
 ·simp at h
 rcases l with _ | ⟨u1, l⟩
 ·simp at h
 rcases l with _ | ⟨u2, l⟩
 ·simp at h
 rcases l with _ | ⟨u3, l⟩
 ·simp at h
 rcases l with _ | ⟨u4, l⟩
 ·simp at h
 rcases l with _ | ⟨u5, l⟩
 ·simp at h
 rcases l with _ | ⟨u6, l⟩
 ·simp at h
 rcases l with _ | ⟨u7, l⟩
 ·simp at h
 rcases l with _ | ⟨u8, l⟩
 ·simp at h
 rcases l with _ | ⟨u9, l⟩
 ·simp at h
 rcases l with _ | ⟨u10, l⟩
 ·simp at h
 rcases l with _ | ⟨u11, l⟩
 ·simp at h
 rcases l with _ | ⟨u12, l⟩
 ·simp at h
 rcases l with _ | ⟨u13, l⟩
 ·simp at h
 rcases l with _ | ⟨u14, l⟩
 ·simp at h
 rcases l with _ | ⟨u15, l⟩
 ·simp at h
 rcases l with _ | ⟨u16, l⟩
 ·simp at h
 rcases l with _ | ⟨u17, l⟩
 ·simp at h
 rcases l with _ | ⟨u18, l⟩
 ·simp at h
 rcases l with _ | ⟨u19, l⟩
 ·simp at h
 rcases l with _ | ⟨u20, l⟩
 ·simp at h
 rcases l with _ | ⟨u21, l⟩
 ·simp at h
 rcases l with _ | ⟨u22, l⟩
 ·simp at h
 rcases l with _ | ⟨u23, l⟩
 ·simp at h
 rcases l with _ | ⟨u24, l⟩
 ·simp at h
 rcases l with _ | ⟨u25, l⟩
 ·simp at h
 rcases l with _ | ⟨u26, l⟩
 ·simp at h
 rcases l with _ | ⟨u27, l⟩
 ·simp at h
 rcases l with _ | ⟨u28, l⟩
 ·simp at h
 rcases l with _ | ⟨u29, l⟩
 ·simp at h
 rcases l with _ | ⟨u30, l⟩
 ·simp at h
 rcases l with _ | ⟨u31, l⟩
 ·simp at h
 rcases l with _ | ⟨u, l⟩
 ·rfl
 ·simp at h
/-- As the print has it. -/
def Spec.inS (I : Spec α) (x : α) : S38 := ⟨⟨⟨(I.bs x).getD 0 0, (I.bs x).getD 1 0, (I.bs x).getD 2 0, (I.bs x).getD 3 0, (I.bs x).getD 4 0, (I.bs x).getD 5 0, (I.bs x).getD 6 0, (I.bs x).getD 7 0, (I.bs x).getD 8 0, (I.bs x).getD 9 0, (I.bs x).getD 10 0, (I.bs x).getD 11 0, (I.bs x).getD 12 0, (I.bs x).getD 13 0, (I.bs x).getD 14 0, (I.bs x).getD 15 0, (I.bs x).getD 16 0, (I.bs x).getD 17 0, (I.bs x).getD 18 0, (I.bs x).getD 19 0, (I.bs x).getD 20 0, (I.bs x).getD 21 0, (I.bs x).getD 22 0, (I.bs x).getD 23 0, (I.bs x).getD 24 0, (I.bs x).getD 25 0, (I.bs x).getD 26 0, (I.bs x).getD 27 0, (I.bs x).getD 28 0, (I.bs x).getD 29 0, (I.bs x).getD 30 0, (I.bs x).getD 31 0⟩, I.nn x⟩, I.seq x, ⟨I.kind x, I.key x, I.pre x⟩⟩
theorem Spec.inS_cells (I : Spec α) (x : α) : I.inCells x = [.int .u8 (I.inS x).f0.f0.f0, .int .u8 (I.inS x).f0.f0.f1, .int .u8 (I.inS x).f0.f0.f2, .int .u8 (I.inS x).f0.f0.f3, .int .u8 (I.inS x).f0.f0.f4, .int .u8 (I.inS x).f0.f0.f5, .int .u8 (I.inS x).f0.f0.f6, .int .u8 (I.inS x).f0.f0.f7, .int .u8 (I.inS x).f0.f0.f8, .int .u8 (I.inS x).f0.f0.f9, .int .u8 (I.inS x).f0.f0.f10, .int .u8 (I.inS x).f0.f0.f11, .int .u8 (I.inS x).f0.f0.f12, .int .u8 (I.inS x).f0.f0.f13, .int .u8 (I.inS x).f0.f0.f14, .int .u8 (I.inS x).f0.f0.f15, .int .u8 (I.inS x).f0.f0.f16, .int .u8 (I.inS x).f0.f0.f17, .int .u8 (I.inS x).f0.f0.f18, .int .u8 (I.inS x).f0.f0.f19, .int .u8 (I.inS x).f0.f0.f20, .int .u8 (I.inS x).f0.f0.f21, .int .u8 (I.inS x).f0.f0.f22, .int .u8 (I.inS x).f0.f0.f23, .int .u8 (I.inS x).f0.f0.f24, .int .u8 (I.inS x).f0.f0.f25, .int .u8 (I.inS x).f0.f0.f26, .int .u8 (I.inS x).f0.f0.f27, .int .u8 (I.inS x).f0.f0.f28, .int .u8 (I.inS x).f0.f0.f29, .int .u8 (I.inS x).f0.f0.f30, .int .u8 (I.inS x).f0.f0.f31, .int .i64 (I.inS x).f0.f1, .int .i64 (I.inS x).f1, .int .i64 (I.inS x).f2.f0, .int .i64 (I.inS x).f2.f1, .string (I.inS x).f2.f2] := by
 unfold Spec.inCells Spec.pt
 rw [list32 (I.hbs x)]
 rfl
theorem Spec.inS_M (I : Spec α) (x : α) (w : World) (base : Nat) (ok : Nat → Prop) : Kd.M k38 w base ok (I.inS x) (I.inCells x) := by
 rw [I.inS_cells]
 exact k38_mkM w base ok (I.inS x)
theorem info_out : (Try.prog.info? 64).map (fun i => (i.zero, i.size, i.bytes)) = some (some (.agg #[(.int .i64 0), (.int .i64 0), (.int .i64 0), (.int .i64 0), (.int .i64 0), (.int .i64 0), (.int .i64 0), (.int .u8 0), (.int .u8 0), (.int .u8 0), (.int .u8 0), (.int .u8 0), (.int .u8 0), (.int .u8 0), (.int .u8 0), (.int .u8 0), (.int .u8 0), (.int .u8 0), (.int .u8 0), (.int .u8 0), (.int .u8 0), (.int .u8 0), (.int .u8 0), (.int .u8 0), (.int .u8 0), (.int .u8 0), (.int .u8 0), (.int .u8 0), (.int .u8 0), (.int .u8 0), (.int .u8 0), (.int .u8 0), (.int .u8 0), (.int .u8 0), (.int .u8 0), (.int .u8 0), (.int .u8 0), (.int .u8 0), (.int .u8 0)]), 39, 88) := by kernel_rfl
theorem list37 {l : List Value} (h : l.length = 37) : ∃ u0 u1 u2 u3 u4 u5 u6 u7 u8 u9 u10 u11 u12 u13 u14 u15 u16 u17 u18 u19 u20 u21 u22 u23 u24 u25 u26 u27 u28 u29 u30 u31 u32 u33 u34 u35 u36 : Value, l = [u0, u1, u2, u3, u4, u5, u6, u7, u8, u9, u10, u11, u12, u13, u14, u15, u16, u17, u18, u19, u20, u21, u22, u23, u24, u25, u26, u27, u28, u29, u30, u31, u32, u33, u34, u35, u36] := by
 rcases l with _ | ⟨u0, l⟩
 ·simp at h
 rcases l with _ | ⟨u1, l⟩
 ·simp at h
 rcases l with _ | ⟨u2, l⟩
 ·simp at h
 rcases l with _ | ⟨u3, l⟩
 ·simp at h
 rcases l with _ | ⟨u4, l⟩
 ·simp at h
 rcases l with _ | ⟨u5, l⟩
 ·simp at h
 rcases l with _ | ⟨u6, l⟩
 ·simp at h
 rcases l with _ | ⟨u7, l⟩
 ·simp at h
 rcases l with _ | ⟨u8, l⟩
 ·simp at h
 rcases l with _ | ⟨u9, l⟩
 ·simp at h
 rcases l with _ | ⟨u10, l⟩
 ·simp at h
 rcases l with _ | ⟨u11, l⟩
 ·simp at h
 rcases l with _ | ⟨u12, l⟩
 ·simp at h
 rcases l with _ | ⟨u13, l⟩
 ·simp at h
 rcases l with _ | ⟨u14, l⟩
 ·simp at h
 rcases l with _ | ⟨u15, l⟩
 ·simp at h
 rcases l with _ | ⟨u16, l⟩
 ·simp at h
 rcases l with _ | ⟨u17, l⟩
 ·simp at h
 rcases l with _ | ⟨u18, l⟩
 ·simp at h
 rcases l with _ | ⟨u19, l⟩
 ·simp at h
 rcases l with _ | ⟨u20, l⟩
 ·simp at h
 rcases l with _ | ⟨u21, l⟩
 ·simp at h
 rcases l with _ | ⟨u22, l⟩
 ·simp at h
 rcases l with _ | ⟨u23, l⟩
 ·simp at h
 rcases l with _ | ⟨u24, l⟩
 ·simp at h
 rcases l with _ | ⟨u25, l⟩
 ·simp at h
 rcases l with _ | ⟨u26, l⟩
 ·simp at h
 rcases l with _ | ⟨u27, l⟩
 ·simp at h
 rcases l with _ | ⟨u28, l⟩
 ·simp at h
 rcases l with _ | ⟨u29, l⟩
 ·simp at h
 rcases l with _ | ⟨u30, l⟩
 ·simp at h
 rcases l with _ | ⟨u31, l⟩
 ·simp at h
 rcases l with _ | ⟨u32, l⟩
 ·simp at h
 rcases l with _ | ⟨u33, l⟩
 ·simp at h
 rcases l with _ | ⟨u34, l⟩
 ·simp at h
 rcases l with _ | ⟨u35, l⟩
 ·simp at h
 rcases l with _ | ⟨u36, l⟩
 ·simp at h
 rcases l with _ | ⟨u, l⟩
 ·exact ⟨u0, u1, u2, u3, u4, u5, u6, u7, u8, u9, u10, u11, u12, u13, u14, u15, u16, u17, u18, u19, u20, u21, u22, u23, u24, u25, u26, u27, u28, u29, u30, u31, u32, u33, u34, u35, u36, rfl⟩
 ·simp at h
set_option maxHeartbeats 8000000 in
set_option maxRecDepth 100000 in
theorem rise_calls (I : Spec α) (x : α) (k : Nat) (r : Int) (r1 r2 : C128) (r3 : Int) (hw : tx_Weight.f k [I.inS x] (List.replicate 1 z64) 0 = some r) (ho : curve_Of.f (I.since x) (I.dl x) (I.budget x) r = some (r1, r2, r3)) (w : World) :
 Calls Try.prog 71 #[.agg (I.enc x).toArray] w fun e w' => e = .returned (.tuple #[.agg #[.complex .f64 r1.re r1.im, .complex .f64 r2.re r2.im], .int .i64 r3]) ∧ Below w.heap.size w w' := by
 have HIN := Aside0.mk (fun W => in_calls I x W)
 have HM := Aside0.mk (fun W base ok => I.inS_M x W base ok)
 have HH := Aside0.mk (I.hin x)
 have A4 := Aside0.mk hw
 have A5 := Aside0.mk ho
 have hx := I.hk x
 have a1 := (show (I.enc x)[41]? = some (.int .i64 (I.since x)) from I.at_ x 8)
 have a2 := I.at_dl x
 have a3 := I.at_budget x
 clear hw ho
 generalize I.since x = n1 at a1 A5
 generalize I.dl x = n2 at a2 A5
 generalize I.budget x = n3 at a3 A5
 generalize I.inS x = xs at HM A4
 generalize I.inCells x = ic at HIN HM HH
 generalize I.enc x = cx at hx a1 a2 a3 HIN ⊢
 obtain ⟨yi, hyi⟩ : ∃ y_ : List S38, y_ = [xs] := ⟨_, rfl⟩
 obtain ⟨yo, hyo⟩ : ∃ y_ : List S64, y_ = List.replicate 1 z64 := ⟨_, rfl⟩
 rw [← hyi, ← hyo] at A4
 have NI := Aside0.mk hyi
 have NO := Aside0.mk hyo
 have HB := Aside0.mk (Below.refl w.heap.size w)
 have CX := Aside0.mk (And.intro hx (And.intro a1 (And.intro a2 a3)))
 clear hyi hyo hx a1 a2 a3
 have hu90 := Try.underlying90
 have hu125 := Try.underlying125
 have hu28 := Try.underlying28
 go_enter Try.func71, Try.ntmps71
 try go_wp2_with (first | ((with_reducible refine gate_dst (N := 1) rfl ?_); refine box_event ?hg (N := 1) ?hd (cs := cx.toArray) (t := 90) ?hr ?_; (case hd => rfl); (case hg => rfl); (case hr => first | (go_simp; done) | (go_simp; rfl)); intro gb hg w6 hbox hb; have HB6 := Aside0.mk (below_step HB.out hb); have BK6 := Aside0.mk hbox; have GB := Aside0.mk (show w.heap.size ≤ gb by rw [hg]; exact Nat.le_refl _); clear HB hbox hb hg) | ((with_reducible refine gate_dst (N := 2) rfl ?_); refine box_event ?hg (N := 2) ?hd (cs := #[.complex .f64 0 0, .complex .f64 0 0]) (t := 125) ?hr ?_; (case hd => rfl); (case hg => rfl); (case hr => first | (go_simp; done) | (go_simp; rfl)); intro gc hgc w7 hbox hb; have HB := Aside0.mk (below_step HB6.out hb); have BK := Aside0.mk (blk_below BK6.out hb); have BC := Aside0.mk hbox; have GC := Aside0.mk (show w.heap.size ≤ gc by rw [hgc]; exact HB6.out.size); have NBC := Aside0.mk (show gb ≠ gc by rw [hgc]; exact Nat.ne_of_lt (Array.getElem?_eq_some_iff.1 BK6.out).1); clear HB6 BK6 hbox hb hgc))
 have m_BK := Aside0.mk (blk_drew BK.out)
 have m_BC := Aside0.mk (blk_drew BC.out)
 have m_HB := Aside0.mk (below_drew1 HB.out)
 clear BK BC HB
 have BK := m_BK
 have BC := m_BC
 have HB := m_HB
 clear m_BK m_BC m_HB
 refine start_ (n := 7) (S := (fun w' => Sem.run Try.prog (Wide.heavy0 ⟨gb, 0, none⟩ 44) w' = .ok cx.toArray w')) (ds := []) #[false, false, false, false, false, false, false] (by kernel_rfl) rfl rfl (row_load BK.out 0 44 _ CX.out.1 (by rw [List.drop_zero, List.take_of_length_le (by rw [CX.out.1]; exact Nat.le_refl _)])) (fun hHeld => ?_)
 generalize w7.drew = w8 at BK BC HB hHeld ⊢
 refine take_ (i := 0) (N := some 5) (v := ?_) (a' := ?_) #[true, false, false, false, false, false, false] rfl rfl (by kernel_rfl) (fun _ _ _ h => h) (Or.inl ⟨by rfl, ?_⟩) hHeld ?_ ?_
 rotate_left
 ·rintro w' hl0
  go_simp
  with_reducible rfl
 rotate_left
 ·simp only [Act.put, List.setIfInBounds_toArray, List.set_cons_zero, List.set_cons_succ, i64_w, i32_w]
  rfl
 refine join_ (σ := Value × Value) 3 #[true, true, true, true, false, false, false] (fun s_ => [(6, .agg ic.toArray), (7, s_.1), (8, s_.2)]) (fun s_ w' => ((fun w' => Sem.run Try.prog (Wide.heavy0 ⟨gb, 0, none⟩ 44) w' = .ok cx.toArray w') w') ∧ (Kd.R k38 38 w' w.heap.size (fun _ => True) s_.1 yi) ∧ (Kd.R k64 64 w' w.heap.size (fun _ => True) s_.2 yo) ∧ (w'.heap[gb]? = some (.cells cx.toArray 90 (0, 0))) ∧ (w'.heap[gc]? = some (.cells #[.complex .f64 0 0, .complex .f64 0 0] 125 (0, 0))) ∧ (Below w.heap.size w w')) ?_ ?_
 rotate_left
 ·intro hCont
  refine two_ (i := 1) (j := 3) (Ni := some 6) (Nj := some 8) #[true, true, false, false, false, false, false] #[true, false, false, true, false, false, false] rfl rfl rfl rfl (by kernel_rfl) (by decide) (by decide) (fun K hK => ?_) (fun K hK => ?_)
  ·skip
   refine goes_ Try.func69 (by kernel_rfl) rfl #[.agg cx.toArray] (by rfl) rfl rfl (by (try simp only [List.map_toArray, List.map_cons, List.map_nil]); first | done | rfl) ?_
   refine (HIN.out _).mono ?_
   rintro e w9 ⟨rfl, hb⟩
   refine ⟨_, rfl, ?_⟩
   have m_BK := Aside0.mk (blk_below BK.out hb)
   have m_BC := Aside0.mk (blk_below BC.out hb)
   have m_HB := Aside0.mk (below_step HB.out hb)
   clear BK BC HB
   have BK := m_BK
   have BC := m_BC
   have HB := m_HB
   clear m_BK m_BC m_HB
   clear hb
   refine hK.out _ _ (row_load BK.out 0 44 _ CX.out.1 (by rw [List.drop_zero, List.take_of_length_le (by rw [CX.out.1]; exact Nat.le_refl _)])) (fun hHeld => ?_)
   clear hK K
   refine norm_ (a' := ?_) ?_ ?_
   rotate_left
   ·show Act.put _ (some 6) _ = _
    simp only [Act.put, List.setIfInBounds_toArray, List.set_cons_zero, List.set_cons_succ, i64_w, i32_w]
    rfl
   refine two_ (i := 2) (j := 3) (Ni := some 7) (Nj := some 8) #[true, true, true, false, false, false, false] #[true, true, false, true, false, false, false] rfl rfl rfl rfl (by kernel_rfl) (by decide) (by decide) (fun K hK => ?_) (fun K hK => ?_)
   ·skip
    refine Kd.R_lit_step k38 _ 38 ?hg (N := 7) ?hd (xs := [xs]) (inner := ic) (ok := fun _ => True) (okp := fun _ => True) ?hr ?hp (fun _ hk => hk) trivial (Below.refl _ _) (Nat.le_refl _) (by simp) ?_
    case hd => rfl
    case hg => rfl
    case hr => clear HIN HM CX; obtain ⟨u0, u1, u2, u3, u4, u5, u6, u7, u8, u9, u10, u11, u12, u13, u14, u15, u16, u17, u18, u19, u20, u21, u22, u23, u24, u25, u26, u27, u28, u29, u30, u31, u32, u33, u34, u35, u36, rfl⟩ := list37 HH.out; first | (go_simp; done) | (go_simp; rfl)
    case hp => exact Reps.front (HM.out _ _ _) HH.out (Reps.none _ _) (List.append_nil _)
    intro v7 w10 hv hb hg_ hnew_
    clear hg_ hnew_
    rw [← NI.out] at hv
    have HI := Aside0.mk (Kd.R_lower hv HB.out.size)
    have m_BK := Aside0.mk (blk_below BK.out hb)
    have m_BC := Aside0.mk (blk_below BC.out hb)
    have m_HB := Aside0.mk (below_step HB.out hb)
    clear BK BC HB
    have BK := m_BK
    have BC := m_BC
    have HB := m_HB
    clear m_BK m_BC m_HB
    clear hb hv
    refine hK.out _ _ (row_load BK.out 0 44 _ CX.out.1 (by rw [List.drop_zero, List.take_of_length_le (by rw [CX.out.1]; exact Nat.le_refl _)])) (fun hHeld => ?_)
    clear hK K
    refine norm_ (a' := ?_) ?_ ?_
    rotate_left
    ·show Act.put _ (some 7) _ = _
     simp only [Act.put, List.setIfInBounds_toArray, List.set_cons_zero, List.set_cons_succ, i64_w, i32_w]
     rfl
    refine one_ (i := 3) (N := some 8) #[true, true, true, true, false, false, false] rfl rfl (by kernel_rfl) (by decide) (fun K hK => ?_)
    refine Kd.R_make_step k64 _ 64 (by rfl) (N := 8) rfl 26 _ _ rfl 1 rfl rfl Try.underlying26 (.agg #[(.int .i64 0), (.int .i64 0), (.int .i64 0), (.int .i64 0), (.int .i64 0), (.int .i64 0), (.int .i64 0), (.int .u8 0), (.int .u8 0), (.int .u8 0), (.int .u8 0), (.int .u8 0), (.int .u8 0), (.int .u8 0), (.int .u8 0), (.int .u8 0), (.int .u8 0), (.int .u8 0), (.int .u8 0), (.int .u8 0), (.int .u8 0), (.int .u8 0), (.int .u8 0), (.int .u8 0), (.int .u8 0), (.int .u8 0), (.int .u8 0), (.int .u8 0), (.int .u8 0), (.int .u8 0), (.int .u8 0), (.int .u8 0), (.int .u8 0), (.int .u8 0), (.int .u8 0), (.int .u8 0), (.int .u8 0), (.int .u8 0), (.int .u8 0)]) 88 info_out rfl (by decide) (by omega) z64 (ok := fun _ => True) (okp := fun _ => True) (k64_mkM _ _ _ z64) (fun _ hk => hk) trivial (by omega) (by omega) (Below.refl _ _) (Nat.le_refl _) ?_
    intro v8 w11 hv hb hg_ hnew_
    clear hg_ hnew_
    simp only [Int.reduceToNat] at hv
    rw [← NO.out] at hv
    have HO := Aside0.mk (Kd.R_lower hv HB.out.size)
    have m_HI := Aside0.mk (Kd.R_below HI.out hb)
    have m_BK := Aside0.mk (blk_below BK.out hb)
    have m_BC := Aside0.mk (blk_below BC.out hb)
    have m_HB := Aside0.mk (below_step HB.out hb)
    clear HI BK BC HB
    have HI := m_HI
    have BK := m_BK
    have BC := m_BC
    have HB := m_HB
    clear m_HI m_BK m_BC m_HB
    clear hb hv
    refine hK.out _ _ (row_load BK.out 0 44 _ CX.out.1 (by rw [List.drop_zero, List.take_of_length_le (by rw [CX.out.1]; exact Nat.le_refl _)])) (fun hHeld => ?_)
    clear hK K
    refine norm_ (a' := ?_) ?_ ?_
    rotate_left
    ·show Act.put _ (some 8) _ = _
     simp only [Act.put, List.setIfInBounds_toArray, List.set_cons_zero, List.set_cons_succ, i64_w, i32_w]
     rfl
    exact norm_ (by simp only [putAll, Act.put, List.setIfInBounds_toArray, List.set_cons_zero, List.set_cons_succ]) (hCont (v7, v8) _ ⟨hHeld, HI.out, HO.out, BK.out, BC.out, HB.out⟩)
   ·skip
    refine Kd.R_make_step k64 _ 64 (by rfl) (N := 8) rfl 26 _ _ rfl 1 rfl rfl Try.underlying26 (.agg #[(.int .i64 0), (.int .i64 0), (.int .i64 0), (.int .i64 0), (.int .i64 0), (.int .i64 0), (.int .i64 0), (.int .u8 0), (.int .u8 0), (.int .u8 0), (.int .u8 0), (.int .u8 0), (.int .u8 0), (.int .u8 0), (.int .u8 0), (.int .u8 0), (.int .u8 0), (.int .u8 0), (.int .u8 0), (.int .u8 0), (.int .u8 0), (.int .u8 0), (.int .u8 0), (.int .u8 0), (.int .u8 0), (.int .u8 0), (.int .u8 0), (.int .u8 0), (.int .u8 0), (.int .u8 0), (.int .u8 0), (.int .u8 0), (.int .u8 0), (.int .u8 0), (.int .u8 0), (.int .u8 0), (.int .u8 0), (.int .u8 0), (.int .u8 0)]) 88 info_out rfl (by decide) (by omega) z64 (ok := fun _ => True) (okp := fun _ => True) (k64_mkM _ _ _ z64) (fun _ hk => hk) trivial (by omega) (by omega) (Below.refl _ _) (Nat.le_refl _) ?_
    intro v8 w11 hv hb hg_ hnew_
    clear hg_ hnew_
    simp only [Int.reduceToNat] at hv
    rw [← NO.out] at hv
    have HO := Aside0.mk (Kd.R_lower hv HB.out.size)
    have m_BK := Aside0.mk (blk_below BK.out hb)
    have m_BC := Aside0.mk (blk_below BC.out hb)
    have m_HB := Aside0.mk (below_step HB.out hb)
    clear BK BC HB
    have BK := m_BK
    have BC := m_BC
    have HB := m_HB
    clear m_BK m_BC m_HB
    clear hb hv
    refine hK.out _ _ (row_load BK.out 0 44 _ CX.out.1 (by rw [List.drop_zero, List.take_of_length_le (by rw [CX.out.1]; exact Nat.le_refl _)])) (fun hHeld => ?_)
    clear hK K
    refine norm_ (a' := ?_) ?_ ?_
    rotate_left
    ·show Act.put _ (some 8) _ = _
     simp only [Act.put, List.setIfInBounds_toArray, List.set_cons_zero, List.set_cons_succ, i64_w, i32_w]
     rfl
    refine one_ (i := 2) (N := some 7) #[true, true, true, true, false, false, false] rfl rfl (by kernel_rfl) (by decide) (fun K hK => ?_)
    refine Kd.R_lit_step k38 _ 38 ?hg (N := 7) ?hd (xs := [xs]) (inner := ic) (ok := fun _ => True) (okp := fun _ => True) ?hr ?hp (fun _ hk => hk) trivial (Below.refl _ _) (Nat.le_refl _) (by simp) ?_
    case hd => rfl
    case hg => rfl
    case hr => clear HIN HM CX; obtain ⟨u0, u1, u2, u3, u4, u5, u6, u7, u8, u9, u10, u11, u12, u13, u14, u15, u16, u17, u18, u19, u20, u21, u22, u23, u24, u25, u26, u27, u28, u29, u30, u31, u32, u33, u34, u35, u36, rfl⟩ := list37 HH.out; first | (go_simp; done) | (go_simp; rfl)
    case hp => exact Reps.front (HM.out _ _ _) HH.out (Reps.none _ _) (List.append_nil _)
    intro v7 w10 hv hb hg_ hnew_
    clear hg_ hnew_
    rw [← NI.out] at hv
    have HI := Aside0.mk (Kd.R_lower hv HB.out.size)
    have m_HO := Aside0.mk (Kd.R_below HO.out hb)
    have m_BK := Aside0.mk (blk_below BK.out hb)
    have m_BC := Aside0.mk (blk_below BC.out hb)
    have m_HB := Aside0.mk (below_step HB.out hb)
    clear HO BK BC HB
    have HO := m_HO
    have BK := m_BK
    have BC := m_BC
    have HB := m_HB
    clear m_HO m_BK m_BC m_HB
    clear hb hv
    refine hK.out _ _ (row_load BK.out 0 44 _ CX.out.1 (by rw [List.drop_zero, List.take_of_length_le (by rw [CX.out.1]; exact Nat.le_refl _)])) (fun hHeld => ?_)
    clear hK K
    refine norm_ (a' := ?_) ?_ ?_
    rotate_left
    ·show Act.put _ (some 7) _ = _
     simp only [Act.put, List.setIfInBounds_toArray, List.set_cons_zero, List.set_cons_succ, i64_w, i32_w]
     rfl
    exact norm_ (by simp only [putAll, Act.put, List.setIfInBounds_toArray, List.set_cons_zero, List.set_cons_succ]) (hCont (v7, v8) _ ⟨hHeld, HI.out, HO.out, BK.out, BC.out, HB.out⟩)
  ·skip
   refine Kd.R_make_step k64 _ 64 (by rfl) (N := 8) rfl 26 _ _ rfl 1 rfl rfl Try.underlying26 (.agg #[(.int .i64 0), (.int .i64 0), (.int .i64 0), (.int .i64 0), (.int .i64 0), (.int .i64 0), (.int .i64 0), (.int .u8 0), (.int .u8 0), (.int .u8 0), (.int .u8 0), (.int .u8 0), (.int .u8 0), (.int .u8 0), (.int .u8 0), (.int .u8 0), (.int .u8 0), (.int .u8 0), (.int .u8 0), (.int .u8 0), (.int .u8 0), (.int .u8 0), (.int .u8 0), (.int .u8 0), (.int .u8 0), (.int .u8 0), (.int .u8 0), (.int .u8 0), (.int .u8 0), (.int .u8 0), (.int .u8 0), (.int .u8 0), (.int .u8 0), (.int .u8 0), (.int .u8 0), (.int .u8 0), (.int .u8 0), (.int .u8 0), (.int .u8 0)]) 88 info_out rfl (by decide) (by omega) z64 (ok := fun _ => True) (okp := fun _ => True) (k64_mkM _ _ _ z64) (fun _ hk => hk) trivial (by omega) (by omega) (Below.refl _ _) (Nat.le_refl _) ?_
   intro v8 w11 hv hb hg_ hnew_
   clear hg_ hnew_
   simp only [Int.reduceToNat] at hv
   rw [← NO.out] at hv
   have HO := Aside0.mk (Kd.R_lower hv HB.out.size)
   have m_BK := Aside0.mk (blk_below BK.out hb)
   have m_BC := Aside0.mk (blk_below BC.out hb)
   have m_HB := Aside0.mk (below_step HB.out hb)
   clear BK BC HB
   have BK := m_BK
   have BC := m_BC
   have HB := m_HB
   clear m_BK m_BC m_HB
   clear hb hv
   refine hK.out _ _ (row_load BK.out 0 44 _ CX.out.1 (by rw [List.drop_zero, List.take_of_length_le (by rw [CX.out.1]; exact Nat.le_refl _)])) (fun hHeld => ?_)
   clear hK K
   refine norm_ (a' := ?_) ?_ ?_
   rotate_left
   ·show Act.put _ (some 8) _ = _
    simp only [Act.put, List.setIfInBounds_toArray, List.set_cons_zero, List.set_cons_succ, i64_w, i32_w]
    rfl
   refine one_ (i := 1) (N := some 6) #[true, true, false, true, false, false, false] rfl rfl (by kernel_rfl) (by decide) (fun K hK => ?_)
   refine goes_ Try.func69 (by kernel_rfl) rfl #[.agg cx.toArray] (by rfl) rfl rfl (by (try simp only [List.map_toArray, List.map_cons, List.map_nil]); first | done | rfl) ?_
   refine (HIN.out _).mono ?_
   rintro e w9 ⟨rfl, hb⟩
   refine ⟨_, rfl, ?_⟩
   have m_HO := Aside0.mk (Kd.R_below HO.out hb)
   have m_BK := Aside0.mk (blk_below BK.out hb)
   have m_BC := Aside0.mk (blk_below BC.out hb)
   have m_HB := Aside0.mk (below_step HB.out hb)
   clear HO BK BC HB
   have HO := m_HO
   have BK := m_BK
   have BC := m_BC
   have HB := m_HB
   clear m_HO m_BK m_BC m_HB
   clear hb
   refine hK.out _ _ (row_load BK.out 0 44 _ CX.out.1 (by rw [List.drop_zero, List.take_of_length_le (by rw [CX.out.1]; exact Nat.le_refl _)])) (fun hHeld => ?_)
   clear hK K
   refine norm_ (a' := ?_) ?_ ?_
   rotate_left
   ·show Act.put _ (some 6) _ = _
    simp only [Act.put, List.setIfInBounds_toArray, List.set_cons_zero, List.set_cons_succ, i64_w, i32_w]
    rfl
   refine one_ (i := 2) (N := some 7) #[true, true, true, true, false, false, false] rfl rfl (by kernel_rfl) (by decide) (fun K hK => ?_)
   refine Kd.R_lit_step k38 _ 38 ?hg (N := 7) ?hd (xs := [xs]) (inner := ic) (ok := fun _ => True) (okp := fun _ => True) ?hr ?hp (fun _ hk => hk) trivial (Below.refl _ _) (Nat.le_refl _) (by simp) ?_
   case hd => rfl
   case hg => rfl
   case hr => clear HIN HM CX; obtain ⟨u0, u1, u2, u3, u4, u5, u6, u7, u8, u9, u10, u11, u12, u13, u14, u15, u16, u17, u18, u19, u20, u21, u22, u23, u24, u25, u26, u27, u28, u29, u30, u31, u32, u33, u34, u35, u36, rfl⟩ := list37 HH.out; first | (go_simp; done) | (go_simp; rfl)
   case hp => exact Reps.front (HM.out _ _ _) HH.out (Reps.none _ _) (List.append_nil _)
   intro v7 w10 hv hb hg_ hnew_
   clear hg_ hnew_
   rw [← NI.out] at hv
   have HI := Aside0.mk (Kd.R_lower hv HB.out.size)
   have m_HO := Aside0.mk (Kd.R_below HO.out hb)
   have m_BK := Aside0.mk (blk_below BK.out hb)
   have m_BC := Aside0.mk (blk_below BC.out hb)
   have m_HB := Aside0.mk (below_step HB.out hb)
   clear HO BK BC HB
   have HO := m_HO
   have BK := m_BK
   have BC := m_BC
   have HB := m_HB
   clear m_HO m_BK m_BC m_HB
   clear hb hv
   refine hK.out _ _ (row_load BK.out 0 44 _ CX.out.1 (by rw [List.drop_zero, List.take_of_length_le (by rw [CX.out.1]; exact Nat.le_refl _)])) (fun hHeld => ?_)
   clear hK K
   refine norm_ (a' := ?_) ?_ ?_
   rotate_left
   ·show Act.put _ (some 7) _ = _
    simp only [Act.put, List.setIfInBounds_toArray, List.set_cons_zero, List.set_cons_succ, i64_w, i32_w]
    rfl
   exact norm_ (by simp only [putAll, Act.put, List.setIfInBounds_toArray, List.set_cons_zero, List.set_cons_succ]) (hCont (v7, v8) _ ⟨hHeld, HI.out, HO.out, BK.out, BC.out, HB.out⟩)
 rintro ⟨v7, v8⟩ w16 ⟨hHeld, h0_, h1_, h2_, h3_, h4_⟩
 clear BK BC HB
 have HI := Aside0.mk h0_
 have HO := Aside0.mk h1_
 have BK := Aside0.mk h2_
 have BC := Aside0.mk h3_
 have HB := Aside0.mk h4_
 clear h0_ h1_ h2_ h3_ h4_
 obtain ⟨Ai, ci, ei⟩ := Kd.R_slice HI.out
 subst ei
 obtain ⟨Ao, co, eo⟩ := Kd.R_slice HO.out
 subst eo
 refine norm_ (a' := ?_) ?_ ?_
 rotate_left
 ·simp only [putAll, Act.put, List.setIfInBounds_toArray, List.set_cons_zero, List.set_cons_succ]
  rfl
 refine pure_ (i := 4) (N := some 9) (v := ?_) (a' := ?_) #[true, true, true, true, true, false, false] rfl rfl (by kernel_rfl) (fun _ _ _ h => h) (Or.inl ⟨by rfl, ?_⟩) ?_ ?_
 rotate_left
 ·intro w'
  go_simp
  with_reducible rfl
 rotate_left
 ·simp only [Act.put, List.setIfInBounds_toArray, List.set_cons_zero, List.set_cons_succ, i64_w, i32_w]
  rfl
 refine one_ (i := 5) (N := some 10) #[true, true, true, true, true, true, false] rfl rfl (by kernel_rfl) (by decide) (fun K hK => ?_)
 refine goes_ Try.func22 (by kernel_rfl) rfl #[.agg #[.slice Ai yi.length ci, .slice Ao yo.length co, .int .i64 0]] (by rfl) rfl rfl (by (try simp only [List.map_toArray, List.map_cons, List.map_nil]); first | done | rfl) ?_
 refine (tx_Weight.calls k _ _ yi _ _ yo 0 r _ (Kd.R_reads' HI.out).2.2 (Kd.R_reads' HI.out).2.1 (Kd.R_reads' HO.out).2.2 (Kd.R_reads' HO.out).2.1 A4.out).mono ?_
 rintro e w19 ⟨rfl, hb⟩
 refine ⟨_, rfl, ?_⟩
 have m_BK := Aside0.mk (blk_below BK.out hb)
 have m_BC := Aside0.mk (blk_below BC.out hb)
 have m_HB := Aside0.mk (below_step HB.out hb)
 clear BK BC HB
 have BK := m_BK
 have BC := m_BC
 have HB := m_HB
 clear m_BK m_BC m_HB
 clear hb HI HO
 refine hK.out _ _ (row_load BK.out 0 44 _ CX.out.1 (by rw [List.drop_zero, List.take_of_length_le (by rw [CX.out.1]; exact Nat.le_refl _)])) (fun hHeld => ?_)
 clear hK K
 refine norm_ (a' := ?_) ?_ ?_
 rotate_left
 ·show Act.put _ (some 10) _ = _
  simp only [Act.put, List.setIfInBounds_toArray, List.set_cons_zero, List.set_cons_succ, i64_w, i32_w]
  rfl
 refine pure_ (i := 6) (N := some 4) (v := ?_) (a' := ?_) #[true, true, true, true, true, true, true] rfl rfl (by kernel_rfl) (fun _ _ _ h => h) (Or.inl ⟨by rfl, ?_⟩) ?_ ?_
 rotate_left
 ·intro w'
  go_simp
  with_reducible rfl
 rotate_left
 ·simp only [Act.put, List.setIfInBounds_toArray, List.set_cons_zero, List.set_cons_succ, i64_w, i32_w]
  rfl
 refine done_ (by kernel_rfl) ?_
 clear hHeld
 have k41 : w19.cell? ⟨gb, 41, none⟩ = some (.int .i64 n1) := (blk_cell BK.out 41).trans (by simpa using CX.out.2.1)
 have k42 : w19.cell? ⟨gb, 42, none⟩ = some (.int .i64 n2) := (blk_cell BK.out 42).trans (by simpa using CX.out.2.2.1)
 have k43 : w19.cell? ⟨gb, 43, none⟩ = some (.int .i64 n3) := (blk_cell BK.out 43).trans (by simpa using CX.out.2.2.2)
 go_wp2_with (go_at_call 88; refine (curve_Of.calls n1 n2 n3 r r1 r2 r3 _ A5.out).mono ?_; rintro e w22 ⟨rfl, hb⟩; have m_BC := Aside0.mk (blk_below BC.out hb); have m_HB := Aside0.mk (below_step HB.out hb); clear BC HB BK k41 k42 k43; have BC := m_BC; have HB := m_HB; clear m_BC m_HB; have hc0 := (blk_cell BC.out 0).trans rfl; have hc1 := (blk_cell BC.out 1).trans rfl; have hf0 := blk_frozen BC.out 0; have hf1 := blk_frozen BC.out 1; clear hb)
 refine bodyPost_ret (results_ct rfl _ _ gc 125 #[.complex .f64 r1.re r1.im, .complex .f64 r2.re r2.im] (0, 0) _ rfl (by refine blk_put (cs := #[.complex .f64 r1.re r1.im, .complex .f64 0 0]) ?_ 1 _ rfl; refine blk_put (cs := #[.complex .f64 0 0, .complex .f64 0 0]) ?_ 0 _ rfl; exact BC.out) Try.underlying125 rfl (by kernel_rfl)) rfl ?_
 exact ⟨by first | rfl | simp, below_set (below_set HB.out GC.out) GC.out⟩
end Go.Proofs.Ytiodebjjbgcbhaa.Inp
/- Check and Rate at an input. -/
namespace Go.Proofs.Ytiodebjjbgcbhaa.Inp
open Go.RowKit Go.Sort Go.Lib Go.Shelf Go.Proofs.Ytiodebjjbgcbhaa.Hand Go.Proofs.YtiodebjjbgcbhaaW.PrintWords Go.Proofs.YtiodebjjbgcbhaaW.PrintLast Go.Proofs.YtiodebjjbgcbhaaW.PrintMore Go.Proofs.Ytiodebjjbgcbhaa.RowK Go.Proofs.Ytiodebjjbgcbhaa.Fill Go.Proofs.Ytiodebjjbgcbhaa.OrdO Go.Proofs.Ytiodebjjbgcbhaa.QLef
attribute [local go_sem] run_equalIn_c run_store_float run_store_complex
attribute [local go_sem ↓ high] Wide.hv44 Wide.hv33 Wide.hv37
set_option linter.unusedVariables false
set_option linter.unusedSectionVars false
set_option linter.unusedSimpArgs false
variable {α : Type}
/-- Within limits. -/
def wiB (a b c : Int) : Bool := decide (b ≤ a) && decide (a ≤ c)
set_option maxHeartbeats 1000000 in
theorem within_calls (a b c : Int) (w : World) : Calls Try.prog 40 #[.int .i64 a, .int .i64 b, .int .i64 c] w fun e w' => e = .returned (.bool (wiB a b c)) ∧ Below w.heap.size w w' := by
 have HB := Aside0.mk (Below.refl w.heap.size w)
 unfold wiB
 cases h1 : decide (b ≤ a)
 ·go_enter Try.func40, Try.ntmps40
  go_wp2
  go_ret
  exact ⟨by simp, HB.out⟩
 ·go_enter Try.func40, Try.ntmps40
  go_wp2
  go_ret
  exact ⟨by simp, HB.out⟩
/-- What Check tells. -/
def chkV (p1 p2 p3 b1 b2 b3 p5 : Bool) (r3 : Int) : Int := if p1 && p2 && p3 && (b1 && b2 && b3) && p5 then r3 else 1
set_option maxHeartbeats 8000000 in
set_option maxRecDepth 100000 in
theorem check_calls (I : Spec α) (x : α) (k : Nat) (r : Int) (r1 r2 : C128) (r3 : Int) (p3 : Bool) (hw : tx_Weight.f k [I.inS x] (List.replicate 1 z64) 0 = some r) (ho : curve_Of.f (I.since x) (I.dl x) (I.budget x) r = some (r1, r2, r3)) (h3 : tx_Witness.f (I.kind x) (I.key x) (I.pre x) = some p3) (w : World) :
 Calls Try.prog 39 #[.agg (I.enc x).toArray] w fun e w' => e = .returned (.int .i64 (chkV (wiB (I.nn x) 0 99) (wiB (I.value x) 1 2100000000000000) p3 (wiB (I.seq x) 0 65535) (wiB (I.wait x) 0 65535) (wiB (I.lock x) 0 1000000) (wiB (I.conf x) 0 1000000) r3)) ∧ Below w.heap.size w w' := by
 have HR := Aside0.mk (rise_calls I x k r r1 r2 r3 hw ho)
 have HW := Aside0.mk (fun W => tx_Witness.calls (I.kind x) (I.key x) (I.pre x) p3 W h3)
 clear hw ho h3
 have B1 := Aside0.mk (within_calls (I.seq x) 0 65535)
 have B2 := Aside0.mk (within_calls (I.wait x) 0 65535)
 have B3 := Aside0.mk (within_calls (I.lock x) 0 1000000)
 have P1 := Aside0.mk (within_calls (I.nn x) 0 99)
 have P2 := Aside0.mk (within_calls (I.value x) 1 2100000000000000)
 have P5 := Aside0.mk (within_calls (I.conf x) 0 1000000)
 have hx := I.hk x
 have a0 := (show (I.enc x)[32]? = some (.int .i64 (I.nn x)) from by unfold Spec.enc Spec.pt; rw [List.append_assoc, List.getElem?_append_right (by simp [I.hbs])]; simp [I.hbs])
 have a1 := I.at_value x
 have a2 := I.at_kind x
 have a3 := I.at_key x
 have a4 := I.at_pre x
 have a5 := I.at_seq x
 have a6 := (show (I.enc x)[38]? = some (.int .i64 (I.lock x)) from I.at_ x 5)
 have a7 := (show (I.enc x)[39]? = some (.int .i64 (I.wait x)) from I.at_ x 6)
 have a8 := I.at_conf x
 generalize wiB (I.seq x) 0 65535 = b1 at B1 ⊢
 generalize wiB (I.wait x) 0 65535 = b2 at B2 ⊢
 generalize wiB (I.lock x) 0 1000000 = b3 at B3 ⊢
 generalize wiB (I.nn x) 0 99 = p1 at P1 ⊢
 generalize wiB (I.value x) 1 2100000000000000 = p2 at P2 ⊢
 generalize wiB (I.conf x) 0 1000000 = p5 at P5 ⊢
 generalize I.nn x = n0 at a0 P1
 generalize I.value x = n1 at a1 P2
 generalize I.kind x = n2 at a2 HW
 generalize I.key x = n3 at a3 HW
 generalize I.pre x = n4 at a4 HW
 generalize I.seq x = n5 at a5 B1
 generalize I.lock x = n6 at a6 B3
 generalize I.wait x = n7 at a7 B2
 generalize I.conf x = n8 at a8 P5
 generalize I.enc x = cx at hx a0 a1 a2 a3 a4 a5 a6 a7 a8 HR ⊢
 have HB := Aside0.mk (Below.refl w.heap.size w)
 have CX := Aside0.mk (And.intro hx (And.intro a0 (And.intro a1 (And.intro a2 (And.intro a3 (And.intro a4 (And.intro a5 (And.intro a6 (And.intro a7 a8)))))))))
 clear hx a0 a1 a2 a3 a4 a5 a6 a7 a8
 have hu90 := Try.underlying90
 have hu125 := Try.underlying125
 have hu88 := Try.underlying88
 go_enter Try.func39, Try.ntmps39
 go_upto_region 1 with (first | ((with_reducible refine gate_dst (N := 1) rfl ?_); refine box_event ?hg (N := 1) ?hd (cs := cx.toArray) (t := 90) ?hr ?_; (case hd => rfl); (case hg => rfl); (case hr => first | (go_simp; done) | (go_simp; rfl)); intro gb hg w1 hbox hb; have m_HB := Aside0.mk (below_step HB.out hb); have BK := Aside0.mk hbox; have GB := Aside0.mk (show w.heap.size ≤ gb by rw [hg]; exact Nat.le_refl _); clear HB hbox hb hg; have HB := m_HB; clear m_HB))
 have k34 : w1.cell? ⟨gb, 34, none⟩ = some (.int .i64 n2) := (blk_cell BK.out 34).trans (by simpa using CX.out.2.2.2.1)
 have k35 : w1.cell? ⟨gb, 35, none⟩ = some (.int .i64 n3) := (blk_cell BK.out 35).trans (by simpa using CX.out.2.2.2.2.1)
 have k36 : w1.cell? ⟨gb, 36, none⟩ = some (.string n4) := (blk_cell BK.out 36).trans (by simpa using CX.out.2.2.2.2.2.1)
 have k37 : w1.cell? ⟨gb, 37, none⟩ = some (.int .i64 n5) := (blk_cell BK.out 37).trans (by simpa using CX.out.2.2.2.2.2.2.1)
 have k38 : w1.cell? ⟨gb, 38, none⟩ = some (.int .i64 n6) := (blk_cell BK.out 38).trans (by simpa using CX.out.2.2.2.2.2.2.2.1)
 have k39 : w1.cell? ⟨gb, 39, none⟩ = some (.int .i64 n7) := (blk_cell BK.out 39).trans (by simpa using CX.out.2.2.2.2.2.2.2.2.1)
 go_upto_region 2 with (first | ((with_reducible refine gate_dst (N := 3) rfl ?_); refine Fill.fill_event (N := 3) (x := 8) (cs := #[.int .i64 n2, .int .i64 n3, .string n4, .int .i64 n5, .int .i64 n6, .int .i64 n7]) (t := 88) rfl rfl rfl rfl rfl rfl Try.zeroValue88 Try.sizeOf88 rfl rfl (fun _ => rfl) (fun _ => rfl) ?_; intro gd hgd w2 hbox hb; have m_HB := Aside0.mk (below_step HB.out hb); have m_BK := Aside0.mk (blk_below BK.out hb); have BD := Aside0.mk hbox; clear HB BK hbox hb hgd k34 k35 k36 k37 k38 k39; have HB := m_HB; have BK := m_BK; clear m_HB m_BK))
 have LD : Aside0 (∀ W', Below w2.heap.size w2 W' → W'.cell? ⟨gb, 32, none⟩ = some (.int .i64 n0) ∧ W'.cell? ⟨gb, 33, none⟩ = some (.int .i64 n1) ∧ W'.cell? ⟨gb, 40, none⟩ = some (.int .i64 n8) ∧ Sem.run Try.prog (Wide.heavy0 ⟨gb, 0, none⟩ 44) W' = .ok cx.toArray W' ∧ W'.cell? ⟨gd, 0, none⟩ = some (.int .i64 n2) ∧ W'.cell? ⟨gd, 1, none⟩ = some (.int .i64 n3) ∧ W'.cell? ⟨gd, 2, none⟩ = some (.string n4) ∧ W'.cell? ⟨gd, 3, none⟩ = some (.int .i64 n5) ∧ W'.cell? ⟨gd, 4, none⟩ = some (.int .i64 n6) ∧ W'.cell? ⟨gd, 5, none⟩ = some (.int .i64 n7)) :=
  ⟨fun W' hb => ⟨(blk_cell (blk_below BK.out hb) 32).trans (by simpa using CX.out.2.1), (blk_cell (blk_below BK.out hb) 33).trans (by simpa using CX.out.2.2.1), (blk_cell (blk_below BK.out hb) 40).trans (by simpa using CX.out.2.2.2.2.2.2.2.2.2), row_load (blk_below BK.out hb) 0 44 _ CX.out.1 (by rw [List.drop_zero, List.take_of_length_le (by rw [CX.out.1]; exact Nat.le_refl _)]), (blk_cell (blk_below BD.out hb) 0).trans rfl, (blk_cell (blk_below BD.out hb) 1).trans rfl, (blk_cell (blk_below BD.out hb) 2).trans rfl, (blk_cell (blk_below BD.out hb) 3).trans rfl, (blk_cell (blk_below BD.out hb) 4).trans rfl, (blk_cell (blk_below BD.out hb) 5).trans rfl⟩⟩
 have H2 := Aside0.mk (Below.refl w2.heap.size w2)
 obtain ⟨l0, l1, l2, l3, l4, l5, l6, l7, l8, l9⟩ := LD.out _ H2.out
 clear BK BD CX
 cases b1
 ·skip
  cases p1
  ·skip
   go_wp2_with (first | ((with_reducible refine gate_callee (f := 40) rfl ?_); refine goesL_ (some 11) rfl rfl Try.func40 (by kernel_rfl) rfl #[.int .i64 n5, .int .i64 0, .int .i64 65535] rfl (by (try simp only [List.map_toArray, List.map_cons, List.map_nil]); first | done | rfl) ?_; with_reducible refine (B1.out _).mono ?_; rintro e w3 ⟨rfl, hb⟩; refine ⟨_, rfl, ?_⟩; have m_H2 := Aside0.mk (H2.out.trans (hb.mono H2.out.size)); clear l0 l1 l2 l3 l4 l5 l6 l7 l8 l9 H2 hb; have H2 := m_H2; clear m_H2; obtain ⟨l0, l1, l2, l3, l4, l5, l6, l7, l8, l9⟩ := LD.out _ H2.out) | ((with_reducible refine gate_callee (f := 40) rfl ?_); refine goesL_ (some 25) rfl rfl Try.func40 (by kernel_rfl) rfl #[.int .i64 n0, .int .i64 0, .int .i64 99] rfl (by (try simp only [List.map_toArray, List.map_cons, List.map_nil]); first | done | rfl) ?_; with_reducible refine (P1.out _).mono ?_; rintro e w3 ⟨rfl, hb⟩; refine ⟨_, rfl, ?_⟩; have m_H2 := Aside0.mk (H2.out.trans (hb.mono H2.out.size)); clear l0 l1 l2 l3 l4 l5 l6 l7 l8 l9 H2 hb; have H2 := m_H2; clear m_H2; obtain ⟨l0, l1, l2, l3, l4, l5, l6, l7, l8, l9⟩ := LD.out _ H2.out) | ((with_reducible refine gate_callee (f := 71) rfl ?_); refine goesL_ (some 51) rfl rfl Try.func71 (by kernel_rfl) rfl #[.agg cx.toArray] rfl (by (try simp only [List.map_toArray, List.map_cons, List.map_nil]); first | done | rfl) ?_; with_reducible refine (HR.out _).mono ?_; rintro e w3 ⟨rfl, hb⟩; refine ⟨_, rfl, ?_⟩; have m_H2 := Aside0.mk (H2.out.trans (hb.mono H2.out.size)); clear l0 l1 l2 l3 l4 l5 l6 l7 l8 l9 H2 hb; have H2 := m_H2; clear m_H2; obtain ⟨l0, l1, l2, l3, l4, l5, l6, l7, l8, l9⟩ := LD.out _ H2.out) | (go_at_call 40; (first | (with_reducible refine (B2.out _).mono ?_) | (with_reducible refine (B3.out _).mono ?_) | (with_reducible refine (P2.out _).mono ?_) | (with_reducible refine (P5.out _).mono ?_)); rintro e w3 ⟨rfl, hb⟩; have m_H2 := Aside0.mk (H2.out.trans (hb.mono H2.out.size)); clear l0 l1 l2 l3 l4 l5 l6 l7 l8 l9 H2 hb; have H2 := m_H2; clear m_H2; obtain ⟨l0, l1, l2, l3, l4, l5, l6, l7, l8, l9⟩ := LD.out _ H2.out) | (go_at_call 70; refine (HW.out _).mono ?_; rintro e w3 ⟨rfl, hb⟩; have m_H2 := Aside0.mk (H2.out.trans (hb.mono H2.out.size)); clear l0 l1 l2 l3 l4 l5 l6 l7 l8 l9 H2 hb; have H2 := m_H2; clear m_H2; obtain ⟨l0, l1, l2, l3, l4, l5, l6, l7, l8, l9⟩ := LD.out _ H2.out))
   go_ret
   exact ⟨by simp [chkV], HB.out.trans (H2.out.mono HB.out.size)⟩
  ·skip
   cases p2
   ·skip
    go_wp2_with (first | ((with_reducible refine gate_callee (f := 40) rfl ?_); refine goesL_ (some 11) rfl rfl Try.func40 (by kernel_rfl) rfl #[.int .i64 n5, .int .i64 0, .int .i64 65535] rfl (by (try simp only [List.map_toArray, List.map_cons, List.map_nil]); first | done | rfl) ?_; with_reducible refine (B1.out _).mono ?_; rintro e w3 ⟨rfl, hb⟩; refine ⟨_, rfl, ?_⟩; have m_H2 := Aside0.mk (H2.out.trans (hb.mono H2.out.size)); clear l0 l1 l2 l3 l4 l5 l6 l7 l8 l9 H2 hb; have H2 := m_H2; clear m_H2; obtain ⟨l0, l1, l2, l3, l4, l5, l6, l7, l8, l9⟩ := LD.out _ H2.out) | ((with_reducible refine gate_callee (f := 40) rfl ?_); refine goesL_ (some 25) rfl rfl Try.func40 (by kernel_rfl) rfl #[.int .i64 n0, .int .i64 0, .int .i64 99] rfl (by (try simp only [List.map_toArray, List.map_cons, List.map_nil]); first | done | rfl) ?_; with_reducible refine (P1.out _).mono ?_; rintro e w3 ⟨rfl, hb⟩; refine ⟨_, rfl, ?_⟩; have m_H2 := Aside0.mk (H2.out.trans (hb.mono H2.out.size)); clear l0 l1 l2 l3 l4 l5 l6 l7 l8 l9 H2 hb; have H2 := m_H2; clear m_H2; obtain ⟨l0, l1, l2, l3, l4, l5, l6, l7, l8, l9⟩ := LD.out _ H2.out) | ((with_reducible refine gate_callee (f := 71) rfl ?_); refine goesL_ (some 51) rfl rfl Try.func71 (by kernel_rfl) rfl #[.agg cx.toArray] rfl (by (try simp only [List.map_toArray, List.map_cons, List.map_nil]); first | done | rfl) ?_; with_reducible refine (HR.out _).mono ?_; rintro e w3 ⟨rfl, hb⟩; refine ⟨_, rfl, ?_⟩; have m_H2 := Aside0.mk (H2.out.trans (hb.mono H2.out.size)); clear l0 l1 l2 l3 l4 l5 l6 l7 l8 l9 H2 hb; have H2 := m_H2; clear m_H2; obtain ⟨l0, l1, l2, l3, l4, l5, l6, l7, l8, l9⟩ := LD.out _ H2.out) | (go_at_call 40; (first | (with_reducible refine (B2.out _).mono ?_) | (with_reducible refine (B3.out _).mono ?_) | (with_reducible refine (P2.out _).mono ?_) | (with_reducible refine (P5.out _).mono ?_)); rintro e w3 ⟨rfl, hb⟩; have m_H2 := Aside0.mk (H2.out.trans (hb.mono H2.out.size)); clear l0 l1 l2 l3 l4 l5 l6 l7 l8 l9 H2 hb; have H2 := m_H2; clear m_H2; obtain ⟨l0, l1, l2, l3, l4, l5, l6, l7, l8, l9⟩ := LD.out _ H2.out) | (go_at_call 70; refine (HW.out _).mono ?_; rintro e w3 ⟨rfl, hb⟩; have m_H2 := Aside0.mk (H2.out.trans (hb.mono H2.out.size)); clear l0 l1 l2 l3 l4 l5 l6 l7 l8 l9 H2 hb; have H2 := m_H2; clear m_H2; obtain ⟨l0, l1, l2, l3, l4, l5, l6, l7, l8, l9⟩ := LD.out _ H2.out))
    go_ret
    exact ⟨by simp [chkV], HB.out.trans (H2.out.mono HB.out.size)⟩
   ·skip
    cases p3
    ·skip
     go_wp2_with (first | ((with_reducible refine gate_callee (f := 40) rfl ?_); refine goesL_ (some 11) rfl rfl Try.func40 (by kernel_rfl) rfl #[.int .i64 n5, .int .i64 0, .int .i64 65535] rfl (by (try simp only [List.map_toArray, List.map_cons, List.map_nil]); first | done | rfl) ?_; with_reducible refine (B1.out _).mono ?_; rintro e w3 ⟨rfl, hb⟩; refine ⟨_, rfl, ?_⟩; have m_H2 := Aside0.mk (H2.out.trans (hb.mono H2.out.size)); clear l0 l1 l2 l3 l4 l5 l6 l7 l8 l9 H2 hb; have H2 := m_H2; clear m_H2; obtain ⟨l0, l1, l2, l3, l4, l5, l6, l7, l8, l9⟩ := LD.out _ H2.out) | ((with_reducible refine gate_callee (f := 40) rfl ?_); refine goesL_ (some 25) rfl rfl Try.func40 (by kernel_rfl) rfl #[.int .i64 n0, .int .i64 0, .int .i64 99] rfl (by (try simp only [List.map_toArray, List.map_cons, List.map_nil]); first | done | rfl) ?_; with_reducible refine (P1.out _).mono ?_; rintro e w3 ⟨rfl, hb⟩; refine ⟨_, rfl, ?_⟩; have m_H2 := Aside0.mk (H2.out.trans (hb.mono H2.out.size)); clear l0 l1 l2 l3 l4 l5 l6 l7 l8 l9 H2 hb; have H2 := m_H2; clear m_H2; obtain ⟨l0, l1, l2, l3, l4, l5, l6, l7, l8, l9⟩ := LD.out _ H2.out) | ((with_reducible refine gate_callee (f := 71) rfl ?_); refine goesL_ (some 51) rfl rfl Try.func71 (by kernel_rfl) rfl #[.agg cx.toArray] rfl (by (try simp only [List.map_toArray, List.map_cons, List.map_nil]); first | done | rfl) ?_; with_reducible refine (HR.out _).mono ?_; rintro e w3 ⟨rfl, hb⟩; refine ⟨_, rfl, ?_⟩; have m_H2 := Aside0.mk (H2.out.trans (hb.mono H2.out.size)); clear l0 l1 l2 l3 l4 l5 l6 l7 l8 l9 H2 hb; have H2 := m_H2; clear m_H2; obtain ⟨l0, l1, l2, l3, l4, l5, l6, l7, l8, l9⟩ := LD.out _ H2.out) | (go_at_call 40; (first | (with_reducible refine (B2.out _).mono ?_) | (with_reducible refine (B3.out _).mono ?_) | (with_reducible refine (P2.out _).mono ?_) | (with_reducible refine (P5.out _).mono ?_)); rintro e w3 ⟨rfl, hb⟩; have m_H2 := Aside0.mk (H2.out.trans (hb.mono H2.out.size)); clear l0 l1 l2 l3 l4 l5 l6 l7 l8 l9 H2 hb; have H2 := m_H2; clear m_H2; obtain ⟨l0, l1, l2, l3, l4, l5, l6, l7, l8, l9⟩ := LD.out _ H2.out) | (go_at_call 70; refine (HW.out _).mono ?_; rintro e w3 ⟨rfl, hb⟩; have m_H2 := Aside0.mk (H2.out.trans (hb.mono H2.out.size)); clear l0 l1 l2 l3 l4 l5 l6 l7 l8 l9 H2 hb; have H2 := m_H2; clear m_H2; obtain ⟨l0, l1, l2, l3, l4, l5, l6, l7, l8, l9⟩ := LD.out _ H2.out))
     go_ret
     exact ⟨by simp [chkV], HB.out.trans (H2.out.mono HB.out.size)⟩
    ·skip
     go_wp2_with (first | ((with_reducible refine gate_callee (f := 40) rfl ?_); refine goesL_ (some 11) rfl rfl Try.func40 (by kernel_rfl) rfl #[.int .i64 n5, .int .i64 0, .int .i64 65535] rfl (by (try simp only [List.map_toArray, List.map_cons, List.map_nil]); first | done | rfl) ?_; with_reducible refine (B1.out _).mono ?_; rintro e w3 ⟨rfl, hb⟩; refine ⟨_, rfl, ?_⟩; have m_H2 := Aside0.mk (H2.out.trans (hb.mono H2.out.size)); clear l0 l1 l2 l3 l4 l5 l6 l7 l8 l9 H2 hb; have H2 := m_H2; clear m_H2; obtain ⟨l0, l1, l2, l3, l4, l5, l6, l7, l8, l9⟩ := LD.out _ H2.out) | ((with_reducible refine gate_callee (f := 40) rfl ?_); refine goesL_ (some 25) rfl rfl Try.func40 (by kernel_rfl) rfl #[.int .i64 n0, .int .i64 0, .int .i64 99] rfl (by (try simp only [List.map_toArray, List.map_cons, List.map_nil]); first | done | rfl) ?_; with_reducible refine (P1.out _).mono ?_; rintro e w3 ⟨rfl, hb⟩; refine ⟨_, rfl, ?_⟩; have m_H2 := Aside0.mk (H2.out.trans (hb.mono H2.out.size)); clear l0 l1 l2 l3 l4 l5 l6 l7 l8 l9 H2 hb; have H2 := m_H2; clear m_H2; obtain ⟨l0, l1, l2, l3, l4, l5, l6, l7, l8, l9⟩ := LD.out _ H2.out) | ((with_reducible refine gate_callee (f := 71) rfl ?_); refine goesL_ (some 51) rfl rfl Try.func71 (by kernel_rfl) rfl #[.agg cx.toArray] rfl (by (try simp only [List.map_toArray, List.map_cons, List.map_nil]); first | done | rfl) ?_; with_reducible refine (HR.out _).mono ?_; rintro e w3 ⟨rfl, hb⟩; refine ⟨_, rfl, ?_⟩; have m_H2 := Aside0.mk (H2.out.trans (hb.mono H2.out.size)); clear l0 l1 l2 l3 l4 l5 l6 l7 l8 l9 H2 hb; have H2 := m_H2; clear m_H2; obtain ⟨l0, l1, l2, l3, l4, l5, l6, l7, l8, l9⟩ := LD.out _ H2.out) | (go_at_call 40; (first | (with_reducible refine (B2.out _).mono ?_) | (with_reducible refine (B3.out _).mono ?_) | (with_reducible refine (P2.out _).mono ?_) | (with_reducible refine (P5.out _).mono ?_)); rintro e w3 ⟨rfl, hb⟩; have m_H2 := Aside0.mk (H2.out.trans (hb.mono H2.out.size)); clear l0 l1 l2 l3 l4 l5 l6 l7 l8 l9 H2 hb; have H2 := m_H2; clear m_H2; obtain ⟨l0, l1, l2, l3, l4, l5, l6, l7, l8, l9⟩ := LD.out _ H2.out) | (go_at_call 70; refine (HW.out _).mono ?_; rintro e w3 ⟨rfl, hb⟩; have m_H2 := Aside0.mk (H2.out.trans (hb.mono H2.out.size)); clear l0 l1 l2 l3 l4 l5 l6 l7 l8 l9 H2 hb; have H2 := m_H2; clear m_H2; obtain ⟨l0, l1, l2, l3, l4, l5, l6, l7, l8, l9⟩ := LD.out _ H2.out))
     go_ret
     exact ⟨by simp [chkV], HB.out.trans (H2.out.mono HB.out.size)⟩
 ·skip
  cases b2
  ·skip
   cases p1
   ·skip
    go_wp2_with (first | ((with_reducible refine gate_callee (f := 40) rfl ?_); refine goesL_ (some 11) rfl rfl Try.func40 (by kernel_rfl) rfl #[.int .i64 n5, .int .i64 0, .int .i64 65535] rfl (by (try simp only [List.map_toArray, List.map_cons, List.map_nil]); first | done | rfl) ?_; with_reducible refine (B1.out _).mono ?_; rintro e w3 ⟨rfl, hb⟩; refine ⟨_, rfl, ?_⟩; have m_H2 := Aside0.mk (H2.out.trans (hb.mono H2.out.size)); clear l0 l1 l2 l3 l4 l5 l6 l7 l8 l9 H2 hb; have H2 := m_H2; clear m_H2; obtain ⟨l0, l1, l2, l3, l4, l5, l6, l7, l8, l9⟩ := LD.out _ H2.out) | ((with_reducible refine gate_callee (f := 40) rfl ?_); refine goesL_ (some 25) rfl rfl Try.func40 (by kernel_rfl) rfl #[.int .i64 n0, .int .i64 0, .int .i64 99] rfl (by (try simp only [List.map_toArray, List.map_cons, List.map_nil]); first | done | rfl) ?_; with_reducible refine (P1.out _).mono ?_; rintro e w3 ⟨rfl, hb⟩; refine ⟨_, rfl, ?_⟩; have m_H2 := Aside0.mk (H2.out.trans (hb.mono H2.out.size)); clear l0 l1 l2 l3 l4 l5 l6 l7 l8 l9 H2 hb; have H2 := m_H2; clear m_H2; obtain ⟨l0, l1, l2, l3, l4, l5, l6, l7, l8, l9⟩ := LD.out _ H2.out) | ((with_reducible refine gate_callee (f := 71) rfl ?_); refine goesL_ (some 51) rfl rfl Try.func71 (by kernel_rfl) rfl #[.agg cx.toArray] rfl (by (try simp only [List.map_toArray, List.map_cons, List.map_nil]); first | done | rfl) ?_; with_reducible refine (HR.out _).mono ?_; rintro e w3 ⟨rfl, hb⟩; refine ⟨_, rfl, ?_⟩; have m_H2 := Aside0.mk (H2.out.trans (hb.mono H2.out.size)); clear l0 l1 l2 l3 l4 l5 l6 l7 l8 l9 H2 hb; have H2 := m_H2; clear m_H2; obtain ⟨l0, l1, l2, l3, l4, l5, l6, l7, l8, l9⟩ := LD.out _ H2.out) | (go_at_call 40; (first | (with_reducible refine (B2.out _).mono ?_) | (with_reducible refine (B3.out _).mono ?_) | (with_reducible refine (P2.out _).mono ?_) | (with_reducible refine (P5.out _).mono ?_)); rintro e w3 ⟨rfl, hb⟩; have m_H2 := Aside0.mk (H2.out.trans (hb.mono H2.out.size)); clear l0 l1 l2 l3 l4 l5 l6 l7 l8 l9 H2 hb; have H2 := m_H2; clear m_H2; obtain ⟨l0, l1, l2, l3, l4, l5, l6, l7, l8, l9⟩ := LD.out _ H2.out) | (go_at_call 70; refine (HW.out _).mono ?_; rintro e w3 ⟨rfl, hb⟩; have m_H2 := Aside0.mk (H2.out.trans (hb.mono H2.out.size)); clear l0 l1 l2 l3 l4 l5 l6 l7 l8 l9 H2 hb; have H2 := m_H2; clear m_H2; obtain ⟨l0, l1, l2, l3, l4, l5, l6, l7, l8, l9⟩ := LD.out _ H2.out))
    go_ret
    exact ⟨by simp [chkV], HB.out.trans (H2.out.mono HB.out.size)⟩
   ·skip
    cases p2
    ·skip
     go_wp2_with (first | ((with_reducible refine gate_callee (f := 40) rfl ?_); refine goesL_ (some 11) rfl rfl Try.func40 (by kernel_rfl) rfl #[.int .i64 n5, .int .i64 0, .int .i64 65535] rfl (by (try simp only [List.map_toArray, List.map_cons, List.map_nil]); first | done | rfl) ?_; with_reducible refine (B1.out _).mono ?_; rintro e w3 ⟨rfl, hb⟩; refine ⟨_, rfl, ?_⟩; have m_H2 := Aside0.mk (H2.out.trans (hb.mono H2.out.size)); clear l0 l1 l2 l3 l4 l5 l6 l7 l8 l9 H2 hb; have H2 := m_H2; clear m_H2; obtain ⟨l0, l1, l2, l3, l4, l5, l6, l7, l8, l9⟩ := LD.out _ H2.out) | ((with_reducible refine gate_callee (f := 40) rfl ?_); refine goesL_ (some 25) rfl rfl Try.func40 (by kernel_rfl) rfl #[.int .i64 n0, .int .i64 0, .int .i64 99] rfl (by (try simp only [List.map_toArray, List.map_cons, List.map_nil]); first | done | rfl) ?_; with_reducible refine (P1.out _).mono ?_; rintro e w3 ⟨rfl, hb⟩; refine ⟨_, rfl, ?_⟩; have m_H2 := Aside0.mk (H2.out.trans (hb.mono H2.out.size)); clear l0 l1 l2 l3 l4 l5 l6 l7 l8 l9 H2 hb; have H2 := m_H2; clear m_H2; obtain ⟨l0, l1, l2, l3, l4, l5, l6, l7, l8, l9⟩ := LD.out _ H2.out) | ((with_reducible refine gate_callee (f := 71) rfl ?_); refine goesL_ (some 51) rfl rfl Try.func71 (by kernel_rfl) rfl #[.agg cx.toArray] rfl (by (try simp only [List.map_toArray, List.map_cons, List.map_nil]); first | done | rfl) ?_; with_reducible refine (HR.out _).mono ?_; rintro e w3 ⟨rfl, hb⟩; refine ⟨_, rfl, ?_⟩; have m_H2 := Aside0.mk (H2.out.trans (hb.mono H2.out.size)); clear l0 l1 l2 l3 l4 l5 l6 l7 l8 l9 H2 hb; have H2 := m_H2; clear m_H2; obtain ⟨l0, l1, l2, l3, l4, l5, l6, l7, l8, l9⟩ := LD.out _ H2.out) | (go_at_call 40; (first | (with_reducible refine (B2.out _).mono ?_) | (with_reducible refine (B3.out _).mono ?_) | (with_reducible refine (P2.out _).mono ?_) | (with_reducible refine (P5.out _).mono ?_)); rintro e w3 ⟨rfl, hb⟩; have m_H2 := Aside0.mk (H2.out.trans (hb.mono H2.out.size)); clear l0 l1 l2 l3 l4 l5 l6 l7 l8 l9 H2 hb; have H2 := m_H2; clear m_H2; obtain ⟨l0, l1, l2, l3, l4, l5, l6, l7, l8, l9⟩ := LD.out _ H2.out) | (go_at_call 70; refine (HW.out _).mono ?_; rintro e w3 ⟨rfl, hb⟩; have m_H2 := Aside0.mk (H2.out.trans (hb.mono H2.out.size)); clear l0 l1 l2 l3 l4 l5 l6 l7 l8 l9 H2 hb; have H2 := m_H2; clear m_H2; obtain ⟨l0, l1, l2, l3, l4, l5, l6, l7, l8, l9⟩ := LD.out _ H2.out))
     go_ret
     exact ⟨by simp [chkV], HB.out.trans (H2.out.mono HB.out.size)⟩
    ·skip
     cases p3
     ·skip
      go_wp2_with (first | ((with_reducible refine gate_callee (f := 40) rfl ?_); refine goesL_ (some 11) rfl rfl Try.func40 (by kernel_rfl) rfl #[.int .i64 n5, .int .i64 0, .int .i64 65535] rfl (by (try simp only [List.map_toArray, List.map_cons, List.map_nil]); first | done | rfl) ?_; with_reducible refine (B1.out _).mono ?_; rintro e w3 ⟨rfl, hb⟩; refine ⟨_, rfl, ?_⟩; have m_H2 := Aside0.mk (H2.out.trans (hb.mono H2.out.size)); clear l0 l1 l2 l3 l4 l5 l6 l7 l8 l9 H2 hb; have H2 := m_H2; clear m_H2; obtain ⟨l0, l1, l2, l3, l4, l5, l6, l7, l8, l9⟩ := LD.out _ H2.out) | ((with_reducible refine gate_callee (f := 40) rfl ?_); refine goesL_ (some 25) rfl rfl Try.func40 (by kernel_rfl) rfl #[.int .i64 n0, .int .i64 0, .int .i64 99] rfl (by (try simp only [List.map_toArray, List.map_cons, List.map_nil]); first | done | rfl) ?_; with_reducible refine (P1.out _).mono ?_; rintro e w3 ⟨rfl, hb⟩; refine ⟨_, rfl, ?_⟩; have m_H2 := Aside0.mk (H2.out.trans (hb.mono H2.out.size)); clear l0 l1 l2 l3 l4 l5 l6 l7 l8 l9 H2 hb; have H2 := m_H2; clear m_H2; obtain ⟨l0, l1, l2, l3, l4, l5, l6, l7, l8, l9⟩ := LD.out _ H2.out) | ((with_reducible refine gate_callee (f := 71) rfl ?_); refine goesL_ (some 51) rfl rfl Try.func71 (by kernel_rfl) rfl #[.agg cx.toArray] rfl (by (try simp only [List.map_toArray, List.map_cons, List.map_nil]); first | done | rfl) ?_; with_reducible refine (HR.out _).mono ?_; rintro e w3 ⟨rfl, hb⟩; refine ⟨_, rfl, ?_⟩; have m_H2 := Aside0.mk (H2.out.trans (hb.mono H2.out.size)); clear l0 l1 l2 l3 l4 l5 l6 l7 l8 l9 H2 hb; have H2 := m_H2; clear m_H2; obtain ⟨l0, l1, l2, l3, l4, l5, l6, l7, l8, l9⟩ := LD.out _ H2.out) | (go_at_call 40; (first | (with_reducible refine (B2.out _).mono ?_) | (with_reducible refine (B3.out _).mono ?_) | (with_reducible refine (P2.out _).mono ?_) | (with_reducible refine (P5.out _).mono ?_)); rintro e w3 ⟨rfl, hb⟩; have m_H2 := Aside0.mk (H2.out.trans (hb.mono H2.out.size)); clear l0 l1 l2 l3 l4 l5 l6 l7 l8 l9 H2 hb; have H2 := m_H2; clear m_H2; obtain ⟨l0, l1, l2, l3, l4, l5, l6, l7, l8, l9⟩ := LD.out _ H2.out) | (go_at_call 70; refine (HW.out _).mono ?_; rintro e w3 ⟨rfl, hb⟩; have m_H2 := Aside0.mk (H2.out.trans (hb.mono H2.out.size)); clear l0 l1 l2 l3 l4 l5 l6 l7 l8 l9 H2 hb; have H2 := m_H2; clear m_H2; obtain ⟨l0, l1, l2, l3, l4, l5, l6, l7, l8, l9⟩ := LD.out _ H2.out))
      go_ret
      exact ⟨by simp [chkV], HB.out.trans (H2.out.mono HB.out.size)⟩
     ·skip
      go_wp2_with (first | ((with_reducible refine gate_callee (f := 40) rfl ?_); refine goesL_ (some 11) rfl rfl Try.func40 (by kernel_rfl) rfl #[.int .i64 n5, .int .i64 0, .int .i64 65535] rfl (by (try simp only [List.map_toArray, List.map_cons, List.map_nil]); first | done | rfl) ?_; with_reducible refine (B1.out _).mono ?_; rintro e w3 ⟨rfl, hb⟩; refine ⟨_, rfl, ?_⟩; have m_H2 := Aside0.mk (H2.out.trans (hb.mono H2.out.size)); clear l0 l1 l2 l3 l4 l5 l6 l7 l8 l9 H2 hb; have H2 := m_H2; clear m_H2; obtain ⟨l0, l1, l2, l3, l4, l5, l6, l7, l8, l9⟩ := LD.out _ H2.out) | ((with_reducible refine gate_callee (f := 40) rfl ?_); refine goesL_ (some 25) rfl rfl Try.func40 (by kernel_rfl) rfl #[.int .i64 n0, .int .i64 0, .int .i64 99] rfl (by (try simp only [List.map_toArray, List.map_cons, List.map_nil]); first | done | rfl) ?_; with_reducible refine (P1.out _).mono ?_; rintro e w3 ⟨rfl, hb⟩; refine ⟨_, rfl, ?_⟩; have m_H2 := Aside0.mk (H2.out.trans (hb.mono H2.out.size)); clear l0 l1 l2 l3 l4 l5 l6 l7 l8 l9 H2 hb; have H2 := m_H2; clear m_H2; obtain ⟨l0, l1, l2, l3, l4, l5, l6, l7, l8, l9⟩ := LD.out _ H2.out) | ((with_reducible refine gate_callee (f := 71) rfl ?_); refine goesL_ (some 51) rfl rfl Try.func71 (by kernel_rfl) rfl #[.agg cx.toArray] rfl (by (try simp only [List.map_toArray, List.map_cons, List.map_nil]); first | done | rfl) ?_; with_reducible refine (HR.out _).mono ?_; rintro e w3 ⟨rfl, hb⟩; refine ⟨_, rfl, ?_⟩; have m_H2 := Aside0.mk (H2.out.trans (hb.mono H2.out.size)); clear l0 l1 l2 l3 l4 l5 l6 l7 l8 l9 H2 hb; have H2 := m_H2; clear m_H2; obtain ⟨l0, l1, l2, l3, l4, l5, l6, l7, l8, l9⟩ := LD.out _ H2.out) | (go_at_call 40; (first | (with_reducible refine (B2.out _).mono ?_) | (with_reducible refine (B3.out _).mono ?_) | (with_reducible refine (P2.out _).mono ?_) | (with_reducible refine (P5.out _).mono ?_)); rintro e w3 ⟨rfl, hb⟩; have m_H2 := Aside0.mk (H2.out.trans (hb.mono H2.out.size)); clear l0 l1 l2 l3 l4 l5 l6 l7 l8 l9 H2 hb; have H2 := m_H2; clear m_H2; obtain ⟨l0, l1, l2, l3, l4, l5, l6, l7, l8, l9⟩ := LD.out _ H2.out) | (go_at_call 70; refine (HW.out _).mono ?_; rintro e w3 ⟨rfl, hb⟩; have m_H2 := Aside0.mk (H2.out.trans (hb.mono H2.out.size)); clear l0 l1 l2 l3 l4 l5 l6 l7 l8 l9 H2 hb; have H2 := m_H2; clear m_H2; obtain ⟨l0, l1, l2, l3, l4, l5, l6, l7, l8, l9⟩ := LD.out _ H2.out))
      go_ret
      exact ⟨by simp [chkV], HB.out.trans (H2.out.mono HB.out.size)⟩
  ·skip
   cases b3
   ·skip
    cases p1
    ·skip
     go_wp2_with (first | ((with_reducible refine gate_callee (f := 40) rfl ?_); refine goesL_ (some 11) rfl rfl Try.func40 (by kernel_rfl) rfl #[.int .i64 n5, .int .i64 0, .int .i64 65535] rfl (by (try simp only [List.map_toArray, List.map_cons, List.map_nil]); first | done | rfl) ?_; with_reducible refine (B1.out _).mono ?_; rintro e w3 ⟨rfl, hb⟩; refine ⟨_, rfl, ?_⟩; have m_H2 := Aside0.mk (H2.out.trans (hb.mono H2.out.size)); clear l0 l1 l2 l3 l4 l5 l6 l7 l8 l9 H2 hb; have H2 := m_H2; clear m_H2; obtain ⟨l0, l1, l2, l3, l4, l5, l6, l7, l8, l9⟩ := LD.out _ H2.out) | ((with_reducible refine gate_callee (f := 40) rfl ?_); refine goesL_ (some 25) rfl rfl Try.func40 (by kernel_rfl) rfl #[.int .i64 n0, .int .i64 0, .int .i64 99] rfl (by (try simp only [List.map_toArray, List.map_cons, List.map_nil]); first | done | rfl) ?_; with_reducible refine (P1.out _).mono ?_; rintro e w3 ⟨rfl, hb⟩; refine ⟨_, rfl, ?_⟩; have m_H2 := Aside0.mk (H2.out.trans (hb.mono H2.out.size)); clear l0 l1 l2 l3 l4 l5 l6 l7 l8 l9 H2 hb; have H2 := m_H2; clear m_H2; obtain ⟨l0, l1, l2, l3, l4, l5, l6, l7, l8, l9⟩ := LD.out _ H2.out) | ((with_reducible refine gate_callee (f := 71) rfl ?_); refine goesL_ (some 51) rfl rfl Try.func71 (by kernel_rfl) rfl #[.agg cx.toArray] rfl (by (try simp only [List.map_toArray, List.map_cons, List.map_nil]); first | done | rfl) ?_; with_reducible refine (HR.out _).mono ?_; rintro e w3 ⟨rfl, hb⟩; refine ⟨_, rfl, ?_⟩; have m_H2 := Aside0.mk (H2.out.trans (hb.mono H2.out.size)); clear l0 l1 l2 l3 l4 l5 l6 l7 l8 l9 H2 hb; have H2 := m_H2; clear m_H2; obtain ⟨l0, l1, l2, l3, l4, l5, l6, l7, l8, l9⟩ := LD.out _ H2.out) | (go_at_call 40; (first | (with_reducible refine (B2.out _).mono ?_) | (with_reducible refine (B3.out _).mono ?_) | (with_reducible refine (P2.out _).mono ?_) | (with_reducible refine (P5.out _).mono ?_)); rintro e w3 ⟨rfl, hb⟩; have m_H2 := Aside0.mk (H2.out.trans (hb.mono H2.out.size)); clear l0 l1 l2 l3 l4 l5 l6 l7 l8 l9 H2 hb; have H2 := m_H2; clear m_H2; obtain ⟨l0, l1, l2, l3, l4, l5, l6, l7, l8, l9⟩ := LD.out _ H2.out) | (go_at_call 70; refine (HW.out _).mono ?_; rintro e w3 ⟨rfl, hb⟩; have m_H2 := Aside0.mk (H2.out.trans (hb.mono H2.out.size)); clear l0 l1 l2 l3 l4 l5 l6 l7 l8 l9 H2 hb; have H2 := m_H2; clear m_H2; obtain ⟨l0, l1, l2, l3, l4, l5, l6, l7, l8, l9⟩ := LD.out _ H2.out))
     go_ret
     exact ⟨by simp [chkV], HB.out.trans (H2.out.mono HB.out.size)⟩
    ·skip
     cases p2
     ·skip
      go_wp2_with (first | ((with_reducible refine gate_callee (f := 40) rfl ?_); refine goesL_ (some 11) rfl rfl Try.func40 (by kernel_rfl) rfl #[.int .i64 n5, .int .i64 0, .int .i64 65535] rfl (by (try simp only [List.map_toArray, List.map_cons, List.map_nil]); first | done | rfl) ?_; with_reducible refine (B1.out _).mono ?_; rintro e w3 ⟨rfl, hb⟩; refine ⟨_, rfl, ?_⟩; have m_H2 := Aside0.mk (H2.out.trans (hb.mono H2.out.size)); clear l0 l1 l2 l3 l4 l5 l6 l7 l8 l9 H2 hb; have H2 := m_H2; clear m_H2; obtain ⟨l0, l1, l2, l3, l4, l5, l6, l7, l8, l9⟩ := LD.out _ H2.out) | ((with_reducible refine gate_callee (f := 40) rfl ?_); refine goesL_ (some 25) rfl rfl Try.func40 (by kernel_rfl) rfl #[.int .i64 n0, .int .i64 0, .int .i64 99] rfl (by (try simp only [List.map_toArray, List.map_cons, List.map_nil]); first | done | rfl) ?_; with_reducible refine (P1.out _).mono ?_; rintro e w3 ⟨rfl, hb⟩; refine ⟨_, rfl, ?_⟩; have m_H2 := Aside0.mk (H2.out.trans (hb.mono H2.out.size)); clear l0 l1 l2 l3 l4 l5 l6 l7 l8 l9 H2 hb; have H2 := m_H2; clear m_H2; obtain ⟨l0, l1, l2, l3, l4, l5, l6, l7, l8, l9⟩ := LD.out _ H2.out) | ((with_reducible refine gate_callee (f := 71) rfl ?_); refine goesL_ (some 51) rfl rfl Try.func71 (by kernel_rfl) rfl #[.agg cx.toArray] rfl (by (try simp only [List.map_toArray, List.map_cons, List.map_nil]); first | done | rfl) ?_; with_reducible refine (HR.out _).mono ?_; rintro e w3 ⟨rfl, hb⟩; refine ⟨_, rfl, ?_⟩; have m_H2 := Aside0.mk (H2.out.trans (hb.mono H2.out.size)); clear l0 l1 l2 l3 l4 l5 l6 l7 l8 l9 H2 hb; have H2 := m_H2; clear m_H2; obtain ⟨l0, l1, l2, l3, l4, l5, l6, l7, l8, l9⟩ := LD.out _ H2.out) | (go_at_call 40; (first | (with_reducible refine (B2.out _).mono ?_) | (with_reducible refine (B3.out _).mono ?_) | (with_reducible refine (P2.out _).mono ?_) | (with_reducible refine (P5.out _).mono ?_)); rintro e w3 ⟨rfl, hb⟩; have m_H2 := Aside0.mk (H2.out.trans (hb.mono H2.out.size)); clear l0 l1 l2 l3 l4 l5 l6 l7 l8 l9 H2 hb; have H2 := m_H2; clear m_H2; obtain ⟨l0, l1, l2, l3, l4, l5, l6, l7, l8, l9⟩ := LD.out _ H2.out) | (go_at_call 70; refine (HW.out _).mono ?_; rintro e w3 ⟨rfl, hb⟩; have m_H2 := Aside0.mk (H2.out.trans (hb.mono H2.out.size)); clear l0 l1 l2 l3 l4 l5 l6 l7 l8 l9 H2 hb; have H2 := m_H2; clear m_H2; obtain ⟨l0, l1, l2, l3, l4, l5, l6, l7, l8, l9⟩ := LD.out _ H2.out))
      go_ret
      exact ⟨by simp [chkV], HB.out.trans (H2.out.mono HB.out.size)⟩
     ·skip
      cases p3
      ·skip
       go_wp2_with (first | ((with_reducible refine gate_callee (f := 40) rfl ?_); refine goesL_ (some 11) rfl rfl Try.func40 (by kernel_rfl) rfl #[.int .i64 n5, .int .i64 0, .int .i64 65535] rfl (by (try simp only [List.map_toArray, List.map_cons, List.map_nil]); first | done | rfl) ?_; with_reducible refine (B1.out _).mono ?_; rintro e w3 ⟨rfl, hb⟩; refine ⟨_, rfl, ?_⟩; have m_H2 := Aside0.mk (H2.out.trans (hb.mono H2.out.size)); clear l0 l1 l2 l3 l4 l5 l6 l7 l8 l9 H2 hb; have H2 := m_H2; clear m_H2; obtain ⟨l0, l1, l2, l3, l4, l5, l6, l7, l8, l9⟩ := LD.out _ H2.out) | ((with_reducible refine gate_callee (f := 40) rfl ?_); refine goesL_ (some 25) rfl rfl Try.func40 (by kernel_rfl) rfl #[.int .i64 n0, .int .i64 0, .int .i64 99] rfl (by (try simp only [List.map_toArray, List.map_cons, List.map_nil]); first | done | rfl) ?_; with_reducible refine (P1.out _).mono ?_; rintro e w3 ⟨rfl, hb⟩; refine ⟨_, rfl, ?_⟩; have m_H2 := Aside0.mk (H2.out.trans (hb.mono H2.out.size)); clear l0 l1 l2 l3 l4 l5 l6 l7 l8 l9 H2 hb; have H2 := m_H2; clear m_H2; obtain ⟨l0, l1, l2, l3, l4, l5, l6, l7, l8, l9⟩ := LD.out _ H2.out) | ((with_reducible refine gate_callee (f := 71) rfl ?_); refine goesL_ (some 51) rfl rfl Try.func71 (by kernel_rfl) rfl #[.agg cx.toArray] rfl (by (try simp only [List.map_toArray, List.map_cons, List.map_nil]); first | done | rfl) ?_; with_reducible refine (HR.out _).mono ?_; rintro e w3 ⟨rfl, hb⟩; refine ⟨_, rfl, ?_⟩; have m_H2 := Aside0.mk (H2.out.trans (hb.mono H2.out.size)); clear l0 l1 l2 l3 l4 l5 l6 l7 l8 l9 H2 hb; have H2 := m_H2; clear m_H2; obtain ⟨l0, l1, l2, l3, l4, l5, l6, l7, l8, l9⟩ := LD.out _ H2.out) | (go_at_call 40; (first | (with_reducible refine (B2.out _).mono ?_) | (with_reducible refine (B3.out _).mono ?_) | (with_reducible refine (P2.out _).mono ?_) | (with_reducible refine (P5.out _).mono ?_)); rintro e w3 ⟨rfl, hb⟩; have m_H2 := Aside0.mk (H2.out.trans (hb.mono H2.out.size)); clear l0 l1 l2 l3 l4 l5 l6 l7 l8 l9 H2 hb; have H2 := m_H2; clear m_H2; obtain ⟨l0, l1, l2, l3, l4, l5, l6, l7, l8, l9⟩ := LD.out _ H2.out) | (go_at_call 70; refine (HW.out _).mono ?_; rintro e w3 ⟨rfl, hb⟩; have m_H2 := Aside0.mk (H2.out.trans (hb.mono H2.out.size)); clear l0 l1 l2 l3 l4 l5 l6 l7 l8 l9 H2 hb; have H2 := m_H2; clear m_H2; obtain ⟨l0, l1, l2, l3, l4, l5, l6, l7, l8, l9⟩ := LD.out _ H2.out))
       go_ret
       exact ⟨by simp [chkV], HB.out.trans (H2.out.mono HB.out.size)⟩
      ·skip
       go_wp2_with (first | ((with_reducible refine gate_callee (f := 40) rfl ?_); refine goesL_ (some 11) rfl rfl Try.func40 (by kernel_rfl) rfl #[.int .i64 n5, .int .i64 0, .int .i64 65535] rfl (by (try simp only [List.map_toArray, List.map_cons, List.map_nil]); first | done | rfl) ?_; with_reducible refine (B1.out _).mono ?_; rintro e w3 ⟨rfl, hb⟩; refine ⟨_, rfl, ?_⟩; have m_H2 := Aside0.mk (H2.out.trans (hb.mono H2.out.size)); clear l0 l1 l2 l3 l4 l5 l6 l7 l8 l9 H2 hb; have H2 := m_H2; clear m_H2; obtain ⟨l0, l1, l2, l3, l4, l5, l6, l7, l8, l9⟩ := LD.out _ H2.out) | ((with_reducible refine gate_callee (f := 40) rfl ?_); refine goesL_ (some 25) rfl rfl Try.func40 (by kernel_rfl) rfl #[.int .i64 n0, .int .i64 0, .int .i64 99] rfl (by (try simp only [List.map_toArray, List.map_cons, List.map_nil]); first | done | rfl) ?_; with_reducible refine (P1.out _).mono ?_; rintro e w3 ⟨rfl, hb⟩; refine ⟨_, rfl, ?_⟩; have m_H2 := Aside0.mk (H2.out.trans (hb.mono H2.out.size)); clear l0 l1 l2 l3 l4 l5 l6 l7 l8 l9 H2 hb; have H2 := m_H2; clear m_H2; obtain ⟨l0, l1, l2, l3, l4, l5, l6, l7, l8, l9⟩ := LD.out _ H2.out) | ((with_reducible refine gate_callee (f := 71) rfl ?_); refine goesL_ (some 51) rfl rfl Try.func71 (by kernel_rfl) rfl #[.agg cx.toArray] rfl (by (try simp only [List.map_toArray, List.map_cons, List.map_nil]); first | done | rfl) ?_; with_reducible refine (HR.out _).mono ?_; rintro e w3 ⟨rfl, hb⟩; refine ⟨_, rfl, ?_⟩; have m_H2 := Aside0.mk (H2.out.trans (hb.mono H2.out.size)); clear l0 l1 l2 l3 l4 l5 l6 l7 l8 l9 H2 hb; have H2 := m_H2; clear m_H2; obtain ⟨l0, l1, l2, l3, l4, l5, l6, l7, l8, l9⟩ := LD.out _ H2.out) | (go_at_call 40; (first | (with_reducible refine (B2.out _).mono ?_) | (with_reducible refine (B3.out _).mono ?_) | (with_reducible refine (P2.out _).mono ?_) | (with_reducible refine (P5.out _).mono ?_)); rintro e w3 ⟨rfl, hb⟩; have m_H2 := Aside0.mk (H2.out.trans (hb.mono H2.out.size)); clear l0 l1 l2 l3 l4 l5 l6 l7 l8 l9 H2 hb; have H2 := m_H2; clear m_H2; obtain ⟨l0, l1, l2, l3, l4, l5, l6, l7, l8, l9⟩ := LD.out _ H2.out) | (go_at_call 70; refine (HW.out _).mono ?_; rintro e w3 ⟨rfl, hb⟩; have m_H2 := Aside0.mk (H2.out.trans (hb.mono H2.out.size)); clear l0 l1 l2 l3 l4 l5 l6 l7 l8 l9 H2 hb; have H2 := m_H2; clear m_H2; obtain ⟨l0, l1, l2, l3, l4, l5, l6, l7, l8, l9⟩ := LD.out _ H2.out))
       go_ret
       exact ⟨by simp [chkV], HB.out.trans (H2.out.mono HB.out.size)⟩
   ·skip
    cases p1
    ·skip
     go_wp2_with (first | ((with_reducible refine gate_callee (f := 40) rfl ?_); refine goesL_ (some 11) rfl rfl Try.func40 (by kernel_rfl) rfl #[.int .i64 n5, .int .i64 0, .int .i64 65535] rfl (by (try simp only [List.map_toArray, List.map_cons, List.map_nil]); first | done | rfl) ?_; with_reducible refine (B1.out _).mono ?_; rintro e w3 ⟨rfl, hb⟩; refine ⟨_, rfl, ?_⟩; have m_H2 := Aside0.mk (H2.out.trans (hb.mono H2.out.size)); clear l0 l1 l2 l3 l4 l5 l6 l7 l8 l9 H2 hb; have H2 := m_H2; clear m_H2; obtain ⟨l0, l1, l2, l3, l4, l5, l6, l7, l8, l9⟩ := LD.out _ H2.out) | ((with_reducible refine gate_callee (f := 40) rfl ?_); refine goesL_ (some 25) rfl rfl Try.func40 (by kernel_rfl) rfl #[.int .i64 n0, .int .i64 0, .int .i64 99] rfl (by (try simp only [List.map_toArray, List.map_cons, List.map_nil]); first | done | rfl) ?_; with_reducible refine (P1.out _).mono ?_; rintro e w3 ⟨rfl, hb⟩; refine ⟨_, rfl, ?_⟩; have m_H2 := Aside0.mk (H2.out.trans (hb.mono H2.out.size)); clear l0 l1 l2 l3 l4 l5 l6 l7 l8 l9 H2 hb; have H2 := m_H2; clear m_H2; obtain ⟨l0, l1, l2, l3, l4, l5, l6, l7, l8, l9⟩ := LD.out _ H2.out) | ((with_reducible refine gate_callee (f := 71) rfl ?_); refine goesL_ (some 51) rfl rfl Try.func71 (by kernel_rfl) rfl #[.agg cx.toArray] rfl (by (try simp only [List.map_toArray, List.map_cons, List.map_nil]); first | done | rfl) ?_; with_reducible refine (HR.out _).mono ?_; rintro e w3 ⟨rfl, hb⟩; refine ⟨_, rfl, ?_⟩; have m_H2 := Aside0.mk (H2.out.trans (hb.mono H2.out.size)); clear l0 l1 l2 l3 l4 l5 l6 l7 l8 l9 H2 hb; have H2 := m_H2; clear m_H2; obtain ⟨l0, l1, l2, l3, l4, l5, l6, l7, l8, l9⟩ := LD.out _ H2.out) | (go_at_call 40; (first | (with_reducible refine (B2.out _).mono ?_) | (with_reducible refine (B3.out _).mono ?_) | (with_reducible refine (P2.out _).mono ?_) | (with_reducible refine (P5.out _).mono ?_)); rintro e w3 ⟨rfl, hb⟩; have m_H2 := Aside0.mk (H2.out.trans (hb.mono H2.out.size)); clear l0 l1 l2 l3 l4 l5 l6 l7 l8 l9 H2 hb; have H2 := m_H2; clear m_H2; obtain ⟨l0, l1, l2, l3, l4, l5, l6, l7, l8, l9⟩ := LD.out _ H2.out) | (go_at_call 70; refine (HW.out _).mono ?_; rintro e w3 ⟨rfl, hb⟩; have m_H2 := Aside0.mk (H2.out.trans (hb.mono H2.out.size)); clear l0 l1 l2 l3 l4 l5 l6 l7 l8 l9 H2 hb; have H2 := m_H2; clear m_H2; obtain ⟨l0, l1, l2, l3, l4, l5, l6, l7, l8, l9⟩ := LD.out _ H2.out))
     go_ret
     exact ⟨by simp [chkV], HB.out.trans (H2.out.mono HB.out.size)⟩
    ·skip
     cases p2
     ·skip
      go_wp2_with (first | ((with_reducible refine gate_callee (f := 40) rfl ?_); refine goesL_ (some 11) rfl rfl Try.func40 (by kernel_rfl) rfl #[.int .i64 n5, .int .i64 0, .int .i64 65535] rfl (by (try simp only [List.map_toArray, List.map_cons, List.map_nil]); first | done | rfl) ?_; with_reducible refine (B1.out _).mono ?_; rintro e w3 ⟨rfl, hb⟩; refine ⟨_, rfl, ?_⟩; have m_H2 := Aside0.mk (H2.out.trans (hb.mono H2.out.size)); clear l0 l1 l2 l3 l4 l5 l6 l7 l8 l9 H2 hb; have H2 := m_H2; clear m_H2; obtain ⟨l0, l1, l2, l3, l4, l5, l6, l7, l8, l9⟩ := LD.out _ H2.out) | ((with_reducible refine gate_callee (f := 40) rfl ?_); refine goesL_ (some 25) rfl rfl Try.func40 (by kernel_rfl) rfl #[.int .i64 n0, .int .i64 0, .int .i64 99] rfl (by (try simp only [List.map_toArray, List.map_cons, List.map_nil]); first | done | rfl) ?_; with_reducible refine (P1.out _).mono ?_; rintro e w3 ⟨rfl, hb⟩; refine ⟨_, rfl, ?_⟩; have m_H2 := Aside0.mk (H2.out.trans (hb.mono H2.out.size)); clear l0 l1 l2 l3 l4 l5 l6 l7 l8 l9 H2 hb; have H2 := m_H2; clear m_H2; obtain ⟨l0, l1, l2, l3, l4, l5, l6, l7, l8, l9⟩ := LD.out _ H2.out) | ((with_reducible refine gate_callee (f := 71) rfl ?_); refine goesL_ (some 51) rfl rfl Try.func71 (by kernel_rfl) rfl #[.agg cx.toArray] rfl (by (try simp only [List.map_toArray, List.map_cons, List.map_nil]); first | done | rfl) ?_; with_reducible refine (HR.out _).mono ?_; rintro e w3 ⟨rfl, hb⟩; refine ⟨_, rfl, ?_⟩; have m_H2 := Aside0.mk (H2.out.trans (hb.mono H2.out.size)); clear l0 l1 l2 l3 l4 l5 l6 l7 l8 l9 H2 hb; have H2 := m_H2; clear m_H2; obtain ⟨l0, l1, l2, l3, l4, l5, l6, l7, l8, l9⟩ := LD.out _ H2.out) | (go_at_call 40; (first | (with_reducible refine (B2.out _).mono ?_) | (with_reducible refine (B3.out _).mono ?_) | (with_reducible refine (P2.out _).mono ?_) | (with_reducible refine (P5.out _).mono ?_)); rintro e w3 ⟨rfl, hb⟩; have m_H2 := Aside0.mk (H2.out.trans (hb.mono H2.out.size)); clear l0 l1 l2 l3 l4 l5 l6 l7 l8 l9 H2 hb; have H2 := m_H2; clear m_H2; obtain ⟨l0, l1, l2, l3, l4, l5, l6, l7, l8, l9⟩ := LD.out _ H2.out) | (go_at_call 70; refine (HW.out _).mono ?_; rintro e w3 ⟨rfl, hb⟩; have m_H2 := Aside0.mk (H2.out.trans (hb.mono H2.out.size)); clear l0 l1 l2 l3 l4 l5 l6 l7 l8 l9 H2 hb; have H2 := m_H2; clear m_H2; obtain ⟨l0, l1, l2, l3, l4, l5, l6, l7, l8, l9⟩ := LD.out _ H2.out))
      go_ret
      exact ⟨by simp [chkV], HB.out.trans (H2.out.mono HB.out.size)⟩
     ·skip
      cases p3
      ·skip
       go_wp2_with (first | ((with_reducible refine gate_callee (f := 40) rfl ?_); refine goesL_ (some 11) rfl rfl Try.func40 (by kernel_rfl) rfl #[.int .i64 n5, .int .i64 0, .int .i64 65535] rfl (by (try simp only [List.map_toArray, List.map_cons, List.map_nil]); first | done | rfl) ?_; with_reducible refine (B1.out _).mono ?_; rintro e w3 ⟨rfl, hb⟩; refine ⟨_, rfl, ?_⟩; have m_H2 := Aside0.mk (H2.out.trans (hb.mono H2.out.size)); clear l0 l1 l2 l3 l4 l5 l6 l7 l8 l9 H2 hb; have H2 := m_H2; clear m_H2; obtain ⟨l0, l1, l2, l3, l4, l5, l6, l7, l8, l9⟩ := LD.out _ H2.out) | ((with_reducible refine gate_callee (f := 40) rfl ?_); refine goesL_ (some 25) rfl rfl Try.func40 (by kernel_rfl) rfl #[.int .i64 n0, .int .i64 0, .int .i64 99] rfl (by (try simp only [List.map_toArray, List.map_cons, List.map_nil]); first | done | rfl) ?_; with_reducible refine (P1.out _).mono ?_; rintro e w3 ⟨rfl, hb⟩; refine ⟨_, rfl, ?_⟩; have m_H2 := Aside0.mk (H2.out.trans (hb.mono H2.out.size)); clear l0 l1 l2 l3 l4 l5 l6 l7 l8 l9 H2 hb; have H2 := m_H2; clear m_H2; obtain ⟨l0, l1, l2, l3, l4, l5, l6, l7, l8, l9⟩ := LD.out _ H2.out) | ((with_reducible refine gate_callee (f := 71) rfl ?_); refine goesL_ (some 51) rfl rfl Try.func71 (by kernel_rfl) rfl #[.agg cx.toArray] rfl (by (try simp only [List.map_toArray, List.map_cons, List.map_nil]); first | done | rfl) ?_; with_reducible refine (HR.out _).mono ?_; rintro e w3 ⟨rfl, hb⟩; refine ⟨_, rfl, ?_⟩; have m_H2 := Aside0.mk (H2.out.trans (hb.mono H2.out.size)); clear l0 l1 l2 l3 l4 l5 l6 l7 l8 l9 H2 hb; have H2 := m_H2; clear m_H2; obtain ⟨l0, l1, l2, l3, l4, l5, l6, l7, l8, l9⟩ := LD.out _ H2.out) | (go_at_call 40; (first | (with_reducible refine (B2.out _).mono ?_) | (with_reducible refine (B3.out _).mono ?_) | (with_reducible refine (P2.out _).mono ?_) | (with_reducible refine (P5.out _).mono ?_)); rintro e w3 ⟨rfl, hb⟩; have m_H2 := Aside0.mk (H2.out.trans (hb.mono H2.out.size)); clear l0 l1 l2 l3 l4 l5 l6 l7 l8 l9 H2 hb; have H2 := m_H2; clear m_H2; obtain ⟨l0, l1, l2, l3, l4, l5, l6, l7, l8, l9⟩ := LD.out _ H2.out) | (go_at_call 70; refine (HW.out _).mono ?_; rintro e w3 ⟨rfl, hb⟩; have m_H2 := Aside0.mk (H2.out.trans (hb.mono H2.out.size)); clear l0 l1 l2 l3 l4 l5 l6 l7 l8 l9 H2 hb; have H2 := m_H2; clear m_H2; obtain ⟨l0, l1, l2, l3, l4, l5, l6, l7, l8, l9⟩ := LD.out _ H2.out))
       go_ret
       exact ⟨by simp [chkV], HB.out.trans (H2.out.mono HB.out.size)⟩
      ·skip
       cases p5
       ·skip
        go_wp2_with (first | ((with_reducible refine gate_callee (f := 40) rfl ?_); refine goesL_ (some 11) rfl rfl Try.func40 (by kernel_rfl) rfl #[.int .i64 n5, .int .i64 0, .int .i64 65535] rfl (by (try simp only [List.map_toArray, List.map_cons, List.map_nil]); first | done | rfl) ?_; with_reducible refine (B1.out _).mono ?_; rintro e w3 ⟨rfl, hb⟩; refine ⟨_, rfl, ?_⟩; have m_H2 := Aside0.mk (H2.out.trans (hb.mono H2.out.size)); clear l0 l1 l2 l3 l4 l5 l6 l7 l8 l9 H2 hb; have H2 := m_H2; clear m_H2; obtain ⟨l0, l1, l2, l3, l4, l5, l6, l7, l8, l9⟩ := LD.out _ H2.out) | ((with_reducible refine gate_callee (f := 40) rfl ?_); refine goesL_ (some 25) rfl rfl Try.func40 (by kernel_rfl) rfl #[.int .i64 n0, .int .i64 0, .int .i64 99] rfl (by (try simp only [List.map_toArray, List.map_cons, List.map_nil]); first | done | rfl) ?_; with_reducible refine (P1.out _).mono ?_; rintro e w3 ⟨rfl, hb⟩; refine ⟨_, rfl, ?_⟩; have m_H2 := Aside0.mk (H2.out.trans (hb.mono H2.out.size)); clear l0 l1 l2 l3 l4 l5 l6 l7 l8 l9 H2 hb; have H2 := m_H2; clear m_H2; obtain ⟨l0, l1, l2, l3, l4, l5, l6, l7, l8, l9⟩ := LD.out _ H2.out) | ((with_reducible refine gate_callee (f := 71) rfl ?_); refine goesL_ (some 51) rfl rfl Try.func71 (by kernel_rfl) rfl #[.agg cx.toArray] rfl (by (try simp only [List.map_toArray, List.map_cons, List.map_nil]); first | done | rfl) ?_; with_reducible refine (HR.out _).mono ?_; rintro e w3 ⟨rfl, hb⟩; refine ⟨_, rfl, ?_⟩; have m_H2 := Aside0.mk (H2.out.trans (hb.mono H2.out.size)); clear l0 l1 l2 l3 l4 l5 l6 l7 l8 l9 H2 hb; have H2 := m_H2; clear m_H2; obtain ⟨l0, l1, l2, l3, l4, l5, l6, l7, l8, l9⟩ := LD.out _ H2.out) | (go_at_call 40; (first | (with_reducible refine (B2.out _).mono ?_) | (with_reducible refine (B3.out _).mono ?_) | (with_reducible refine (P2.out _).mono ?_) | (with_reducible refine (P5.out _).mono ?_)); rintro e w3 ⟨rfl, hb⟩; have m_H2 := Aside0.mk (H2.out.trans (hb.mono H2.out.size)); clear l0 l1 l2 l3 l4 l5 l6 l7 l8 l9 H2 hb; have H2 := m_H2; clear m_H2; obtain ⟨l0, l1, l2, l3, l4, l5, l6, l7, l8, l9⟩ := LD.out _ H2.out) | (go_at_call 70; refine (HW.out _).mono ?_; rintro e w3 ⟨rfl, hb⟩; have m_H2 := Aside0.mk (H2.out.trans (hb.mono H2.out.size)); clear l0 l1 l2 l3 l4 l5 l6 l7 l8 l9 H2 hb; have H2 := m_H2; clear m_H2; obtain ⟨l0, l1, l2, l3, l4, l5, l6, l7, l8, l9⟩ := LD.out _ H2.out))
        go_ret
        exact ⟨by simp [chkV], HB.out.trans (H2.out.mono HB.out.size)⟩
       ·skip
        go_wp2_with (first | ((with_reducible refine gate_callee (f := 40) rfl ?_); refine goesL_ (some 11) rfl rfl Try.func40 (by kernel_rfl) rfl #[.int .i64 n5, .int .i64 0, .int .i64 65535] rfl (by (try simp only [List.map_toArray, List.map_cons, List.map_nil]); first | done | rfl) ?_; with_reducible refine (B1.out _).mono ?_; rintro e w3 ⟨rfl, hb⟩; refine ⟨_, rfl, ?_⟩; have m_H2 := Aside0.mk (H2.out.trans (hb.mono H2.out.size)); clear l0 l1 l2 l3 l4 l5 l6 l7 l8 l9 H2 hb; have H2 := m_H2; clear m_H2; obtain ⟨l0, l1, l2, l3, l4, l5, l6, l7, l8, l9⟩ := LD.out _ H2.out) | ((with_reducible refine gate_callee (f := 40) rfl ?_); refine goesL_ (some 25) rfl rfl Try.func40 (by kernel_rfl) rfl #[.int .i64 n0, .int .i64 0, .int .i64 99] rfl (by (try simp only [List.map_toArray, List.map_cons, List.map_nil]); first | done | rfl) ?_; with_reducible refine (P1.out _).mono ?_; rintro e w3 ⟨rfl, hb⟩; refine ⟨_, rfl, ?_⟩; have m_H2 := Aside0.mk (H2.out.trans (hb.mono H2.out.size)); clear l0 l1 l2 l3 l4 l5 l6 l7 l8 l9 H2 hb; have H2 := m_H2; clear m_H2; obtain ⟨l0, l1, l2, l3, l4, l5, l6, l7, l8, l9⟩ := LD.out _ H2.out) | ((with_reducible refine gate_callee (f := 71) rfl ?_); refine goesL_ (some 51) rfl rfl Try.func71 (by kernel_rfl) rfl #[.agg cx.toArray] rfl (by (try simp only [List.map_toArray, List.map_cons, List.map_nil]); first | done | rfl) ?_; with_reducible refine (HR.out _).mono ?_; rintro e w3 ⟨rfl, hb⟩; refine ⟨_, rfl, ?_⟩; have m_H2 := Aside0.mk (H2.out.trans (hb.mono H2.out.size)); clear l0 l1 l2 l3 l4 l5 l6 l7 l8 l9 H2 hb; have H2 := m_H2; clear m_H2; obtain ⟨l0, l1, l2, l3, l4, l5, l6, l7, l8, l9⟩ := LD.out _ H2.out) | (go_at_call 40; (first | (with_reducible refine (B2.out _).mono ?_) | (with_reducible refine (B3.out _).mono ?_) | (with_reducible refine (P2.out _).mono ?_) | (with_reducible refine (P5.out _).mono ?_)); rintro e w3 ⟨rfl, hb⟩; have m_H2 := Aside0.mk (H2.out.trans (hb.mono H2.out.size)); clear l0 l1 l2 l3 l4 l5 l6 l7 l8 l9 H2 hb; have H2 := m_H2; clear m_H2; obtain ⟨l0, l1, l2, l3, l4, l5, l6, l7, l8, l9⟩ := LD.out _ H2.out) | (go_at_call 70; refine (HW.out _).mono ?_; rintro e w3 ⟨rfl, hb⟩; have m_H2 := Aside0.mk (H2.out.trans (hb.mono H2.out.size)); clear l0 l1 l2 l3 l4 l5 l6 l7 l8 l9 H2 hb; have H2 := m_H2; clear m_H2; obtain ⟨l0, l1, l2, l3, l4, l5, l6, l7, l8, l9⟩ := LD.out _ H2.out))
        go_ret
        refine ⟨by simp [chkV], ?_⟩
        have HE := Aside0.mk (HB.out.trans (H2.out.mono HB.out.size))
        repeat (first | (with_reducible exact HE.out) | apply below_alloc | refine below_set ?_ HE.out.size)
end Go.Proofs.Ytiodebjjbgcbhaa.Inp
