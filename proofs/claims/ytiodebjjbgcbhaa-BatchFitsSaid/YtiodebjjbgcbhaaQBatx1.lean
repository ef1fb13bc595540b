/- coraclelaw17.awake answers true. -/
import Derived.Test.YtiodebjjbgcbhaaProg
import Derived.Below
import Derived.Deep.Draws
import Derived.Deep.AppendLies
import Derived.Maps.AppendAt
import Derived.OwnWalk
import Derived.Laws.BytesArg
import Derived.Laws.MakeOwn
import Derived.Laws.OwnMore
import Derived.Deep.OwnRows
import Derived.Tactics
import Derived.Lib.ConvBytes
import Derived.Laws.Slices
import Derived.WalkKit
import Derived.KernelRfl
import Derived.RowKit3
import Derived.Deep.LoopGhost
import Derived.Deep.QuietTactic
import Derived.BigQuiet
import Derived.WideLaws
import Derived.Deep.DeepCutAuto
import Derived.Deep.CutBlock
import Derived.Deep.RegionHeld3
import Derived.Laws.Rows
import Derived.Lib.AppendStr
import Derived.ArgAppend
import Derived.Laws.IdiomCopy
import Derived.OrdersHeld
import Derived.Laws.BitsLemmas
import Derived.RowKit
import Derived.Test.YtiodebjjbgcbhaaBatL
import Derived.Test.YtiodebjjbgcbhaaGoto
import Derived.Test.YtiodebjjbgcbhaaFltE
import Derived.Test.YtiodebjjbgcbhaaFindQ
import Derived.Test.YtiodebjjbgcbhaaWGuard
import Derived.Test.YtiodebjjbgcbhaaCloneQ
import Derived.Test.YtiodebjjbgcbhaaPutW
import Derived.Test.YtiodebjjbgcbhaaSortO
import Derived.Test.YtiodebjjbgcbhaaDelB
import Derived.Test.YtiodebjjbgcbhaaEqP
import Derived.Test.YtiodebjjbgcbhaaWWords
import Derived.Test.YtiodebjjbgcbhaaWLast
import Derived.Test.YtiodebjjbgcbhaaWFour
import Derived.Test.YtiodebjjbgcbhaaWAt
import Derived.Test.YtiodebjjbgcbhaaWInvWords
import Derived.Test.YtiodebjjbgcbhaaWMore
namespace Go.Proofs.Ytiodebjjbgcbhaa.Inp
open Go.RowKit Go.Sort Go.Lib Go.Shelf Go.Proofs.Ytiodebjjbgcbhaa Go.Proofs.Ytiodebjjbgcbhaa.Hand Go.Proofs.YtiodebjjbgcbhaaW.PrintWords Go.Proofs.YtiodebjjbgcbhaaW.PrintLast Go.Proofs.YtiodebjjbgcbhaaW.PrintMore Go.Proofs.Ytiodebjjbgcbhaa.RowK Go.Proofs.Ytiodebjjbgcbhaa.Fill Go.Proofs.Ytiodebjjbgcbhaa.OrdO Go.Proofs.Ytiodebjjbgcbhaa.QLef Go.Proofs.Ytiodebjjbgcbhaa.LefL
attribute [local go_sem ↓ high] Wide.hv44 Wide.hv33 Wide.hv37
set_option linter.unusedVariables false
set_option linter.unusedSectionVars false
set_option linter.unusedSimpArgs false
theorem cells_row {α : Type} {enc : α → List Value} {kk : Nat} (hk : ∀ x, (enc x).length = kk) {w : World} {g t : Nat} {l : List α} (hl : l.length < 1000000) (h : w.heap[g]? = some (.cells (l.flatMap enc).toArray t (0, 0))) : ReadsRow (fun x c => c = enc x) kk w (some ⟨g, 0, none⟩) l.length l := by
 refine ⟨rfl, by omega, fun _ => ⟨⟨g, 0, none⟩, rfl, fun j x hx => ⟨enc x, hk x, rfl, fun i u hu => ?_⟩⟩⟩
 have hj := (List.getElem?_eq_some_iff.1 hx).1
 have hxj := (List.getElem?_eq_some_iff.1 hx).2
 have hch := DelB.flat_chunk enc kk l (fun y _ => hk y) j hj
 rw [hxj] at hch
 have hi : i < kk := by have := (List.getElem?_eq_some_iff.1 hu).1; rwa [hk] at this
 rw [← hch, List.getElem?_take_of_lt hi, List.getElem?_drop] at hu
 rw [Addr.add_lit, Nat.zero_add]
 exact cell_of_block h _ _ hu
theorem row68 {w : World} {A : Option Addr} {n : Nat} {l : List S68} (h : ReadsRow (fun x c => c = J68.enc x) 44 w A n l) : Kd.C k68 w A n l :=
 ReadsRow.imp_ h (Below.refl _ w) (fun x c e => by subst e; exact k68_mk w x)
theorem first39 {w : World} {base : Nat} {v : Value} {b : S39} (h : Kd.R k39 39 w base (fun _ => True) v [b]) : ∃ (g c : Nat) (cells : Array Value) (A0 : Option Addr) (c0 : Nat), v = .slice (some ⟨g, 0, none⟩) 1 c ∧ w.heap[g]? = some (.cells cells 39 (0, 0)) ∧ cells[0]? = some (.slice A0 b.f0.f0.length c0) := by
 obtain ⟨A, c, rfl⟩ := Kd.R_slice h
 obtain ⟨ad, A0, c0, A1, c1, eA, hc, _⟩ := at_T39 (Kd.R_reads' h).2.2 0 (by decide) (by simp)
 subst eA
 obtain ⟨inner, ho⟩ := Kd.R_own h
 rcases ho.2 with ⟨e, _⟩ | ⟨g, cap, cur, e, _, hg, _⟩
 ·cases e
 ·injection e with e1 e2 e3
  injection e1 with e1
  subst e1
  refine ⟨g, c, cur, A0, c0, rfl, hg, ?_⟩
  have h1 := blk_cell hg 0
  rw [← h1]
  have e : rd_T39 [b] 0 = b := rfl
  rw [e] at hc
  simpa [Addr.add] using hc
def awL : List S68 := [one68 1 100000 50000, one68 2 100000 50000]
def awM : List S90 := [to90 (one68 1 100000 50000), to90 (one68 2 100000 50000)]
def awN : List S90 := [to90 (one68 1 100000 50000), to90 (one68 2 100000 50000), to90 (one68 1 100000 50000)]
theorem aw_mades : coraclelaw17_mades.f 5 awL = some awM := by kernel_rfl
theorem aw_1 : (match allC I90 awM 5 400000 1 with | ([b], e) => decide (b.f0.f0.length = 2 ∧ e = 0) | _ => false) = true := by kernel_rfl
theorem aw_2 : allC I90 awM (-1) 400000 1 = ([], 1) := by kernel_rfl
theorem aw_3 : allC I90 awN 5 400000 1 = ([], 6) := by kernel_rfl
theorem aw_4 : makeC I90 [] 300 1 = none := by kernel_rfl
theorem aw_5 : chkC I90 z90 = 1 := by kernel_rfl
theorem aw_6 : (awN.all keyB) = true := by kernel_rfl
theorem aw_7 : (awM.all keyB) = true := by kernel_rfl
theorem aw_some : ∃ b, allC I90 awM 5 400000 1 = ([b], 0) ∧ b.f0.f0.length = 2 := by
 have h := aw_1
 split at h
 ·rename_i b e heq
  have h2 := of_decide_eq_true h
  exact ⟨b, by rw [heq, h2.2], h2.1⟩
 ·cases h
set_option maxHeartbeats 16000000 in
set_option maxRecDepth 100000 in
theorem awake_calls (w : World) :
 Calls Try.prog 18 #[] w fun e w' => e = .returned (.bool true) ∧ Below w.heap.size w w' := by
 have hu90 := Try.underlying90
 have hu39 := Try.underlying39
 have HB := Aside0.mk (Below.refl w.heap.size w)
 obtain ⟨b, hb1, hb2⟩ := aw_some
 have BL := Aside0.mk hb2
 have CM := Aside0.mk (fun (W : World) (A : Option Addr) (hr : Kd.C k68 W A 2 awL) => coraclelaw17_mades.calls 5 A 2 awL awM W hr (Nat.le_refl _) aw_mades)
 have CA1 := Aside0.mk (fun (W : World) (A : Option Addr) (c : Nat) (hr : Kd.C k90 W A 2 awM) => (by have h := all90 (c := c) (l := awM) hr (by decide) aw_7 5 400000 1; rw [hb1] at h; exact h : Calls Try.prog 19 #[.slice A 2 c, .int .i64 5, .int .i64 400000, .int .i64 1] W fun e w' => AllR W e w' ([b], 0)))
 have CA2 := Aside0.mk (fun (W : World) (A : Option Addr) (c : Nat) (hr : Kd.C k90 W A 2 awM) => (by have h := all90 (c := c) (l := awM) hr (by decide) aw_7 (-1) 400000 1; rw [aw_2] at h; exact h : Calls Try.prog 19 #[.slice A 2 c, .int .i64 (-1), .int .i64 400000, .int .i64 1] W fun e w' => AllR W e w' ([], 1)))
 have CA3 := Aside0.mk (fun (W : World) (A : Option Addr) (c : Nat) (hr : Kd.C k90 W A 3 awN) => (by have h := all90 (c := c) (l := awN) hr (by decide) aw_6 5 400000 1; rw [aw_3] at h; exact h : Calls Try.prog 19 #[.slice A 3 c, .int .i64 5, .int .i64 400000, .int .i64 1] W fun e w' => AllR W e w' ([], 6)))
 have CK := Aside0.mk (fun (W : World) => (by have h := make90 (w := W) (A := none) (c := 0) (l := []) ⟨rfl, Nat.zero_le _, fun h => absurd h (Nat.lt_irrefl _)⟩ (by decide) 300 1; rw [aw_4] at h; exact h : Calls Try.prog 38 #[.slice none 0 0, .int .i64 300, .int .i64 1] W fun e w' => Made W e w' none))
 have CC := Aside0.mk (fun (W : World) => (by have h := checkedC I90 z90 W; rw [aw_5] at h; exact h : Calls Try.prog 39 #[.agg #[.int .u8 0, .int .u8 0, .int .u8 0, .int .u8 0, .int .u8 0, .int .u8 0, .int .u8 0, .int .u8 0, .int .u8 0, .int .u8 0, .int .u8 0, .int .u8 0, .int .u8 0, .int .u8 0, .int .u8 0, .int .u8 0, .int .u8 0, .int .u8 0, .int .u8 0, .int .u8 0, .int .u8 0, .int .u8 0, .int .u8 0, .int .u8 0, .int .u8 0, .int .u8 0, .int .u8 0, .int .u8 0, .int .u8 0, .int .u8 0, .int .u8 0, .int .u8 0, .int .i64 0, .int .i64 0, .int .i64 0, .int .i64 0, .string ⟨#[]⟩, .int .i64 0, .int .i64 0, .int .i64 0, .int .i64 0, .int .i64 0, .int .i64 0, .int .i64 0]] W fun e w' => e = .returned (.int .i64 1) ∧ Below W.heap.size W w'))
 clear hb1 hb2
 have HX := Aside0.mk (And.intro (J68.hk (one68 1 100000 50000)) (J68.hk (one68 2 100000 50000)))
 have O1 := Aside0.mk (one_calls' 1 100000 50000)
 have O2 := Aside0.mk (one_calls' 2 100000 50000)
 have FL := Aside0.mk (show J68.enc (one68 1 100000 50000) ++ J68.enc (one68 2 100000 50000) = awL.flatMap J68.enc by simp [awL])
 generalize J68.enc (one68 1 100000 50000) = c1 at HX O1 FL
 generalize J68.enc (one68 2 100000 50000) = c2 at HX O2 FL
 have AP := Aside0.mk (show awN = awM ++ [to90 (one68 1 100000 50000)] from rfl)
 have AT := Aside0.mk (show awM[0]? = some (to90 (one68 1 100000 50000)) from rfl)
 have I1 := Aside0.mk (show (I90.enc (to90 (one68 1 100000 50000))).length = 44 ∧ ∀ (w : World) (base : Nat) (ok : Nat → Prop), k90.M w base ok (to90 (one68 1 100000 50000)) (I90.enc (to90 (one68 1 100000 50000))) from ⟨I90.hk _, fun w base ok => k90_mkM w base ok _⟩)
 have LD := Aside0.mk (fun (W : World) (ad : Addr) (c : Nat) (hr : Kd.C k90 W (some ad) 2 awM) => (by have h := reads_at I90 (W := W) (reads90 hr) (Below.refl _ _) rfl (j := 0) (x := to90 (one68 1 100000 50000)) rfl; rwa [show ad.add (0 * 44) = ad by simp [Addr.add]] at h : Sem.run Try.prog (Wide.heavy0 ad 44) W = .ok (I90.enc (to90 (one68 1 100000 50000))).toArray W))
 generalize I90.enc (to90 (one68 1 100000 50000)) = cx at LD I1
 go_enter Try.func18, Try.ntmps18
 go_wp2_with (first | ((with_reducible refine gate_callee (f := 25) rfl ?_); refine goesL_ (some 10) rfl rfl Try.func25 (by kernel_rfl) rfl #[.int .i64 1, .int .i64 100000, .int .i64 50000] rfl (by (try simp only [List.map_toArray, List.map_cons, List.map_nil]); first | done | rfl) ?_; refine (O1.out _).mono ?_; rintro e w2 ⟨rfl, hb⟩; refine ⟨_, rfl, ?_⟩; have m_HB := Aside0.mk (below_step HB.out hb); clear HB; have HB := m_HB; clear m_HB; clear hb) | ((with_reducible refine gate_callee (f := 25) rfl ?_); refine goesL_ (some 11) rfl rfl Try.func25 (by kernel_rfl) rfl #[.int .i64 2, .int .i64 100000, .int .i64 50000] rfl (by (try simp only [List.map_toArray, List.map_cons, List.map_nil]); first | done | rfl) ?_; refine (O2.out _).mono ?_; rintro e w3 ⟨rfl, hb⟩; refine ⟨_, rfl, ?_⟩; have m_HB := Aside0.mk (below_step HB.out hb); clear HB; have HB := m_HB; clear m_HB; clear hb) | ((with_reducible refine gate_dst (N := 12) rfl ?_); refine Kd.event_run (v := .slice (some ⟨w3.heap.size, 0, none⟩) 2 2) (w1 := w3.alloc (.cells (c1 ++ c2).toArray 68)) ?hg ?hr ?_; (case hg => rfl); (case hr => clear O1 O2 FL; obtain ⟨q0, q1, q2, q3, q4, q5, q6, q7, q8, q9, q10, q11, q12, q13, q14, q15, q16, q17, q18, q19, q20, q21, q22, q23, q24, q25, q26, q27, q28, q29, q30, q31, q32, q33, q34, q35, q36, q37, q38, q39, q40, q41, q42, q43, rfl⟩ := list44 HX.out.1; obtain ⟨p0, p1, p2, p3, p4, p5, p6, p7, p8, p9, p10, p11, p12, p13, p14, p15, p16, p17, p18, p19, p20, p21, p22, p23, p24, p25, p26, p27, p28, p29, p30, p31, p32, p33, p34, p35, p36, p37, p38, p39, p40, p41, p42, p43, rfl⟩ := list44 HX.out.2; first | (go_simp; done) | (go_simp; rfl)); have B12 := Aside0.mk (blk_new w3 (.cells (c1 ++ c2).toArray 68)); have hb := below_alloc (Below.refl w3.heap.size w3) (.cells (c1 ++ c2).toArray 68); rw [FL.out] at B12 hb; have m_HB := Aside0.mk (below_step HB.out hb); clear HB; have HB := m_HB; clear m_HB; clear hb; obtain ⟨g12, hg12⟩ : ∃ g, w3.heap.size = g := ⟨_, rfl⟩; rw [hg12] at B12 ⊢; clear hg12; rw [FL.out]; generalize w3.alloc (.cells (awL.flatMap J68.enc).toArray 68) = w4 at HB B12 ⊢; clear HX O1 O2 FL) | ((with_reducible refine gate_callee (f := 20) rfl ?_); refine goesL_ (some 13) rfl rfl Try.func20 (by kernel_rfl) rfl #[.slice (some ⟨g12, 0, none⟩) 2 2] rfl (by (try simp only [List.map_toArray, List.map_cons, List.map_nil]); first | done | rfl) ?_; refine (CM.out _ _ (row68 (cells_row J68.hk (by decide) B12.out))).mono ?_; rintro e w5 ⟨v13, rfl, h13, hb⟩; refine ⟨_, rfl, ?_⟩; have H13 := Aside0.mk (Kd.R_lower h13 HB.out.size); clear h13 B12; obtain ⟨A13, c13, e13⟩ := Kd.R_slice H13.out; replace e13 : v13 = .slice A13 2 c13 := e13; subst e13; obtain ⟨ad, eA, _⟩ := (Kd.R_reads' H13.out).2.2.2.2 (by decide); subst eA; have m_HB := Aside0.mk (below_step HB.out hb); clear HB; have HB := m_HB; clear m_HB; clear hb) | ((with_reducible refine gate_callee (f := 19) rfl ?_); refine goesL_ (some 16) rfl rfl Try.func19 (by kernel_rfl) rfl #[.slice (some ad) 2 c13, .int .i64 5, .int .i64 400000, .int .i64 1] rfl (by (try simp only [List.map_toArray, List.map_cons, List.map_nil]); first | done | rfl) ?_; refine (CA1.out _ _ _ (Kd.R_reads' H13.out).2.2).mono ?_; rintro e w6 ⟨v16, rfl, h16, hb⟩; refine ⟨_, rfl, ?_⟩; have H16 := Aside0.mk (Kd.R_lower h16 HB.out.size); clear h16; obtain ⟨g16, c16, cs16, A0, c0, e16, hb16, hd16⟩ := first39 H16.out; subst e16; replace hd16 : cs16[0]? = some (.slice A0 2 c0) := (by rw [← BL.out]; exact hd16); have D16 := Aside0.mk hd16; clear H16 hd16; have H16 := Aside0.mk hb16; clear hb16; have m_HB := Aside0.mk (below_step HB.out hb); have m_H13 := Aside0.mk (Kd.R_below H13.out hb); clear HB H13; have HB := m_HB; have H13 := m_H13; clear m_HB m_H13; clear hb) | ((with_reducible refine gate_callee (f := 19) rfl ?_); refine goesL_ (some 21) rfl rfl Try.func19 (by kernel_rfl) rfl #[.slice (some ad) 2 c13, .int .i64 (-1), .int .i64 400000, .int .i64 1] rfl (by (try simp only [List.map_toArray, List.map_cons, List.map_nil]); first | done | rfl) ?_; refine (CA2.out _ _ _ (Kd.R_reads' H13.out).2.2).mono ?_; rintro e w7 ⟨v21, rfl, h21, hb⟩; refine ⟨_, rfl, ?_⟩; clear h21; have m_HB := Aside0.mk (below_step HB.out hb); have m_H13 := Aside0.mk (Kd.R_below H13.out hb); have m_H16 := Aside0.mk (blk_below H16.out hb); clear HB H13 H16; have HB := m_HB; have H13 := m_H13; have H16 := m_H16; clear m_HB m_H13 m_H16; clear hb; have hl28 := LD.out _ ad c13 (Kd.R_reads' H13.out).2.2) | ((with_reducible refine gate_dst (N := 29) rfl ?_); refine Kd.event_run (v := .slice (some ⟨w7.heap.size, 0, none⟩) 1 1) (w1 := w7.alloc (.cells cx.toArray 90)) ?hg ?hr ?_; (case hg => rfl); (case hr => clear LD hl28; obtain ⟨q0, q1, q2, q3, q4, q5, q6, q7, q8, q9, q10, q11, q12, q13, q14, q15, q16, q17, q18, q19, q20, q21, q22, q23, q24, q25, q26, q27, q28, q29, q30, q31, q32, q33, q34, q35, q36, q37, q38, q39, q40, q41, q42, q43, rfl⟩ := list44 I1.out.1; first | (go_simp; done) | (go_simp; rfl)); clear hl28 LD) | ((with_reducible refine gate_builtin (b := .append) (xs := #[.tmp 25, .tmp 29]) rfl ?_); at_builtin; refine Kd.R_append k90 (w0 := w) (W := w7) w.heap.size rfl (.tmp 25) (.tmp 29) 57 90 (.agg #[(.int .u8 0), (.int .u8 0), (.int .u8 0), (.int .u8 0), (.int .u8 0), (.int .u8 0), (.int .u8 0), (.int .u8 0), (.int .u8 0), (.int .u8 0), (.int .u8 0), (.int .u8 0), (.int .u8 0), (.int .u8 0), (.int .u8 0), (.int .u8 0), (.int .u8 0), (.int .u8 0), (.int .u8 0), (.int .u8 0), (.int .u8 0), (.int .u8 0), (.int .u8 0), (.int .u8 0), (.int .u8 0), (.int .u8 0), (.int .u8 0), (.int .u8 0), (.int .u8 0), (.int .u8 0), (.int .u8 0), (.int .u8 0), (.int .i64 0), (.int .i64 0), (.int .i64 0), (.int .i64 0), (.string ⟨#[]⟩), (.int .i64 0), (.int .i64 0), (.int .i64 0), (.int .i64 0), (.int .i64 0), (.int .i64 0), (.int .i64 0)]) 136 rfl Try.underlying57 info90 rfl (by decide) (by omega) (.slice (some ad) 2 c13) awM (to90 (one68 1 100000 50000)) cx (fun _ => True) (fun _ => False) rfl rfl (I1.out.2 _ _ _) (fun _ h => h.elim) (fun _ _ => trivial) H13.out HB.out HB.out.size (by decide) ?_; intro v30 w8 hv hb hg hat; rw [← AP.out] at hv; have m_H16 := Aside0.mk (blk_grown H16.out hg (Kd.R_ne H13.out H16.out (by decide))); clear H13 H16 HB hg hat; have H30 := Aside0.mk hv; have HB := Aside0.mk hb; have H16 := m_H16; clear m_H16 hv hb; obtain ⟨A30, c30, e30⟩ := Kd.R_slice H30.out; replace e30 : v30 = .slice A30 3 c30 := e30; subst e30) | ((with_reducible refine gate_callee (f := 19) rfl ?_); refine goesL_ (some 31) rfl rfl Try.func19 (by kernel_rfl) rfl #[.slice A30 3 c30, .int .i64 5, .int .i64 400000, .int .i64 1] rfl (by (try simp only [List.map_toArray, List.map_cons, List.map_nil]); first | done | rfl) ?_; refine (CA3.out _ _ _ (Kd.R_reads' H30.out).2.2).mono ?_; rintro e w9 ⟨v31, rfl, h31, hb⟩; refine ⟨_, rfl, ?_⟩; clear h31 H30; have m_HB := Aside0.mk (below_step HB.out hb); have m_H16 := Aside0.mk (blk_below H16.out hb); clear HB H16; have HB := m_HB; have H16 := m_H16; clear m_HB m_H16; clear hb) | ((with_reducible refine gate_callee (f := 38) rfl ?_); refine goesL_ (some 35) rfl rfl Try.func38 (by kernel_rfl) rfl #[.slice none 0 0, .int .i64 300, .int .i64 1] rfl (by (try simp only [List.map_toArray, List.map_cons, List.map_nil]); first | done | rfl) ?_; refine (CK.out _).mono ?_; rintro e w10 ⟨m0, m1, rfl, hm0, hm1, hb⟩; refine ⟨_, rfl, ?_⟩; obtain ⟨B0, d0, f0⟩ := Kd.R_slice hm0; replace f0 : m0 = .slice B0 0 d0 := f0; subst f0; obtain ⟨B1, d1, f1⟩ := Kd.R_slice hm1; replace f1 : m1 = .slice B1 0 d1 := f1; subst f1; clear hm0 hm1; have m_HB := Aside0.mk (below_step HB.out hb); have m_H16 := Aside0.mk (blk_below H16.out hb); clear HB H16; have HB := m_HB; have H16 := m_H16; clear m_HB m_H16; clear hb) | ((with_reducible refine gate_dst (N := 8) rfl ?_); refine Fill.fill_event (N := 8) (x := 36) (cs := #[.slice B0 0 d0, .slice B1 0 d1, .int .i64 0, .int .i64 0, .int .i64 0]) (t := 39) rfl rfl rfl rfl rfl rfl Try.zeroValue39 ?fs ?fz ?f1 (fun _ => rfl) (fun _ => rfl) ?_; (case fs => exact fun W => Try.sizeOf39 W); (case fz => rfl); (case f1 => rfl); intro g8 hg8 w11 hbox hb; clear hbox hg8; have m_HB := Aside0.mk (below_step HB.out hb); have m_H16 := Aside0.mk (blk_below H16.out hb); clear HB H16; have HB := m_HB; have H16 := m_H16; clear m_HB m_H16; clear hb; have hc16 : w11.cell? ⟨g16, 0, none⟩ = some (.slice A0 2 c0) := (blk_cell H16.out 0).trans D16.out) | (go_at_call 39; refine (CC.out _).mono ?_; rintro e w12 ⟨rfl, hb⟩; clear hc16; have m_HB := Aside0.mk (below_step HB.out hb); clear HB; have HB := m_HB; clear m_HB; clear hb))
 go_ret
 exact ⟨rfl, HB.out⟩
end Go.Proofs.Ytiodebjjbgcbhaa.Inp
/- Functions of the program as plain Lean functions, and that its calls come to what these tell: written by a program of this session; Lean checks it. -/
namespace Go.Proofs.Ytiodebjjbgcbhaa.QBat
open Go.RowKit Go.Proofs.Ytiodebjjbgcbhaa.Hand Go.Proofs.YtiodebjjbgcbhaaW.PrintWords Go.Proofs.YtiodebjjbgcbhaaW.PrintLast Go.Proofs.YtiodebjjbgcbhaaW.PrintMore Go.Proofs.Ytiodebjjbgcbhaa.QLef
attribute [local go_sem] max2_int min2_int max_two min_two max_three min_three max_four min_four run_equalIn_c run_fop run_feq run_fne run_flt run_fle run_fgt run_fge run_fint run_toi run_real' run_imag' run_complex' run_ceq run_cne run_cadd run_csub Wide.cellsAt_drewN Wide.cellsAt_drew Wide.lw32 Wide.lw33 Wide.lw37 Wide.lw38 Wide.lw39 Wide.lw44
attribute [local go_sem ↓ high] Wide.hv32 Wide.hv33 Wide.hv37 Wide.hv38 Wide.hv39 Wide.hv44
set_option linter.unusedVariables false
set_option linter.unusedSimpArgs false
theorem info68 : (Try.prog.info? 68).map (fun i => (i.zero, i.size, i.bytes)) = some (some (.agg #[(.int .u8 0), (.int .u8 0), (.int .u8 0), (.int .u8 0), (.int .u8 0), (.int .u8 0), (.int .u8 0), (.int .u8 0), (.int .u8 0), (.int .u8 0), (.int .u8 0), (.int .u8 0), (.int .u8 0), (.int .u8 0), (.int .u8 0), (.int .u8 0), (.int .u8 0), (.int .u8 0), (.int .u8 0), (.int .u8 0), (.int .u8 0), (.int .u8 0), (.int .u8 0), (.int .u8 0), (.int .u8 0), (.int .u8 0), (.int .u8 0), (.int .u8 0), (.int .u8 0), (.int .u8 0), (.int .u8 0), (.int .u8 0), (.int .i64 0), (.int .i64 0), (.int .i64 0), (.int .i64 0), (.string ⟨#[]⟩), (.int .i64 0), (.int .i64 0), (.int .i64 0), (.int .i64 0), (.int .i64 0), (.int .i64 0), (.int .i64 0)]), 44, 136) := by kernel_rfl
-- the values' own types
/-! #### struct type 39 -/
theorem k39_openF {W : World} {ok : Nat → Prop} {x : S39} {cs : List Value} (h : Kd.FK k39 W ok x cs) : ∃ A0 c0 A1 c1, cs = [.slice A0 x.f0.f0.length c0, .slice A1 x.f0.f1.length c1, .int .i64 x.f0.f2, .int .i64 x.f1, .int .i64 x.f2] ∧ x.f0.f0.length ≤ c0 ∧ Kd.F k38 W ok A0 x.f0.f0.length x.f0.f0 ∧ x.f0.f1.length ≤ c1 ∧ Kd.F k64 W ok A1 x.f0.f1.length x.f0.f1 := by
 obtain ⟨A0, c0, A1, c1, rfl, l0, _, l1, _⟩ := k39_open (Kd.FK_now h)
 exact ⟨A0, c0, A1, c1, rfl, l0, (fun W' hW => by obtain ⟨A0_, c0_, A1_, c1_, he, l0_, g0_, l1_, g1_⟩ := k39_open (h W' hW); injection (Option.some.inj (show some (Value.slice A0 x.f0.f0.length c0) = some (Value.slice A0_ x.f0.f0.length c0_) from congrArg (fun l => l[0]?) he)) with ha_ _ _; rw [ha_]; exact g0_), l1, (fun W' hW => by obtain ⟨A0_, c0_, A1_, c1_, he, l0_, g0_, l1_, g1_⟩ := k39_open (h W' hW); injection (Option.some.inj (show some (Value.slice A1 x.f0.f1.length c1) = some (Value.slice A1_ x.f0.f1.length c1_) from congrArg (fun l => l[1]?) he)) with ha_ _ _; rw [ha_]; exact g1_)⟩
end Go.Proofs.Ytiodebjjbgcbhaa.QBat
/- Functions of the program as plain Lean functions, and that its calls come to what these tell: written by a program of this session; Lean checks it. -/
namespace Go.Proofs.Ytiodebjjbgcbhaa.QBat
open Go.RowKit Go.Proofs.Ytiodebjjbgcbhaa.Hand Go.Proofs.YtiodebjjbgcbhaaW.PrintWords Go.Proofs.YtiodebjjbgcbhaaW.PrintLast Go.Proofs.YtiodebjjbgcbhaaW.PrintMore Go.Proofs.Ytiodebjjbgcbhaa.QLef
attribute [local go_sem] max2_int min2_int max_two min_two max_three min_three max_four min_four run_equalIn_c run_fop run_feq run_fne run_flt run_fle run_fgt run_fge run_fint run_toi run_real' run_imag' run_complex' run_ceq run_cne run_cadd run_csub Wide.cellsAt_drewN Wide.cellsAt_drew Wide.lw32 Wide.lw33 Wide.lw37 Wide.lw38 Wide.lw39 Wide.lw44
attribute [local go_sem ↓ high] Wide.hv32 Wide.hv33 Wide.hv37 Wide.hv38 Wide.hv39 Wide.hv44
set_option linter.unusedVariables false
set_option linter.unusedSimpArgs false
/-! ### coraclelaw17_awake: function 18 -/
def coraclelaw17_awake.f : Option Bool := some true
theorem coraclelaw17_awake.calls (r : Bool) (w : World) (h : coraclelaw17_awake.f = some r) :
 Calls Try.prog 18 #[] w fun e w' => e = .returned (.bool r) ∧ Below w.heap.size w w' := by
 obtain rfl := Option.some.inj h
 exact Inp.awake_calls w
/-! ### batch_All: function 19 -/
def batch_All.f (l0 : List S90) (a1 a2 a3 : Int) : Option (List S39 × Int) :=
 if l0.length < 100000 ∧ l0.all Inp.keyB = true then some (Inp.allC Inp.I90 l0 a1 a2 a3) else none
theorem batch_All.calls (A0 : Option Addr) (c0 : Nat) (l0 : List S90) (a1 a2 a3 : Int) (r1 : List S39) (r2 : Int) (w : World) (hr0 : Kd.C k90 w A0 l0.length l0) (hc0 : l0.length ≤ c0) (h : batch_All.f l0 a1 a2 a3 = some (r1, r2)) :
 Calls Try.prog 19 #[.slice A0 l0.length c0, .int .i64 a1, .int .i64 a2, .int .i64 a3] w fun e w' => ∃ v0_ : Value, e = .returned (.tuple #[v0_, .int .i64 r2]) ∧ Kd.R k39 39 w' w.heap.size (fun _ => True) v0_ r1 ∧ Below w.heap.size w w' := by
 unfold batch_All.f at h
 by_cases hk : l0.length < 100000 ∧ l0.all Inp.keyB = true
 ·rw [if_pos hk] at h
  have e := Option.some.inj h
  have hh := Inp.all90 (c := c0) hr0 hk.1 hk.2 a1 a2 a3
  rw [e] at hh
  exact hh
 ·rw [if_neg hk] at h; cases h
/-! ### coraclelaw17_mades: function 20 -/
-- proved in a text of its own
/-! ### tx_Weight: function 22 -/
def tx_Weight.f (l0_0 : List S38) (l0_1 : List S64) (a0_2 : Int) : Option Int :=
 if l0_0.length < 1000000 ∧ l0_1.length < 1000000 then some (LefL.weightV l0_0 l0_1.length) else none
theorem tx_Weight.calls (A0_0 : Option Addr) (c0_0 : Nat) (l0_0 : List S38) (A0_1 : Option Addr) (c0_1 : Nat) (l0_1 : List S64) (a0_2 r : Int) (w : World) (hr0_0 : Kd.C k38 w A0_0 l0_0.length l0_0) (hc0_0 : l0_0.length ≤ c0_0) (hr0_1 : Kd.C k64 w A0_1 l0_1.length l0_1) (hc0_1 : l0_1.length ≤ c0_1) (h : tx_Weight.f l0_0 l0_1 a0_2 = some r) :
 Calls Try.prog 22 #[.agg #[.slice A0_0 l0_0.length c0_0, .slice A0_1 l0_1.length c0_1, .int .i64 a0_2]] w fun e w' => e = .returned (.int .i64 r) ∧ Below w.heap.size w w' := by
 unfold tx_Weight.f at h
 by_cases hk : l0_0.length < 1000000 ∧ l0_1.length < 1000000
 ·rw [if_pos hk] at h
  obtain rfl := Option.some.inj h
  exact QLef.tx_Weight.calls (l0_0.length + 1) A0_0 c0_0 l0_0 A0_1 c0_1 l0_1 a0_2 _ w hr0_0 hc0_0 hr0_1 hc0_1 (LefL.weight_f l0_0 l0_1 a0_2 _ hk.1 hk.2 (Nat.lt_succ_self _))
 ·rw [if_neg hk] at h; cases h
/-! ### coraclelaw17_one: function 25 -/
-- proved in a text of its own
end Go.Proofs.Ytiodebjjbgcbhaa.QBat
