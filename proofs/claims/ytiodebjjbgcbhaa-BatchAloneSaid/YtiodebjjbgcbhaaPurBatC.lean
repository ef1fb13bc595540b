/- All batches of inputs. -/
import Derived.KernelRfl
import Derived.Test.YtiodebjjbgcbhaaInpR
import Derived.Test.YtiodebjjbgcbhaaBatK
namespace Go.Proofs.Ytiodebjjbgcbhaa.Inp
open Go.RowKit Go.Sort Go.Lib Go.Shelf Go.Proofs.Ytiodebjjbgcbhaa Go.Proofs.Ytiodebjjbgcbhaa.Hand Go.Proofs.YtiodebjjbgcbhaaW.PrintWords Go.Proofs.YtiodebjjbgcbhaaW.PrintLast Go.Proofs.YtiodebjjbgcbhaaW.PrintMore Go.Proofs.Ytiodebjjbgcbhaa.RowK Go.Proofs.Ytiodebjjbgcbhaa.Fill Go.Proofs.Ytiodebjjbgcbhaa.OrdO Go.Proofs.Ytiodebjjbgcbhaa.QLef Go.Proofs.Ytiodebjjbgcbhaa.LefL
set_option linter.unusedVariables false
set_option linter.unusedSectionVars false
set_option linter.unusedSimpArgs false
variable {α : Type}
def Bt.to (b : Bt) : S39 := ⟨⟨b.ins, b.outs, b.lock⟩, b.fee, b.rate⟩
/-- What one begins and leaves. -/
def oneV (fits : List α → Int → Bt × Bool) (rt : α → Int) (l : List α) : Os α := match l with
 | [] => ⟨[], [], .zero, false⟩
 | x0 :: r => oneS (fun W => fits W (rt x0)) (fun x => decide (Int.tdiv (rt x0) 2 ≤ rt x)) (x0 :: r) (x0 :: r).length
/-- The batches of inputs that are in order. -/
def allL (fits : List α → Int → Bt × Bool) (rt : α → Int) : Nat → List α → List S39
 | 0, _ => []
 | k + 1, [] => []
 | k + 1, x0 :: r => let s := oneV fits rt (x0 :: r)
  if s.ok = true then s.b.to :: allL fits rt k s.L else allL fits rt k s.L
theorem one_less (fits : List α → Int → Bt × Bool) (rt : α → Int) (l : List α) (h : 0 < l.length) : (oneV fits rt l).L.length < l.length := by
 cases l with
 | nil => simp at h
 | cons x0 r =>
  have := oneS_len (fun W => fits W (rt x0)) (fun x => decide (Int.tdiv (rt x0) 2 ≤ rt x)) (x0 :: r) (x0 :: r).length (by simp) (Nat.le_refl _)
  unfold oneV
  simp only [] at this ⊢
  omega
theorem allL_fuel (fits : List α → Int → Bt × Bool) (rt : α → Int) : ∀ (k j : Nat) (l : List α), l.length ≤ k → l.length ≤ j → allL fits rt k l = allL fits rt j l
 | 0, 0, _, _, _ => rfl
 | 0, j + 1, l, h, _ => by cases l with | nil => rfl | cons x r => simp at h
 | k + 1, 0, l, _, h => by cases l with | nil => rfl | cons x r => simp at h
 | k + 1, j + 1, l, h1, h2 => by
  cases l with
  | nil => rfl
  | cons x r =>
   have hl := one_less fits rt (x :: r) (by simp)
   unfold allL
   simp only [List.length_cons] at h1 h2 hl
   simp only []
   rw [allL_fuel fits rt k j _ (by omega) (by omega)]
/-- What All tells. -/
def allV (I : Spec α) (ck rt : α → Int) (fits : List α → Int → Bt × Bool) (next limit key : Int) (l : List α) : List S39 × Int :=
 if (wiB next 0 1000000 && (wiB limit 1 400000 && wiB key 0 1073741824)) = false then ([], 1) else
 if 200 < l.length then ([], 3) else
 if twiceV I l = true then ([], 6) else
 (allL fits rt l.length (orderV I ck rt next l), 0)
theorem R_okIn {w : World} {base : Nat} {ok : Nat → Prop} {v : Value} {l : List S38} (h : Kd.R k38 38 w base (fun _ => True) v l) (hne : ∀ k, v.ownBlock = some k → ok k) : Kd.R k38 38 w base ok v l := by
 obtain ⟨_, inner, ho, hr⟩ := h
 exact ⟨hne, inner, ho, hr.imp_ (fun _ _ hp => by rw [k38_openM hp]; exact k38_mkM _ _ _ _)⟩
theorem R_okOut {w : World} {base : Nat} {ok : Nat → Prop} {v : Value} {l : List S64} (h : Kd.R k64 64 w base (fun _ => True) v l) (hne : ∀ k, v.ownBlock = some k → ok k) : Kd.R k64 64 w base ok v l := by
 obtain ⟨_, inner, ho, hr⟩ := h
 exact ⟨hne, inner, ho, hr.imp_ (fun _ _ hp => by rw [k64_openM hp]; exact k64_mkM _ _ _ _)⟩
theorem order_len (I : Spec α) (ck rt : α → Int) (next : Int) (l : List α) : (orderV I ck rt next l).length ≤ l.length := by
 unfold orderV
 rw [(OrdQ.sortV_perm (c := cmpR I rt) _).length_eq]
 exact List.length_filter_le _ _
theorem own_reads {I : Spec α} {w : World} {base : Nat} {v : Value} {l : List α} (h : OwnI I w base v l) : ∃ A cap, v = .slice A l.length cap ∧ ReadsRow (fun x c => c = I.enc x) 44 w A l.length l ∧ l.length ≤ cap := by
 obtain ⟨A, cap, e, hr⟩ := h.reads
 refine ⟨A, cap, e, hr, ?_⟩
 rcases h with ⟨rfl, rfl⟩ | ⟨g, cap', cur, rfl, h1, h2, h3, h4, h5, h6⟩
 ·simp
 ·cases e; exact h3
/-- What is returned. -/
def AllR (w : World) (e : Ending) (w' : World) (o : List S39 × Int) : Prop := ∃ v0 : Value, e = .returned (.tuple #[v0, .int .i64 o.2]) ∧ Kd.R k39 39 w' w.heap.size (fun _ => True) v0 o.1 ∧ Below w.heap.size w w'
set_option maxHeartbeats 16000000 in
set_option maxRecDepth 100000 in
theorem all_calls [Inhabited α] (I : Spec α) (ck rt : α → Int) (hC : Checked I ck) (hrb : ∀ x, 0 ≤ rt x ∧ rt x ≤ 1000000000) (next limit key : Int) (hR : Rated I next rt) (fits : List α → Int → Bt × Bool) (hF : Fitted I next limit key fits) (l : List α) (hK : Keyed I l) (A : Option Addr) (c : Nat) (w : World) (hA : ReadsRow (fun x c => c = I.enc x) 44 w A l.length l) (hl : l.length < 100000) :
 Calls Try.prog 19 #[.slice A l.length c, .int .i64 next, .int .i64 limit, .int .i64 key] w fun e w' => AllR w e w' (allV I ck rt fits next limit key l) := by
 have HB := Aside0.mk (Below.refl w.heap.size w)
 have W1 := Aside0.mk (fun W => within_calls next 0 1000000 W)
 have W2 := Aside0.mk (fun W => within_calls limit 1 400000 W)
 have W3 := Aside0.mk (fun W => within_calls key 0 1073741824 W)
 have TW := Aside0.mk (fun (W : World) (hb : Below w.heap.size w W) => twice_calls I l A c W (ReadsRow.imp_ hA hb (fun _ _ h => h)) hl hK)
 have OR := Aside0.mk (fun (W : World) (hb : Below w.heap.size w W) => order_calls I ck rt next hC hR l A c W (ReadsRow.imp_ hA hb (fun _ _ h => h)) hl)
 have ON := Aside0.mk (fun (L : List α) (x0 : α) (h0 : L[0]? = some x0) (A : Option Addr) (c : Nat) (hc : L.length ≤ c) (W : World) (hA : ReadsRow (fun x c => c = I.enc x) 44 W A L.length L) (hl : L.length < 100000) => one_calls I rt hrb next limit key hR fits hF x0 L h0 A c hc W hA hl)
 have HL := Aside0.mk hl
 have HOL := Aside0.mk (show (orderV I ck rt next l).length ≤ l.length from order_len I ck rt next l)
 clear hA hl hK hF hR hC hrb
 unfold allV
 generalize wiB next 0 1000000 = b1 at W1 ⊢
 generalize wiB limit 1 400000 = b2 at W2 ⊢
 generalize wiB key 0 1073741824 = b3 at W3 ⊢
 generalize hb123 : (b1 && (b2 && b3)) = b123
 cases b123 with
 | false =>
  rw [if_pos rfl]
  clear TW OR ON HOL
  go_enter Try.func19, Try.ntmps19
  cases b1 with
  | false =>
   go_wp2_with (first | ((with_reducible refine gate_callee (f := 40) rfl ?_); refine goesL_ (some 17) rfl rfl Try.func40 (by kernel_rfl) rfl #[.int .i64 next, .int .i64 0, .int .i64 1000000] rfl (by (try simp only [List.map_toArray, List.map_cons, List.map_nil]); first | done | rfl) ?_; refine (W1.out _).mono ?_; rintro e w2 ⟨rfl, hb⟩; refine ⟨_, rfl, ?_⟩; have m_HB := Aside0.mk (below_step HB.out hb); clear HB; have HB := m_HB; clear m_HB; clear hb))
   (go_ret2; exact ⟨_, rfl, Kd.R_nil _ _ _ _ _, HB.out⟩)
  | true =>
   cases b2 with
   | false =>
    go_wp2_with (first | ((with_reducible refine gate_callee (f := 40) rfl ?_); refine goesL_ (some 17) rfl rfl Try.func40 (by kernel_rfl) rfl #[.int .i64 next, .int .i64 0, .int .i64 1000000] rfl (by (try simp only [List.map_toArray, List.map_cons, List.map_nil]); first | done | rfl) ?_; refine (W1.out _).mono ?_; rintro e w2 ⟨rfl, hb⟩; refine ⟨_, rfl, ?_⟩; have m_HB := Aside0.mk (below_step HB.out hb); clear HB; have HB := m_HB; clear m_HB; clear hb) | (go_at_call 40; (with_reducible refine (W2.out _).mono ?_); rintro e w2 ⟨rfl, hb⟩; have m_HB := Aside0.mk (below_step HB.out hb); clear HB; have HB := m_HB; clear m_HB; clear hb))
    (go_ret2; exact ⟨_, rfl, Kd.R_nil _ _ _ _ _, HB.out⟩)
   | true =>
    cases b3 with
    | true => cases hb123
    | false =>
     go_wp2_with (first | ((with_reducible refine gate_callee (f := 40) rfl ?_); refine goesL_ (some 17) rfl rfl Try.func40 (by kernel_rfl) rfl #[.int .i64 next, .int .i64 0, .int .i64 1000000] rfl (by (try simp only [List.map_toArray, List.map_cons, List.map_nil]); first | done | rfl) ?_; refine (W1.out _).mono ?_; rintro e w2 ⟨rfl, hb⟩; refine ⟨_, rfl, ?_⟩; have m_HB := Aside0.mk (below_step HB.out hb); clear HB; have HB := m_HB; clear m_HB; clear hb) | (go_at_call 40; (with_reducible refine (W2.out _).mono ?_); rintro e w2 ⟨rfl, hb⟩; have m_HB := Aside0.mk (below_step HB.out hb); clear HB; have HB := m_HB; clear m_HB; clear hb) | (go_at_call 40; (with_reducible refine (W3.out _).mono ?_); rintro e w2 ⟨rfl, hb⟩; have m_HB := Aside0.mk (below_step HB.out hb); clear HB; have HB := m_HB; clear m_HB; clear hb))
     (go_ret2; exact ⟨_, rfl, Kd.R_nil _ _ _ _ _, HB.out⟩)
 | true =>
  rw [if_neg (by decide)]
  obtain ⟨rfl, rfl, rfl⟩ : b1 = true ∧ b2 = true ∧ b3 = true := by cases b1 <;> cases b2 <;> cases b3 <;> simp at hb123 ⊢
  clear hb123
  by_cases h200 : 200 < l.length
  ·rw [if_pos h200]
   have z0 : decide (200 < (l.length : Int)) = true := decide_eq_true (by omega)
   have z1 := eq_true (show (200 : Int) < (l.length : Int) by omega)
   clear h200 TW OR ON HOL
   go_enter Try.func19, Try.ntmps19
   go_wp2_with (first | ((with_reducible refine gate_callee (f := 40) rfl ?_); refine goesL_ (some 17) rfl rfl Try.func40 (by kernel_rfl) rfl #[.int .i64 next, .int .i64 0, .int .i64 1000000] rfl (by (try simp only [List.map_toArray, List.map_cons, List.map_nil]); first | done | rfl) ?_; refine (W1.out _).mono ?_; rintro e w2 ⟨rfl, hb⟩; refine ⟨_, rfl, ?_⟩; have m_HB := Aside0.mk (below_step HB.out hb); clear HB; have HB := m_HB; clear m_HB; clear hb) | (go_at_call 40; (with_reducible refine (W2.out _).mono ?_); rintro e w2 ⟨rfl, hb⟩; have m_HB := Aside0.mk (below_step HB.out hb); clear HB; have HB := m_HB; clear m_HB; clear hb) | (go_at_call 40; (with_reducible refine (W3.out _).mono ?_); rintro e w2 ⟨rfl, hb⟩; have m_HB := Aside0.mk (below_step HB.out hb); clear HB; have HB := m_HB; clear m_HB; clear hb))
   (go_ret2; exact ⟨_, rfl, Kd.R_nil _ _ _ _ _, HB.out⟩)
  ·rw [if_neg h200]
   have z0 : decide (200 < (l.length : Int)) = false := decide_eq_false (by omega)
   have z1 := eq_false (show ¬ (200 : Int) < (l.length : Int) by omega)
   have L2 := Aside0.mk h200
   clear h200
   generalize twiceV I l = tw at TW ⊢
   cases tw with
   | true =>
    rw [if_pos rfl]
    clear OR ON HOL
    go_enter Try.func19, Try.ntmps19
    go_wp2_with (first | ((with_reducible refine gate_callee (f := 40) rfl ?_); refine goesL_ (some 17) rfl rfl Try.func40 (by kernel_rfl) rfl #[.int .i64 next, .int .i64 0, .int .i64 1000000] rfl (by (try simp only [List.map_toArray, List.map_cons, List.map_nil]); first | done | rfl) ?_; refine (W1.out _).mono ?_; rintro e w2 ⟨rfl, hb⟩; refine ⟨_, rfl, ?_⟩; have m_HB := Aside0.mk (below_step HB.out hb); clear HB; have HB := m_HB; clear m_HB; clear hb) | (go_at_call 40; (with_reducible refine (W2.out _).mono ?_); rintro e w2 ⟨rfl, hb⟩; have m_HB := Aside0.mk (below_step HB.out hb); clear HB; have HB := m_HB; clear m_HB; clear hb) | (go_at_call 40; (with_reducible refine (W3.out _).mono ?_); rintro e w2 ⟨rfl, hb⟩; have m_HB := Aside0.mk (below_step HB.out hb); clear HB; have HB := m_HB; clear m_HB; clear hb) | ((with_reducible refine gate_callee (f := 41) rfl ?_); refine goesL_ (some 35) rfl rfl Try.func41 (by kernel_rfl) rfl #[.slice A l.length c] rfl (by (try simp only [List.map_toArray, List.map_cons, List.map_nil]); first | done | rfl) ?_; refine (TW.out _ HB.out).mono ?_; rintro e w3 ⟨rfl, hb⟩; refine ⟨_, rfl, ?_⟩; have m_HB := Aside0.mk (below_step HB.out hb); clear HB; have HB := m_HB; clear m_HB; clear hb))
    (go_ret2; exact ⟨_, rfl, Kd.R_nil _ _ _ _ _, HB.out⟩)
   | false =>
    rw [if_neg (by decide)]
    obtain ⟨tot, htot⟩ : ∃ t, allL fits rt l.length (orderV I ck rt next l) = t := ⟨_, rfl⟩
    rw [htot]
    have TT := Aside0.mk htot
    clear htot
    go_enter Try.func19, Try.ntmps19
    go_wp2_with (first | ((with_reducible refine gate_callee (f := 40) rfl ?_); refine goesL_ (some 17) rfl rfl Try.func40 (by kernel_rfl) rfl #[.int .i64 next, .int .i64 0, .int .i64 1000000] rfl (by (try simp only [List.map_toArray, List.map_cons, List.map_nil]); first | done | rfl) ?_; refine (W1.out _).mono ?_; rintro e w2 ⟨rfl, hb⟩; refine ⟨_, rfl, ?_⟩; have m_HB := Aside0.mk (below_step HB.out hb); clear HB; have HB := m_HB; clear m_HB; clear hb) | (go_at_call 40; (with_reducible refine (W2.out _).mono ?_); rintro e w2 ⟨rfl, hb⟩; have m_HB := Aside0.mk (below_step HB.out hb); clear HB; have HB := m_HB; clear m_HB; clear hb) | (go_at_call 40; (with_reducible refine (W3.out _).mono ?_); rintro e w2 ⟨rfl, hb⟩; have m_HB := Aside0.mk (below_step HB.out hb); clear HB; have HB := m_HB; clear m_HB; clear hb) | ((with_reducible refine gate_callee (f := 41) rfl ?_); refine goesL_ (some 35) rfl rfl Try.func41 (by kernel_rfl) rfl #[.slice A l.length c] rfl (by (try simp only [List.map_toArray, List.map_cons, List.map_nil]); first | done | rfl) ?_; refine (TW.out _ HB.out).mono ?_; rintro e w3 ⟨rfl, hb⟩; refine ⟨_, rfl, ?_⟩; have m_HB := Aside0.mk (below_step HB.out hb); clear HB; have HB := m_HB; clear m_HB; clear hb) | ((with_reducible refine gate_dst (N := 10) rfl ?_); refine Fill.fill_event (N := 10) (x := 39) (cs := #[.int .i64 next, .int .i64 limit, .int .i64 key]) (t := 96) rfl rfl rfl rfl rfl rfl Try.zeroValue96 ?fs ?fz ?f1 (fun _ => rfl) (fun _ => rfl) ?_; (case fs => exact fun W => Try.sizeOf96 W); (case fz => rfl); (case f1 => rfl); intro g10 hg10 w5 hbox hb; have B10 := Aside0.mk hbox; clear hbox hg10; have m_HB := Aside0.mk (below_step HB.out hb); clear HB; have HB := m_HB; clear m_HB; clear hb) | ((with_reducible refine gate_callee (f := 27) rfl ?_); refine goesL_ (some 42) rfl rfl Try.func27 (by kernel_rfl) rfl #[.slice A l.length c, .int .i64 next] rfl (by (try simp only [List.map_toArray, List.map_cons, List.map_nil]); first | done | rfl) ?_; refine (OR.out _ HB.out).mono ?_; rintro e w6 ⟨v42, rfl, ho, hb⟩; refine ⟨_, rfl, ?_⟩; have HO := Aside0.mk (ho.lower HB.out.size); clear ho; have m_HB := Aside0.mk (below_step HB.out hb); have m_B10 := Aside0.mk (blk_below B10.out hb); clear HB B10; have HB := m_HB; have B10 := m_B10; clear m_HB m_B10; clear hb))
    clear TW OR W1 W2 W3
    generalize orderV I ck rt next l = L0 at HOL HO TT
    obtain ⟨n, hn⟩ : ∃ n, l.length = n := ⟨_, rfl⟩
    rw [hn] at HOL L2 TT
    clear hn z0 z1
    go_loopg [8, 11] L0.length (fun kq v8 v11 wr => ∃ (L : List α) (R : List S39), L.length ≤ kq ∧ L.length ≤ n ∧ R.length + L.length ≤ n ∧ Aside0 (R ++ allL fits rt n L = tot) ∧ Aside0 (OwnI I wr w.heap.size v11 L) ∧ Aside0 (Kd.R k39 39 wr w.heap.size (fun _ => True) v8 R) ∧ Aside0 (wr.heap[g10]? = some (.cells #[.int .i64 next, .int .i64 limit, .int .i64 key] 96 (0, 0))) ∧ Aside0 (Below w.heap.size w wr))
    case atStart => exact ⟨L0, [], Nat.le_refl _, HOL.out, by have := HOL.out; simpa using this, ⟨TT.out⟩, HO, ⟨Kd.R_nil _ _ _ _ _⟩, B10, HB⟩
    case round =>
     clear HO B10 HB TT
     obtain ⟨L, R, hkq, hLn, hRL, TT, HO, HR, B10, HB⟩ := hrel
     obtain ⟨AL, cL, eL, hrL, hcL⟩ := own_reads HO.out
     subst eL
     have hl2 := L2.out
     cases L with
     | nil =>
      go_wp2
      go_ret2
      refine ⟨_, rfl, ?_, HB.out⟩
      have e := TT.out
      rw [show allL fits rt n ([] : List α) = [] by cases n <;> rfl, List.append_nil] at e
      rw [← e]
      exact HR.out
     | cons x0 r =>
      have hz : 0 < (x0 :: r).length := by simp
      have CA := Aside0.mk (fun (W : World) (hb : Below wr.heap.size wr W) => ON.out (x0 :: r) x0 rfl AL cL hcL W (ReadsRow.imp_ hrL hb (fun _ _ h => h)) (by omega))
      have LS := Aside0.mk (one_less fits rt (x0 :: r) (by simp))
      have ST := Aside0.mk (show (let s := oneV fits rt (x0 :: r); R ++ (if s.ok = true then s.b.to :: allL fits rt n s.L else allL fits rt n s.L) = tot) by
       rw [← TT.out]
       obtain ⟨m, rfl⟩ : ∃ m, n = m + 1 := ⟨n - 1, by simp at hLn; omega⟩
       have e := allL_fuel fits rt m (m + 1) (oneV fits rt (x0 :: r)).L (by simp only [List.length_cons] at hLn LS; have := LS.out; omega) (by simp only [List.length_cons] at hLn LS; have := LS.out; omega)
       simp only []
       rw [← e]
       rfl)
      rw [show oneS (fun W => fits W (rt x0)) (fun x => decide ((rt x0).tdiv 2 ≤ rt x)) (x0 :: r) (x0 :: r).length = oneV fits rt (x0 :: r) from rfl] at CA
      generalize oneV fits rt (x0 :: r) = s at CA LS ST
      obtain ⟨m, hm⟩ : ∃ m, (x0 :: r).length = m := ⟨_, rfl⟩
      rw [hm] at CA LS hz hkq hLn hRL HO ⊢
      have hz0 : (0 : Int) < (m : Int) := by omega
      clear hrL hcL hm ON TT
      have k0_ : wr.cell? ⟨g10, 0, none⟩ = some (.int .i64 next) := (blk_cell B10.out 0).trans rfl; have k1_ : wr.cell? ⟨g10, 1, none⟩ = some (.int .i64 limit) := (blk_cell B10.out 1).trans rfl; have k2_ : wr.cell? ⟨g10, 2, none⟩ = some (.int .i64 key) := (blk_cell B10.out 2).trans rfl
      obtain ⟨sW, sL, sb, sok⟩ := s
      cases sok with
      | true =>
       go_wp2_with (first | ((with_reducible refine gate_callee (f := 42) rfl ?_); refine goesL_ (some 49) rfl rfl Try.func42 (by kernel_rfl) rfl #[.agg #[.int .i64 next, .int .i64 limit, .int .i64 key], .slice AL m cL] rfl (by (try simp only [List.map_toArray, List.map_cons, List.map_nil]); first | done | rfl) ?_; refine (CA.out _ (Below.refl _ _)).mono ?_; rintro e w4 ⟨v0, v1, v6, rfl, h0, h1, h6, hb⟩; refine ⟨_, rfl, ?_⟩; have H0 := Aside0.mk (Kd.R_lower h0 HB.out.size); have H1 := Aside0.mk (Kd.R_lower h1 HB.out.size); have H6 := Aside0.mk (h6.lower HB.out.size); clear h0 h1 h6 HO k0_ k1_ k2_; obtain ⟨A0, c0, e0⟩ := Kd.R_slice H0.out; subst e0; obtain ⟨A1, c1, e1⟩ := Kd.R_slice H1.out; subst e1; have m_HB := Aside0.mk (below_step HB.out hb); have m_B10 := Aside0.mk (blk_below B10.out hb); have m_HR := Aside0.mk (Kd.R_below HR.out hb); clear HB B10 HR; have HB := m_HB; have B10 := m_B10; have HR := m_HR; clear m_HB m_B10 m_HR; clear hb) | ((with_reducible refine gate_dst (N := 12) rfl ?_); refine Fill.fill_event (N := 12) (x := 50) (cs := #[.slice A0 sb.ins.length c0, .slice A1 sb.outs.length c1, .int .i64 sb.lock, .int .i64 sb.fee, .int .i64 sb.rate]) (t := 39) rfl rfl rfl rfl rfl rfl Try.zeroValue39 ?fs ?fz ?f1 (fun _ => rfl) (fun _ => rfl) ?_; (case fs => exact fun W => Try.sizeOf39 W); (case fz => rfl); (case f1 => rfl); intro g12 hg12 w5 hbox hb; have B12 := Aside0.mk hbox; clear hbox hg12; have m_HB := Aside0.mk (below_step HB.out hb); have m_B10 := Aside0.mk (blk_below B10.out hb); have m_HR := Aside0.mk (Kd.R_below HR.out hb); have m_H0 := Aside0.mk (Kd.R_below H0.out hb); have m_H1 := Aside0.mk (Kd.R_below H1.out hb); have m_H6 := Aside0.mk (OwnI.below H6.out hb); clear HB B10 HR H0 H1 H6; have HB := m_HB; have B10 := m_B10; have HR := m_HR; have H0 := m_H0; have H1 := m_H1; have H6 := m_H6; clear m_HB m_B10 m_HR m_H0 m_H1 m_H6; clear hb; have q0_ : w5.cell? ⟨g12, 0, none⟩ = some (.slice A0 sb.ins.length c0) := (blk_cell B12.out 0).trans rfl; have q1_ : w5.cell? ⟨g12, 1, none⟩ = some (.slice A1 sb.outs.length c1) := (blk_cell B12.out 1).trans rfl; have q2_ : w5.cell? ⟨g12, 2, none⟩ = some (.int .i64 sb.lock) := (blk_cell B12.out 2).trans rfl; have q3_ : w5.cell? ⟨g12, 3, none⟩ = some (.int .i64 sb.fee) := (blk_cell B12.out 3).trans rfl; have q4_ : w5.cell? ⟨g12, 4, none⟩ = some (.int .i64 sb.rate) := (blk_cell B12.out 4).trans rfl) | ((with_reducible refine gate_builtin (b := .append) (xs := #[.tmp 55, .tmp 57]) rfl ?_); at_builtin; refine Kd.R_append k39 (w0 := w) (W := w5) w.heap.size rfl (.tmp 55) (.tmp 57) 24 39 (.agg #[(.slice none 0 0), (.slice none 0 0), (.int .i64 0), (.int .i64 0), (.int .i64 0)]) 72 rfl Try.underlying24 info39 rfl (by decide) (by omega) u8 R sb.to [.slice A0 sb.ins.length c0, .slice A1 sb.outs.length c1, .int .i64 sb.lock, .int .i64 sb.fee, .int .i64 sb.rate] (fun _ => True) (fun k => some k ≠ u8.ownBlock) rfl rfl ?aP (fun _ hk => ⟨trivial, hk⟩) (fun _ _ => trivial) HR.out HB.out HB.out.size ?aL ?_; (case aP => exact k39_mkM _ _ _ sb.to (R_okIn H0.out (R_apart H0.out HR.out (by decide))) (R_okOut H1.out (R_apart H1.out HR.out (by decide)))); (case aL => omega); intro v58 w7 hv hb hg hat; have m_B10 := Aside0.mk (blk_grown B10.out hg (Kd.R_ne HR.out B10.out (by decide))); have m_H6 := Aside0.mk (H6.out.grown hg (fun k hk => H6.out.ne_row HR.out (by decide) k hk)); clear B10 B12 H0 H1 H6 HR HB hg hat q0_ q1_ q2_ q3_ q4_; have B10 := m_B10; have H6 := m_H6; have HR := Aside0.mk hv; have HB := Aside0.mk hb; clear m_B10 m_H6 hv hb))
       go_roundg sL.length
       case measure => exact Nat.lt_of_lt_of_le LS.out hkq
       case rel =>
        have h1 : sL.length < m := LS.out
        refine ⟨sL, R ++ [sb.to], Nat.le_refl _, by omega, by rw [List.length_append, List.length_singleton]; omega, ⟨?_⟩, H6, HR, B10, HB⟩
        have h2 := ST.out
        simp only [if_true] at h2
        rw [List.append_assoc]
        exact h2
      | false =>
       go_wp2_with (first | ((with_reducible refine gate_callee (f := 42) rfl ?_); refine goesL_ (some 49) rfl rfl Try.func42 (by kernel_rfl) rfl #[.agg #[.int .i64 next, .int .i64 limit, .int .i64 key], .slice AL m cL] rfl (by (try simp only [List.map_toArray, List.map_cons, List.map_nil]); first | done | rfl) ?_; refine (CA.out _ (Below.refl _ _)).mono ?_; rintro e w4 ⟨v0, v1, v6, rfl, h0, h1, h6, hb⟩; refine ⟨_, rfl, ?_⟩; have H0 := Aside0.mk (Kd.R_lower h0 HB.out.size); have H1 := Aside0.mk (Kd.R_lower h1 HB.out.size); have H6 := Aside0.mk (h6.lower HB.out.size); clear h0 h1 h6 HO k0_ k1_ k2_; obtain ⟨A0, c0, e0⟩ := Kd.R_slice H0.out; subst e0; obtain ⟨A1, c1, e1⟩ := Kd.R_slice H1.out; subst e1; have m_HB := Aside0.mk (below_step HB.out hb); have m_B10 := Aside0.mk (blk_below B10.out hb); have m_HR := Aside0.mk (Kd.R_below HR.out hb); clear HB B10 HR; have HB := m_HB; have B10 := m_B10; have HR := m_HR; clear m_HB m_B10 m_HR; clear hb) | ((with_reducible refine gate_dst (N := 12) rfl ?_); refine Fill.fill_event (N := 12) (x := 50) (cs := #[.slice A0 sb.ins.length c0, .slice A1 sb.outs.length c1, .int .i64 sb.lock, .int .i64 sb.fee, .int .i64 sb.rate]) (t := 39) rfl rfl rfl rfl rfl rfl Try.zeroValue39 ?fs ?fz ?f1 (fun _ => rfl) (fun _ => rfl) ?_; (case fs => exact fun W => Try.sizeOf39 W); (case fz => rfl); (case f1 => rfl); intro g12 hg12 w5 hbox hb; have B12 := Aside0.mk hbox; clear hbox hg12; have m_HB := Aside0.mk (below_step HB.out hb); have m_B10 := Aside0.mk (blk_below B10.out hb); have m_HR := Aside0.mk (Kd.R_below HR.out hb); have m_H0 := Aside0.mk (Kd.R_below H0.out hb); have m_H1 := Aside0.mk (Kd.R_below H1.out hb); have m_H6 := Aside0.mk (OwnI.below H6.out hb); clear HB B10 HR H0 H1 H6; have HB := m_HB; have B10 := m_B10; have HR := m_HR; have H0 := m_H0; have H1 := m_H1; have H6 := m_H6; clear m_HB m_B10 m_HR m_H0 m_H1 m_H6; clear hb; have q0_ : w5.cell? ⟨g12, 0, none⟩ = some (.slice A0 sb.ins.length c0) := (blk_cell B12.out 0).trans rfl; have q1_ : w5.cell? ⟨g12, 1, none⟩ = some (.slice A1 sb.outs.length c1) := (blk_cell B12.out 1).trans rfl; have q2_ : w5.cell? ⟨g12, 2, none⟩ = some (.int .i64 sb.lock) := (blk_cell B12.out 2).trans rfl; have q3_ : w5.cell? ⟨g12, 3, none⟩ = some (.int .i64 sb.fee) := (blk_cell B12.out 3).trans rfl; have q4_ : w5.cell? ⟨g12, 4, none⟩ = some (.int .i64 sb.rate) := (blk_cell B12.out 4).trans rfl))
       go_roundg sL.length
       case measure => exact Nat.lt_of_lt_of_le LS.out hkq
       case rel =>
        have h1 : sL.length < m := LS.out
        refine ⟨sL, R, Nat.le_refl _, by omega, by omega, ⟨?_⟩, H6, HR, B10, HB⟩
        have h2 := ST.out
        simpa using h2
end Go.Proofs.Ytiodebjjbgcbhaa.Inp
/- What Check, Rate and All tell of inputs, in closed form. -/
namespace Go.Proofs.Ytiodebjjbgcbhaa.Inp
open Go.RowKit Go.Sort Go.Lib Go.Shelf Go.Proofs.Ytiodebjjbgcbhaa Go.Proofs.Ytiodebjjbgcbhaa.Hand Go.Proofs.YtiodebjjbgcbhaaW.PrintWords Go.Proofs.YtiodebjjbgcbhaaW.PrintLast Go.Proofs.YtiodebjjbgcbhaaW.PrintMore Go.Proofs.Ytiodebjjbgcbhaa.RowK Go.Proofs.Ytiodebjjbgcbhaa.Fill Go.Proofs.Ytiodebjjbgcbhaa.OrdO Go.Proofs.Ytiodebjjbgcbhaa.QLef Go.Proofs.Ytiodebjjbgcbhaa.LefL Go.Proofs.Ytiodebjjbgcbhaa.FltL
set_option linter.unusedVariables false
set_option linter.unusedSectionVars false
set_option linter.unusedSimpArgs false
variable {α : Type}
theorem w64' {n : Int} (h0 : -9223372036854775808 ≤ n) (h1 : n ≤ 9223372036854775807) : wrap64 n = n := by unfold wrap64; omega
def addS (a b : Int) : Int × Int := if okA a && okA b && okA (wrap64 (a + b)) then (wrap64 (a + b), 0) else (0, 11)
theorem add_f (a b : Int) : amount_Add.f a b = some (addS a b) := by
 unfold amount_Add.f addS
 simp only [valid_f, held_f]
 cases okA a <;> cases okA b <;> cases okA (wrap64 (a + b)) <;> simp
/-- The sum of a row, each sum on the way asked. -/
def totS : Int → List Int → Int × Int
 | s, [] => (s, 0)
 | s, a :: r => if (addS s a).2 = 0 then totS (addS s a).1 r else addS s a
theorem rd_at {xs : List Int} {i : Nat} (h : i < xs.length) : Go.Proofs.YtiodebjjbgcbhaaW.PrintWords.rd xs (i : Int) = xs[i] := by
 unfold Go.Proofs.YtiodebjjbgcbhaaW.PrintWords.rd; rw [Int.toNat_natCast]; simp [List.getD_eq_getElem?_getD, h]
theorem total_l (xs : List Int) (hx : xs.length ≤ 140737488351232) : ∀ (d k i : Nat) (s : Int), i + d = xs.length → d < k → amount_Total.l0 k s 0 xs (xs.length : Int) (i : Int) = some (totS s (xs.drop i)) := by
 intro d
 induction d with
 | zero =>
  intro k i s hd hk
  obtain ⟨k, rfl⟩ : ∃ m, k = m + 1 := ⟨k - 1, by omega⟩
  have : xs.drop i = [] := List.drop_of_length_le (by omega)
  simp only [amount_Total.l0]
  rw [if_neg (by omega), this]; rfl
 | succ d ih =>
  intro k i s hd hk
  obtain ⟨k, rfl⟩ : ∃ m, k = m + 1 := ⟨k - 1, by omega⟩
  have hi : i < xs.length := by omega
  simp only [amount_Total.l0]
  rw [if_pos (by omega), if_pos (by omega), if_pos (by omega), add_f, rd_at hi, List.drop_eq_getElem_cons hi]
  simp only [Option.bind_some, totS]
  by_cases h : (addS s xs[i]).2 = 0
  ·rw [if_pos h, if_pos h, h]
   have : wrap64 ((i : Int) + 1) = ((i + 1 : Nat) : Int) := by rw [w64' (by omega) (by omega)]; omega
   rw [this]
   exact ih k (i + 1) _ (by omega) (by omega)
  ·rw [if_neg h, if_neg h]
theorem total_f (xs : List Int) (hx : xs.length ≤ 140737488351232) (k : Nat) (hk : xs.length < k) : amount_Total.f k xs = some (totS 0 xs) := by
 unfold amount_Total.f
 have := total_l xs hx xs.length k 0 0 (by omega) hk
 simpa using this
/-- The weight of an input's own transaction. -/
def aloneV (I : Spec α) (x : α) : Int := weightV [I.inS x] 1
/-- What Check tells. -/
def chkC (I : Spec α) (x : α) : Int := chkV (wiB (I.nn x) 0 99) (wiB (I.value x) 1 2100000000000000) (witB (I.kind x) (I.key x) (I.pre x)) (wiB (I.seq x) 0 65535) (wiB (I.wait x) 0 65535) (wiB (I.lock x) 0 1000000) (wiB (I.conf x) 0 1000000) (if ofB (I.since x) (I.dl x) (I.budget x) (aloneV I x) then 0 else 1)
/-- The greatest rate. -/
def highV (I : Spec α) (x : α) : Int := min (I.budget x * 1000 / aloneV I x) 1000000000
/-- What Rate tells. -/
def rtC (I : Spec α) (next : Int) (x : α) : Int := if chkC I x = 0 then (if ofB (I.since x) (I.dl x) (I.budget x) (aloneV I x) then atV (I.since x) 253 (max (I.since x) (I.dl x)) (highV I x) next else 0) else 0
theorem weight_one (I : Spec α) (x : α) : tx_Weight.f 2 [I.inS x] (List.replicate 1 z64) 0 = some (aloneV I x) := by
 have h := weight_f [I.inS x] (List.replicate 1 z64) 0 2 (by simp) (by simp) (by simp)
 simpa [aloneV] using h
theorem of_one (I : Spec α) (x : α) : curve_Of.f (I.since x) (I.dl x) (I.budget x) (aloneV I x) = some (if ofB (I.since x) (I.dl x) (I.budget x) (aloneV I x) then (C (2 * I.since x) (2 * 253), C (2 * max (I.since x) (I.dl x)) (2 * highV I x), 0) else (C 0 0, C 0 0, 1)) := of_f _ _ _ _
theorem checkedC (I : Spec α) : Checked I (chkC I) := fun x W => by
 obtain ⟨⟨r1, r2, r3⟩, hr⟩ : ∃ r : C128 × C128 × Int, (if ofB (I.since x) (I.dl x) (I.budget x) (aloneV I x) then (C (2 * I.since x) (2 * 253), C (2 * max (I.since x) (I.dl x)) (2 * highV I x), (0 : Int)) else (C 0 0, C 0 0, 1)) = r := ⟨_, rfl⟩
 have ho := of_one I x
 rw [hr] at ho
 have h := check_calls I x 2 (aloneV I x) r1 r2 r3 (witB (I.kind x) (I.key x) (I.pre x)) (weight_one I x) ho (witness_f _ _ _) W
 have e : r3 = if ofB (I.since x) (I.dl x) (I.budget x) (aloneV I x) then 0 else 1 := by
  have := congrArg (fun r => r.2.2) hr
  simp only [] at this
  rw [← this]
  split <;> rfl
 rw [e] at h
 exact h
theorem ratedC (I : Spec α) (next : Int) : Rated I next (rtC I next) := fun x W => by
 have hc := checkedC I x
 have hw := weight_one I x
 have ho := of_one I x
 unfold rtC
 by_cases hb : ofB (I.since x) (I.dl x) (I.budget x) (aloneV I x) = true
 ·rw [if_pos hb] at ho
  rw [if_pos hb]
  exact rate_calls0 (I.enc x) (I.hk x) next _ _ 0 (chkC I x) _ W (fun W => hc W) (fun W => rise_calls I x 2 _ _ _ _ hw ho W) (at_f (of_line hb) next)
 ·rw [if_neg hb] at ho
  rw [if_neg hb]
  have hS : Sn 0 := by unfold Sn; omega
  exact rate_calls0 (I.enc x) (I.hk x) next _ _ 1 (chkC I x) 0 W (fun W => hc W) (fun W => rise_calls I x 2 _ _ _ _ hw ho W) (at_no hS hS hS hS (by decide) next)
theorem rate_bounds (I : Spec α) (next : Int) (x : α) : 0 ≤ rtC I next x ∧ rtC I next x ≤ 1000000000 := by
 unfold rtC
 split
 ·split
  ·rename_i h
   have h1 := of_line h
   have h2 := atV_bounds h1 next
   have h3 := lineB_true.1 h1
   unfold highV
   omega
  ·omega
 ·omega
def tcC : List S38 → List S64 → Int → Int := chkT (totS 0)
theorem txcheckedC : TxChecked tcC := txcheck_calls (totS 0) (fun l hl => ⟨l.length + 1, total_f l (by omega) _ (by omega)⟩)
def fitsC (I : Spec α) (limit key : Int) : List α → Int → Bt × Bool := fitsV I (chkC I) (totS 0) tcC limit key
theorem fittedC (I : Spec α) (next limit key : Int) : Fitted I next limit key (fitsC I limit key) := fun l A c rate W hA hl =>
 fits_calls I (chkC I) (checkedC I) (totS 0) (fun l hl => ⟨l.length + 1, total_f l (by omega) _ (by omega)⟩) tcC txcheckedC l A c next limit key rate W hA hl
/-- What All tells. -/
def allC (I : Spec α) (l : List α) (next limit key : Int) : List S39 × Int := allV I (chkC I) (rtC I next) (fitsC I limit key) next limit key l
def orderC (I : Spec α) (l : List α) (next : Int) : List α := orderV I (chkC I) (rtC I next) next l
def makeC (I : Spec α) (l : List α) (rate key : Int) : Option Bt := makeV I (chkC I) (totS 0) tcC l rate key
/-! ### keys -/
theorem mapM_some {β γ : Type} {f : β → Option γ} : ∀ {l : List β}, (∀ x ∈ l, ∃ y, f x = some y) → ∃ ys, l.mapM f = some ys
 | [], _ => ⟨[], rfl⟩
 | x :: l, h => by
  obtain ⟨y, hy⟩ := h x (List.mem_cons_self)
  obtain ⟨ys, hys⟩ := mapM_some (l := l) (fun z hz => h z (List.mem_cons_of_mem _ hz))
  exact ⟨y :: ys, by simp [List.mapM_cons, hy, hys]⟩
theorem lits_u8 (d : Nat) (n : Int) (h : 0 ≤ n ∧ n ≤ 255) : Try.prog.keyLits (d + 1) 5 [.int .u8 n] = some [.int .u8 n] := by
 have hw : (Lit.int .u8 n).wf = true := by
  simp only [Lit.wf, Bool.and_eq_true, decide_eq_true_eq]
  exact h
 simp only [Program.keyLits, Try.underlying5, hw, and_self, if_true]
theorem lits_i64 (d : Nat) (n : Int) (h : -9223372036854775808 ≤ n ∧ n ≤ 9223372036854775807) : Try.prog.keyLits (d + 1) 3 [.int .i64 n] = some [.int .i64 n] := by
 have hw : (Lit.int .i64 n).wf = true := by
  simp only [Lit.wf, Bool.and_eq_true, decide_eq_true_eq]
  exact h
 simp only [Program.keyLits, Try.underlying3, hw, and_self, if_true]
theorem lits_hash (d : Nat) (bs : List Int) (hl : bs.length = 32) (h : ∀ n ∈ bs, 0 ≤ n ∧ n ≤ 255) : ∃ ls, Try.prog.keyLits (d + 2) 32 (bs.map (Value.int .u8)) = some ls := by
 have hc : Try.prog.cellsOf 32 = 32 := by kernel_rfl
 have hc1 : Try.prog.cellsOf 5 = 1 := by kernel_rfl
 rw [Program.keyLits.eq_def]
 simp only [Try.underlying32]
 rw [if_pos (by rw [List.length_map, hl, hc])]
 obtain ⟨ys, hys⟩ := mapM_some (l := List.range 32) (f := fun i => Try.prog.keyLits (d + 1) 5 (((bs.map (Value.int .u8)).drop (i * Try.prog.cellsOf 5)).take (Try.prog.cellsOf 5))) (fun i hi => by
  have hi' : i < bs.length := by rw [hl]; exact List.mem_range.1 hi
  rw [hc1, Nat.mul_one, ← List.map_drop, ← List.map_take, List.drop_eq_getElem_cons hi']
  exact ⟨_, lits_u8 d _ (h _ (List.getElem_mem hi'))⟩)
 rw [hys]
 exact ⟨_, rfl⟩
theorem key_of (bs : List Int) (nn : Int) (hl : bs.length = 32) (h : ∀ n ∈ bs, 0 ≤ n ∧ n ≤ 255) (hn : -9223372036854775808 ≤ nn ∧ nn ≤ 9223372036854775807) : ∃ kl, keyOf Try.prog 34 (keyV (bs, nn)) = some kl := by
 have hc : Try.prog.cellsOf 34 = 33 := by kernel_rfl
 have hch : Try.prog.cellsOf 32 = 32 := by kernel_rfl
 have hci : Try.prog.cellsOf 3 = 1 := by kernel_rfl
 have hk : Try.prog.keyType 34 = true := by kernel_rfl
 have hcells : (keyV (bs, nn)).cells.toList = bs.map (Value.int .u8) ++ [.int .i64 nn] := by simp [keyV, Value.cells]
 have hlen : (bs.map (Value.int .u8) ++ ([.int .i64 nn] : List Value)).length = 33 := by simp [hl]
 have hform : (keyV (bs, nn)).formed Try.prog 34 = true := by
  unfold keyV Value.formed
  simp only [Try.underlying34, hc]
  simp [hl]
 have hts : (Nat.ble 2 Try.prog.types.size) = true := by kernel_rfl
 have hts2 := Nat.le_of_ble_eq_true hts
 obtain ⟨m, hm⟩ : ∃ m, Try.prog.types.size + 1 = m + 3 := ⟨Try.prog.types.size - 2, by omega⟩
 obtain ⟨l1, h1⟩ := lits_hash m bs hl h
 have h2 := lits_i64 (m + 1) nn hn
 unfold keyOf
 simp only [Try.underlying34, hk, hform, Bool.and_self, if_true, hcells, hm]
 rw [Program.keyLits.eq_def]
 simp only [Try.underlying34]
 rw [if_pos ⟨by rw [hlen, hc], by kernel_rfl⟩]
 simp only [List.mapM_cons, List.mapM_nil, Array.toList, hch, hci, List.drop_zero]
 rw [List.take_left' (by simp [hl]), List.drop_left' (by simp [hl])]
 simp only [List.take_succ_cons, List.take_zero]
 rw [h1, h2]
 exact ⟨_, rfl⟩
/-! ### the row of inputs -/
def I90 : Spec S90 where
 bs x := [x.f0.f0.f0, x.f0.f0.f1, x.f0.f0.f2, x.f0.f0.f3, x.f0.f0.f4, x.f0.f0.f5, x.f0.f0.f6, x.f0.f0.f7, x.f0.f0.f8, x.f0.f0.f9, x.f0.f0.f10, x.f0.f0.f11, x.f0.f0.f12, x.f0.f0.f13, x.f0.f0.f14, x.f0.f0.f15, x.f0.f0.f16, x.f0.f0.f17, x.f0.f0.f18, x.f0.f0.f19, x.f0.f0.f20, x.f0.f0.f21, x.f0.f0.f22, x.f0.f0.f23, x.f0.f0.f24, x.f0.f0.f25, x.f0.f0.f26, x.f0.f0.f27, x.f0.f0.f28, x.f0.f0.f29, x.f0.f0.f30, x.f0.f0.f31]
 nn x := x.f0.f1
 value x := x.f1
 kind x := x.f2.f0.f0
 key x := x.f2.f0.f1
 pre x := x.f2.f0.f2
 seq x := x.f2.f1
 lock x := x.f2.f2
 wait x := x.f2.f3
 conf x := x.f3
 since x := x.f4
 dl x := x.f5
 budget x := x.f6
 hbs _ := rfl
theorem reads90 {w : World} {A : Option Addr} {n : Nat} {l : List S90} (h : Kd.C k90 w A n l) : ReadsRow (fun x c => c = I90.enc x) 44 w A n l :=
 ReadsRow.imp_ h (Below.refl _ w) (fun _ _ hp => k90_open hp)
instance : Inhabited S90 := ⟨z90⟩
/-- Is an input's point a key? -/
def keyB (x : S90) : Bool := (I90.bs x).all (fun n => decide (0 ≤ n) && decide (n ≤ 255)) && (decide (-9223372036854775808 ≤ I90.nn x) && decide (I90.nn x ≤ 9223372036854775807))
theorem keyed90 {l : List S90} (h : l.all keyB = true) : Keyed I90 l := fun x hx => by
 have h1 := List.all_eq_true.1 h x hx
 unfold keyB at h1
 simp only [Bool.and_eq_true, List.all_eq_true, decide_eq_true_eq] at h1
 exact key_of _ _ (I90.hbs x) h1.1 h1.2
theorem all90 {w : World} {A : Option Addr} {c : Nat} {l : List S90} (hr : Kd.C k90 w A l.length l) (hl : l.length < 100000) (hk : l.all keyB = true) (next limit key : Int) :
 Calls Try.prog 19 #[.slice A l.length c, .int .i64 next, .int .i64 limit, .int .i64 key] w fun e w' => AllR w e w' (allC I90 l next limit key) :=
 all_calls I90 (chkC I90) (rtC I90 next) (checkedC I90) (rate_bounds I90 next) next limit key (ratedC I90 next) (fitsC I90 limit key) (fittedC I90 next limit key) l (keyed90 hk) A c w (reads90 hr) hl
theorem make90 {w : World} {A : Option Addr} {c : Nat} {l : List S90} (hr : Kd.C k90 w A l.length l) (hl : l.length < 100000) (rate key : Int) :
 Calls Try.prog 38 #[.slice A l.length c, .int .i64 rate, .int .i64 key] w fun e w' => Made w e w' (makeC I90 l rate key) :=
 make_calls I90 (chkC I90) (checkedC I90) (totS 0) (fun l hl => ⟨l.length + 1, total_f l (by omega) _ (by omega)⟩) tcC txcheckedC l A c rate key w (reads90 hr) hl
end Go.Proofs.Ytiodebjjbgcbhaa.Inp
/- What the law's own made and one tell, in letters. -/
namespace Go.Proofs.Ytiodebjjbgcbhaa.Inp
open Go.RowKit Go.Sort Go.Lib Go.Shelf Go.Proofs.Ytiodebjjbgcbhaa Go.Proofs.Ytiodebjjbgcbhaa.Hand Go.Proofs.YtiodebjjbgcbhaaW.PrintWords Go.Proofs.YtiodebjjbgcbhaaW.PrintLast Go.Proofs.YtiodebjjbgcbhaaW.PrintMore Go.Proofs.Ytiodebjjbgcbhaa.RowK Go.Proofs.Ytiodebjjbgcbhaa.Fill Go.Proofs.Ytiodebjjbgcbhaa.OrdO Go.Proofs.Ytiodebjjbgcbhaa.QLef Go.Proofs.Ytiodebjjbgcbhaa.LefL
attribute [local go_sem ↓ high] Wide.hv44 Wide.hv33 Wide.hv37
set_option linter.unusedVariables false
set_option linter.unusedSectionVars false
set_option linter.unusedSimpArgs false
variable {α : Type}
def J68 : Spec S68 where
 bs x := [x.f0.f0.f0, x.f0.f0.f1, x.f0.f0.f2, x.f0.f0.f3, x.f0.f0.f4, x.f0.f0.f5, x.f0.f0.f6, x.f0.f0.f7, x.f0.f0.f8, x.f0.f0.f9, x.f0.f0.f10, x.f0.f0.f11, x.f0.f0.f12, x.f0.f0.f13, x.f0.f0.f14, x.f0.f0.f15, x.f0.f0.f16, x.f0.f0.f17, x.f0.f0.f18, x.f0.f0.f19, x.f0.f0.f20, x.f0.f0.f21, x.f0.f0.f22, x.f0.f0.f23, x.f0.f0.f24, x.f0.f0.f25, x.f0.f0.f26, x.f0.f0.f27, x.f0.f0.f28, x.f0.f0.f29, x.f0.f0.f30, x.f0.f0.f31]
 nn x := x.f0.f1
 value x := x.f1
 kind x := x.f2.f0.f0
 key x := x.f2.f0.f1
 pre x := x.f2.f0.f2
 seq x := x.f2.f1
 lock x := x.f2.f2
 wait x := x.f2.f3
 conf x := x.f3
 since x := x.f4
 dl x := x.f5
 budget x := x.f6
 hbs _ := rfl
def to90 (x : S68) : S90 := ⟨x.f0, x.f1, ⟨x.f2.f0, x.f2.f1, x.f2.f2, x.f2.f3⟩, x.f3, x.f4, x.f5, x.f6⟩
set_option maxHeartbeats 8000000 in
set_option maxRecDepth 100000 in
/-- coraclelaw17.made hands on all cells. -/
theorem made_calls (I : Spec α) (x : α) (w : World) : Calls Try.prog 43 #[.agg (I.enc x).toArray] w fun e w' => e = .returned (.agg (I.enc x).toArray) ∧ Below w.heap.size w w' := by
 have hx := I.hk x
 have tx := I.take_pt x
 have lx := I.hpt x
 have hh := I.h1 x
 have a0 : (I.enc x)[33]? = some (.int .i64 (I.value x)) := I.at_ x 0
 have a1 : (I.enc x)[34]? = some (.int .i64 (I.kind x)) := I.at_ x 1
 have a2 : (I.enc x)[35]? = some (.int .i64 (I.key x)) := I.at_ x 2
 have a3 : (I.enc x)[36]? = some (.string (I.pre x)) := I.at_ x 3
 have a4 : (I.enc x)[37]? = some (.int .i64 (I.seq x)) := I.at_ x 4
 have a5 : (I.enc x)[38]? = some (.int .i64 (I.lock x)) := I.at_ x 5
 have a6 : (I.enc x)[39]? = some (.int .i64 (I.wait x)) := I.at_ x 6
 have a7 : (I.enc x)[40]? = some (.int .i64 (I.conf x)) := I.at_ x 7
 have a8 : (I.enc x)[41]? = some (.int .i64 (I.since x)) := I.at_ x 8
 have a9 : (I.enc x)[42]? = some (.int .i64 (I.dl x)) := I.at_ x 9
 have a10 : (I.enc x)[43]? = some (.int .i64 (I.budget x)) := I.at_ x 10
 have hspl : I.enc x = I.pt x ++ ([.int .i64 (I.value x), .int .i64 (I.kind x), .int .i64 (I.key x), .string (I.pre x), .int .i64 (I.seq x), .int .i64 (I.lock x), .int .i64 (I.wait x), .int .i64 (I.conf x), .int .i64 (I.since x), .int .i64 (I.dl x), .int .i64 (I.budget x)] : List Value) := rfl
 generalize I.pt x = px at tx lx hspl
 generalize I.enc x = cx at hx tx hh hspl a0 a1 a2 a3 a4 a5 a6 a7 a8 a9 a10 ⊢
 generalize I.value x = n0 at a0 hspl
 generalize I.kind x = n1 at a1 hspl
 generalize I.key x = n2 at a2 hspl
 generalize I.pre x = n3 at a3 hspl
 generalize I.seq x = n4 at a4 hspl
 generalize I.lock x = n5 at a5 hspl
 generalize I.wait x = n6 at a6 hspl
 generalize I.conf x = n7 at a7 hspl
 generalize I.since x = n8 at a8 hspl
 generalize I.dl x = n9 at a9 hspl
 generalize I.budget x = n10 at a10 hspl
 obtain ⟨u0, u1, u2, u3, u4, u5, u6, u7, u8, u9, u10, u11, u12, u13, u14, u15, u16, u17, u18, u19, u20, u21, u22, u23, u24, u25, u26, u27, u28, u29, u30, u31, u32, rfl⟩ := list33 lx
 have hcx : cx = [u0, u1, u2, u3, u4, u5, u6, u7, u8, u9, u10, u11, u12, u13, u14, u15, u16, u17, u18, u19, u20, u21, u22, u23, u24, u25, u26, u27, u28, u29, u30, u31, u32, Value.int IntKind.i64 n0, Value.int IntKind.i64 n1, Value.int IntKind.i64 n2, Value.string n3, Value.int IntKind.i64 n4, Value.int IntKind.i64 n5, Value.int IntKind.i64 n6, Value.int IntKind.i64 n7, Value.int IntKind.i64 n8, Value.int IntKind.i64 n9, Value.int IntKind.i64 n10] := hspl
 clear hspl
 have hbx : (((w.alloc (.cells cx.toArray 68)).alloc (.cells #[Value.int IntKind.u8 0, Value.int IntKind.u8 0, Value.int IntKind.u8 0, Value.int IntKind.u8 0, Value.int IntKind.u8 0, Value.int IntKind.u8 0, Value.int IntKind.u8 0, Value.int IntKind.u8 0, Value.int IntKind.u8 0, Value.int IntKind.u8 0, Value.int IntKind.u8 0, Value.int IntKind.u8 0, Value.int IntKind.u8 0, Value.int IntKind.u8 0, Value.int IntKind.u8 0, Value.int IntKind.u8 0, Value.int IntKind.u8 0, Value.int IntKind.u8 0, Value.int IntKind.u8 0, Value.int IntKind.u8 0, Value.int IntKind.u8 0, Value.int IntKind.u8 0, Value.int IntKind.u8 0, Value.int IntKind.u8 0, Value.int IntKind.u8 0, Value.int IntKind.u8 0, Value.int IntKind.u8 0, Value.int IntKind.u8 0, Value.int IntKind.u8 0, Value.int IntKind.u8 0, Value.int IntKind.u8 0, Value.int IntKind.u8 0, Value.int IntKind.i64 0, Value.int IntKind.i64 0, Value.int IntKind.i64 0, Value.int IntKind.i64 0, Value.string { data := #[] }, Value.int IntKind.i64 0, Value.int IntKind.i64 0, Value.int IntKind.i64 0, Value.int IntKind.i64 0, Value.int IntKind.i64 0, Value.int IntKind.i64 0, Value.int IntKind.i64 0] 90))).heap[w.heap.size]? = some (.cells cx.toArray 68 (0, 0)) := (Below.heap_alloc _ _ _ (by simp)).trans (blk_new w _)
 have hl1 : Sem.run Try.prog (Wide.heavy0 ⟨w.heap.size, 0, none⟩ 33) (((w.alloc (.cells cx.toArray 68)).alloc (.cells #[Value.int IntKind.u8 0, Value.int IntKind.u8 0, Value.int IntKind.u8 0, Value.int IntKind.u8 0, Value.int IntKind.u8 0, Value.int IntKind.u8 0, Value.int IntKind.u8 0, Value.int IntKind.u8 0, Value.int IntKind.u8 0, Value.int IntKind.u8 0, Value.int IntKind.u8 0, Value.int IntKind.u8 0, Value.int IntKind.u8 0, Value.int IntKind.u8 0, Value.int IntKind.u8 0, Value.int IntKind.u8 0, Value.int IntKind.u8 0, Value.int IntKind.u8 0, Value.int IntKind.u8 0, Value.int IntKind.u8 0, Value.int IntKind.u8 0, Value.int IntKind.u8 0, Value.int IntKind.u8 0, Value.int IntKind.u8 0, Value.int IntKind.u8 0, Value.int IntKind.u8 0, Value.int IntKind.u8 0, Value.int IntKind.u8 0, Value.int IntKind.u8 0, Value.int IntKind.u8 0, Value.int IntKind.u8 0, Value.int IntKind.u8 0, Value.int IntKind.i64 0, Value.int IntKind.i64 0, Value.int IntKind.i64 0, Value.int IntKind.i64 0, Value.string { data := #[] }, Value.int IntKind.i64 0, Value.int IntKind.i64 0, Value.int IntKind.i64 0, Value.int IntKind.i64 0, Value.int IntKind.i64 0, Value.int IntKind.i64 0, Value.int IntKind.i64 0] 90))) = .ok #[u0, u1, u2, u3, u4, u5, u6, u7, u8, u9, u10, u11, u12, u13, u14, u15, u16, u17, u18, u19, u20, u21, u22, u23, u24, u25, u26, u27, u28, u29, u30, u31, u32] _ := row_load hbx 0 33 _ lx (by rw [List.drop_zero]; exact tx)
 have k33 : (((w.alloc (.cells cx.toArray 68)).alloc (.cells #[Value.int IntKind.u8 0, Value.int IntKind.u8 0, Value.int IntKind.u8 0, Value.int IntKind.u8 0, Value.int IntKind.u8 0, Value.int IntKind.u8 0, Value.int IntKind.u8 0, Value.int IntKind.u8 0, Value.int IntKind.u8 0, Value.int IntKind.u8 0, Value.int IntKind.u8 0, Value.int IntKind.u8 0, Value.int IntKind.u8 0, Value.int IntKind.u8 0, Value.int IntKind.u8 0, Value.int IntKind.u8 0, Value.int IntKind.u8 0, Value.int IntKind.u8 0, Value.int IntKind.u8 0, Value.int IntKind.u8 0, Value.int IntKind.u8 0, Value.int IntKind.u8 0, Value.int IntKind.u8 0, Value.int IntKind.u8 0, Value.int IntKind.u8 0, Value.int IntKind.u8 0, Value.int IntKind.u8 0, Value.int IntKind.u8 0, Value.int IntKind.u8 0, Value.int IntKind.u8 0, Value.int IntKind.u8 0, Value.int IntKind.u8 0, Value.int IntKind.i64 0, Value.int IntKind.i64 0, Value.int IntKind.i64 0, Value.int IntKind.i64 0, Value.string { data := #[] }, Value.int IntKind.i64 0, Value.int IntKind.i64 0, Value.int IntKind.i64 0, Value.int IntKind.i64 0, Value.int IntKind.i64 0, Value.int IntKind.i64 0, Value.int IntKind.i64 0] 90))).cell? ⟨w.heap.size, 33, none⟩ = _ := (blk_cell hbx 33).trans (by simpa using a0)
 have k34 : (((w.alloc (.cells cx.toArray 68)).alloc (.cells #[Value.int IntKind.u8 0, Value.int IntKind.u8 0, Value.int IntKind.u8 0, Value.int IntKind.u8 0, Value.int IntKind.u8 0, Value.int IntKind.u8 0, Value.int IntKind.u8 0, Value.int IntKind.u8 0, Value.int IntKind.u8 0, Value.int IntKind.u8 0, Value.int IntKind.u8 0, Value.int IntKind.u8 0, Value.int IntKind.u8 0, Value.int IntKind.u8 0, Value.int IntKind.u8 0, Value.int IntKind.u8 0, Value.int IntKind.u8 0, Value.int IntKind.u8 0, Value.int IntKind.u8 0, Value.int IntKind.u8 0, Value.int IntKind.u8 0, Value.int IntKind.u8 0, Value.int IntKind.u8 0, Value.int IntKind.u8 0, Value.int IntKind.u8 0, Value.int IntKind.u8 0, Value.int IntKind.u8 0, Value.int IntKind.u8 0, Value.int IntKind.u8 0, Value.int IntKind.u8 0, Value.int IntKind.u8 0, Value.int IntKind.u8 0, Value.int IntKind.i64 0, Value.int IntKind.i64 0, Value.int IntKind.i64 0, Value.int IntKind.i64 0, Value.string { data := #[] }, Value.int IntKind.i64 0, Value.int IntKind.i64 0, Value.int IntKind.i64 0, Value.int IntKind.i64 0, Value.int IntKind.i64 0, Value.int IntKind.i64 0, Value.int IntKind.i64 0] 90))).cell? ⟨w.heap.size, 34, none⟩ = _ := (blk_cell hbx 34).trans (by simpa using a1)
 have k35 : (((w.alloc (.cells cx.toArray 68)).alloc (.cells #[Value.int IntKind.u8 0, Value.int IntKind.u8 0, Value.int IntKind.u8 0, Value.int IntKind.u8 0, Value.int IntKind.u8 0, Value.int IntKind.u8 0, Value.int IntKind.u8 0, Value.int IntKind.u8 0, Value.int IntKind.u8 0, Value.int IntKind.u8 0, Value.int IntKind.u8 0, Value.int IntKind.u8 0, Value.int IntKind.u8 0, Value.int IntKind.u8 0, Value.int IntKind.u8 0, Value.int IntKind.u8 0, Value.int IntKind.u8 0, Value.int IntKind.u8 0, Value.int IntKind.u8 0, Value.int IntKind.u8 0, Value.int IntKind.u8 0, Value.int IntKind.u8 0, Value.int IntKind.u8 0, Value.int IntKind.u8 0, Value.int IntKind.u8 0, Value.int IntKind.u8 0, Value.int IntKind.u8 0, Value.int IntKind.u8 0, Value.int IntKind.u8 0, Value.int IntKind.u8 0, Value.int IntKind.u8 0, Value.int IntKind.u8 0, Value.int IntKind.i64 0, Value.int IntKind.i64 0, Value.int IntKind.i64 0, Value.int IntKind.i64 0, Value.string { data := #[] }, Value.int IntKind.i64 0, Value.int IntKind.i64 0, Value.int IntKind.i64 0, Value.int IntKind.i64 0, Value.int IntKind.i64 0, Value.int IntKind.i64 0, Value.int IntKind.i64 0] 90))).cell? ⟨w.heap.size, 35, none⟩ = _ := (blk_cell hbx 35).trans (by simpa using a2)
 have k36 : (((w.alloc (.cells cx.toArray 68)).alloc (.cells #[Value.int IntKind.u8 0, Value.int IntKind.u8 0, Value.int IntKind.u8 0, Value.int IntKind.u8 0, Value.int IntKind.u8 0, Value.int IntKind.u8 0, Value.int IntKind.u8 0, Value.int IntKind.u8 0, Value.int IntKind.u8 0, Value.int IntKind.u8 0, Value.int IntKind.u8 0, Value.int IntKind.u8 0, Value.int IntKind.u8 0, Value.int IntKind.u8 0, Value.int IntKind.u8 0, Value.int IntKind.u8 0, Value.int IntKind.u8 0, Value.int IntKind.u8 0, Value.int IntKind.u8 0, Value.int IntKind.u8 0, Value.int IntKind.u8 0, Value.int IntKind.u8 0, Value.int IntKind.u8 0, Value.int IntKind.u8 0, Value.int IntKind.u8 0, Value.int IntKind.u8 0, Value.int IntKind.u8 0, Value.int IntKind.u8 0, Value.int IntKind.u8 0, Value.int IntKind.u8 0, Value.int IntKind.u8 0, Value.int IntKind.u8 0, Value.int IntKind.i64 0, Value.int IntKind.i64 0, Value.int IntKind.i64 0, Value.int IntKind.i64 0, Value.string { data := #[] }, Value.int IntKind.i64 0, Value.int IntKind.i64 0, Value.int IntKind.i64 0, Value.int IntKind.i64 0, Value.int IntKind.i64 0, Value.int IntKind.i64 0, Value.int IntKind.i64 0] 90))).cell? ⟨w.heap.size, 36, none⟩ = _ := (blk_cell hbx 36).trans (by simpa using a3)
 have k37 : (((w.alloc (.cells cx.toArray 68)).alloc (.cells #[Value.int IntKind.u8 0, Value.int IntKind.u8 0, Value.int IntKind.u8 0, Value.int IntKind.u8 0, Value.int IntKind.u8 0, Value.int IntKind.u8 0, Value.int IntKind.u8 0, Value.int IntKind.u8 0, Value.int IntKind.u8 0, Value.int IntKind.u8 0, Value.int IntKind.u8 0, Value.int IntKind.u8 0, Value.int IntKind.u8 0, Value.int IntKind.u8 0, Value.int IntKind.u8 0, Value.int IntKind.u8 0, Value.int IntKind.u8 0, Value.int IntKind.u8 0, Value.int IntKind.u8 0, Value.int IntKind.u8 0, Value.int IntKind.u8 0, Value.int IntKind.u8 0, Value.int IntKind.u8 0, Value.int IntKind.u8 0, Value.int IntKind.u8 0, Value.int IntKind.u8 0, Value.int IntKind.u8 0, Value.int IntKind.u8 0, Value.int IntKind.u8 0, Value.int IntKind.u8 0, Value.int IntKind.u8 0, Value.int IntKind.u8 0, Value.int IntKind.i64 0, Value.int IntKind.i64 0, Value.int IntKind.i64 0, Value.int IntKind.i64 0, Value.string { data := #[] }, Value.int IntKind.i64 0, Value.int IntKind.i64 0, Value.int IntKind.i64 0, Value.int IntKind.i64 0, Value.int IntKind.i64 0, Value.int IntKind.i64 0, Value.int IntKind.i64 0] 90))).cell? ⟨w.heap.size, 37, none⟩ = _ := (blk_cell hbx 37).trans (by simpa using a4)
 have k38 : (((w.alloc (.cells cx.toArray 68)).alloc (.cells #[Value.int IntKind.u8 0, Value.int IntKind.u8 0, Value.int IntKind.u8 0, Value.int IntKind.u8 0, Value.int IntKind.u8 0, Value.int IntKind.u8 0, Value.int IntKind.u8 0, Value.int IntKind.u8 0, Value.int IntKind.u8 0, Value.int IntKind.u8 0, Value.int IntKind.u8 0, Value.int IntKind.u8 0, Value.int IntKind.u8 0, Value.int IntKind.u8 0, Value.int IntKind.u8 0, Value.int IntKind.u8 0, Value.int IntKind.u8 0, Value.int IntKind.u8 0, Value.int IntKind.u8 0, Value.int IntKind.u8 0, Value.int IntKind.u8 0, Value.int IntKind.u8 0, Value.int IntKind.u8 0, Value.int IntKind.u8 0, Value.int IntKind.u8 0, Value.int IntKind.u8 0, Value.int IntKind.u8 0, Value.int IntKind.u8 0, Value.int IntKind.u8 0, Value.int IntKind.u8 0, Value.int IntKind.u8 0, Value.int IntKind.u8 0, Value.int IntKind.i64 0, Value.int IntKind.i64 0, Value.int IntKind.i64 0, Value.int IntKind.i64 0, Value.string { data := #[] }, Value.int IntKind.i64 0, Value.int IntKind.i64 0, Value.int IntKind.i64 0, Value.int IntKind.i64 0, Value.int IntKind.i64 0, Value.int IntKind.i64 0, Value.int IntKind.i64 0] 90))).cell? ⟨w.heap.size, 38, none⟩ = _ := (blk_cell hbx 38).trans (by simpa using a5)
 have k39 : (((w.alloc (.cells cx.toArray 68)).alloc (.cells #[Value.int IntKind.u8 0, Value.int IntKind.u8 0, Value.int IntKind.u8 0, Value.int IntKind.u8 0, Value.int IntKind.u8 0, Value.int IntKind.u8 0, Value.int IntKind.u8 0, Value.int IntKind.u8 0, Value.int IntKind.u8 0, Value.int IntKind.u8 0, Value.int IntKind.u8 0, Value.int IntKind.u8 0, Value.int IntKind.u8 0, Value.int IntKind.u8 0, Value.int IntKind.u8 0, Value.int IntKind.u8 0, Value.int IntKind.u8 0, Value.int IntKind.u8 0, Value.int IntKind.u8 0, Value.int IntKind.u8 0, Value.int IntKind.u8 0, Value.int IntKind.u8 0, Value.int IntKind.u8 0, Value.int IntKind.u8 0, Value.int IntKind.u8 0, Value.int IntKind.u8 0, Value.int IntKind.u8 0, Value.int IntKind.u8 0, Value.int IntKind.u8 0, Value.int IntKind.u8 0, Value.int IntKind.u8 0, Value.int IntKind.u8 0, Value.int IntKind.i64 0, Value.int IntKind.i64 0, Value.int IntKind.i64 0, Value.int IntKind.i64 0, Value.string { data := #[] }, Value.int IntKind.i64 0, Value.int IntKind.i64 0, Value.int IntKind.i64 0, Value.int IntKind.i64 0, Value.int IntKind.i64 0, Value.int IntKind.i64 0, Value.int IntKind.i64 0] 90))).cell? ⟨w.heap.size, 39, none⟩ = _ := (blk_cell hbx 39).trans (by simpa using a6)
 have k40 : (((w.alloc (.cells cx.toArray 68)).alloc (.cells #[Value.int IntKind.u8 0, Value.int IntKind.u8 0, Value.int IntKind.u8 0, Value.int IntKind.u8 0, Value.int IntKind.u8 0, Value.int IntKind.u8 0, Value.int IntKind.u8 0, Value.int IntKind.u8 0, Value.int IntKind.u8 0, Value.int IntKind.u8 0, Value.int IntKind.u8 0, Value.int IntKind.u8 0, Value.int IntKind.u8 0, Value.int IntKind.u8 0, Value.int IntKind.u8 0, Value.int IntKind.u8 0, Value.int IntKind.u8 0, Value.int IntKind.u8 0, Value.int IntKind.u8 0, Value.int IntKind.u8 0, Value.int IntKind.u8 0, Value.int IntKind.u8 0, Value.int IntKind.u8 0, Value.int IntKind.u8 0, Value.int IntKind.u8 0, Value.int IntKind.u8 0, Value.int IntKind.u8 0, Value.int IntKind.u8 0, Value.int IntKind.u8 0, Value.int IntKind.u8 0, Value.int IntKind.u8 0, Value.int IntKind.u8 0, Value.int IntKind.i64 0, Value.int IntKind.i64 0, Value.int IntKind.i64 0, Value.int IntKind.i64 0, Value.string { data := #[] }, Value.int IntKind.i64 0, Value.int IntKind.i64 0, Value.int IntKind.i64 0, Value.int IntKind.i64 0, Value.int IntKind.i64 0, Value.int IntKind.i64 0, Value.int IntKind.i64 0] 90))).cell? ⟨w.heap.size, 40, none⟩ = _ := (blk_cell hbx 40).trans (by simpa using a7)
 have k41 : (((w.alloc (.cells cx.toArray 68)).alloc (.cells #[Value.int IntKind.u8 0, Value.int IntKind.u8 0, Value.int IntKind.u8 0, Value.int IntKind.u8 0, Value.int IntKind.u8 0, Value.int IntKind.u8 0, Value.int IntKind.u8 0, Value.int IntKind.u8 0, Value.int IntKind.u8 0, Value.int IntKind.u8 0, Value.int IntKind.u8 0, Value.int IntKind.u8 0, Value.int IntKind.u8 0, Value.int IntKind.u8 0, Value.int IntKind.u8 0, Value.int IntKind.u8 0, Value.int IntKind.u8 0, Value.int IntKind.u8 0, Value.int IntKind.u8 0, Value.int IntKind.u8 0, Value.int IntKind.u8 0, Value.int IntKind.u8 0, Value.int IntKind.u8 0, Value.int IntKind.u8 0, Value.int IntKind.u8 0, Value.int IntKind.u8 0, Value.int IntKind.u8 0, Value.int IntKind.u8 0, Value.int IntKind.u8 0, Value.int IntKind.u8 0, Value.int IntKind.u8 0, Value.int IntKind.u8 0, Value.int IntKind.i64 0, Value.int IntKind.i64 0, Value.int IntKind.i64 0, Value.int IntKind.i64 0, Value.string { data := #[] }, Value.int IntKind.i64 0, Value.int IntKind.i64 0, Value.int IntKind.i64 0, Value.int IntKind.i64 0, Value.int IntKind.i64 0, Value.int IntKind.i64 0, Value.int IntKind.i64 0] 90))).cell? ⟨w.heap.size, 41, none⟩ = _ := (blk_cell hbx 41).trans (by simpa using a8)
 have k42 : (((w.alloc (.cells cx.toArray 68)).alloc (.cells #[Value.int IntKind.u8 0, Value.int IntKind.u8 0, Value.int IntKind.u8 0, Value.int IntKind.u8 0, Value.int IntKind.u8 0, Value.int IntKind.u8 0, Value.int IntKind.u8 0, Value.int IntKind.u8 0, Value.int IntKind.u8 0, Value.int IntKind.u8 0, Value.int IntKind.u8 0, Value.int IntKind.u8 0, Value.int IntKind.u8 0, Value.int IntKind.u8 0, Value.int IntKind.u8 0, Value.int IntKind.u8 0, Value.int IntKind.u8 0, Value.int IntKind.u8 0, Value.int IntKind.u8 0, Value.int IntKind.u8 0, Value.int IntKind.u8 0, Value.int IntKind.u8 0, Value.int IntKind.u8 0, Value.int IntKind.u8 0, Value.int IntKind.u8 0, Value.int IntKind.u8 0, Value.int IntKind.u8 0, Value.int IntKind.u8 0, Value.int IntKind.u8 0, Value.int IntKind.u8 0, Value.int IntKind.u8 0, Value.int IntKind.u8 0, Value.int IntKind.i64 0, Value.int IntKind.i64 0, Value.int IntKind.i64 0, Value.int IntKind.i64 0, Value.string { data := #[] }, Value.int IntKind.i64 0, Value.int IntKind.i64 0, Value.int IntKind.i64 0, Value.int IntKind.i64 0, Value.int IntKind.i64 0, Value.int IntKind.i64 0, Value.int IntKind.i64 0] 90))).cell? ⟨w.heap.size, 42, none⟩ = _ := (blk_cell hbx 42).trans (by simpa using a9)
 have k43 : (((w.alloc (.cells cx.toArray 68)).alloc (.cells #[Value.int IntKind.u8 0, Value.int IntKind.u8 0, Value.int IntKind.u8 0, Value.int IntKind.u8 0, Value.int IntKind.u8 0, Value.int IntKind.u8 0, Value.int IntKind.u8 0, Value.int IntKind.u8 0, Value.int IntKind.u8 0, Value.int IntKind.u8 0, Value.int IntKind.u8 0, Value.int IntKind.u8 0, Value.int IntKind.u8 0, Value.int IntKind.u8 0, Value.int IntKind.u8 0, Value.int IntKind.u8 0, Value.int IntKind.u8 0, Value.int IntKind.u8 0, Value.int IntKind.u8 0, Value.int IntKind.u8 0, Value.int IntKind.u8 0, Value.int IntKind.u8 0, Value.int IntKind.u8 0, Value.int IntKind.u8 0, Value.int IntKind.u8 0, Value.int IntKind.u8 0, Value.int IntKind.u8 0, Value.int IntKind.u8 0, Value.int IntKind.u8 0, Value.int IntKind.u8 0, Value.int IntKind.u8 0, Value.int IntKind.u8 0, Value.int IntKind.i64 0, Value.int IntKind.i64 0, Value.int IntKind.i64 0, Value.int IntKind.i64 0, Value.string { data := #[] }, Value.int IntKind.i64 0, Value.int IntKind.i64 0, Value.int IntKind.i64 0, Value.int IntKind.i64 0, Value.int IntKind.i64 0, Value.int IntKind.i64 0, Value.int IntKind.i64 0] 90))).cell? ⟨w.heap.size, 43, none⟩ = _ := (blk_cell hbx 43).trans (by simpa using a10)
 have hbz : (((w.alloc (.cells cx.toArray 68)).alloc (.cells #[Value.int IntKind.u8 0, Value.int IntKind.u8 0, Value.int IntKind.u8 0, Value.int IntKind.u8 0, Value.int IntKind.u8 0, Value.int IntKind.u8 0, Value.int IntKind.u8 0, Value.int IntKind.u8 0, Value.int IntKind.u8 0, Value.int IntKind.u8 0, Value.int IntKind.u8 0, Value.int IntKind.u8 0, Value.int IntKind.u8 0, Value.int IntKind.u8 0, Value.int IntKind.u8 0, Value.int IntKind.u8 0, Value.int IntKind.u8 0, Value.int IntKind.u8 0, Value.int IntKind.u8 0, Value.int IntKind.u8 0, Value.int IntKind.u8 0, Value.int IntKind.u8 0, Value.int IntKind.u8 0, Value.int IntKind.u8 0, Value.int IntKind.u8 0, Value.int IntKind.u8 0, Value.int IntKind.u8 0, Value.int IntKind.u8 0, Value.int IntKind.u8 0, Value.int IntKind.u8 0, Value.int IntKind.u8 0, Value.int IntKind.u8 0, Value.int IntKind.i64 0, Value.int IntKind.i64 0, Value.int IntKind.i64 0, Value.int IntKind.i64 0, Value.string { data := #[] }, Value.int IntKind.i64 0, Value.int IntKind.i64 0, Value.int IntKind.i64 0, Value.int IntKind.i64 0, Value.int IntKind.i64 0, Value.int IntKind.i64 0, Value.int IntKind.i64 0] 90))).heap[w.heap.size + 1]? = some (.cells #[Value.int IntKind.u8 0, Value.int IntKind.u8 0, Value.int IntKind.u8 0, Value.int IntKind.u8 0, Value.int IntKind.u8 0, Value.int IntKind.u8 0, Value.int IntKind.u8 0, Value.int IntKind.u8 0, Value.int IntKind.u8 0, Value.int IntKind.u8 0, Value.int IntKind.u8 0, Value.int IntKind.u8 0, Value.int IntKind.u8 0, Value.int IntKind.u8 0, Value.int IntKind.u8 0, Value.int IntKind.u8 0, Value.int IntKind.u8 0, Value.int IntKind.u8 0, Value.int IntKind.u8 0, Value.int IntKind.u8 0, Value.int IntKind.u8 0, Value.int IntKind.u8 0, Value.int IntKind.u8 0, Value.int IntKind.u8 0, Value.int IntKind.u8 0, Value.int IntKind.u8 0, Value.int IntKind.u8 0, Value.int IntKind.u8 0, Value.int IntKind.u8 0, Value.int IntKind.u8 0, Value.int IntKind.u8 0, Value.int IntKind.u8 0, Value.int IntKind.i64 0, Value.int IntKind.i64 0, Value.int IntKind.i64 0, Value.int IntKind.i64 0, Value.string { data := #[] }, Value.int IntKind.i64 0, Value.int IntKind.i64 0, Value.int IntKind.i64 0, Value.int IntKind.i64 0, Value.int IntKind.i64 0, Value.int IntKind.i64 0, Value.int IntKind.i64 0] 90 (0, 0)) := by
  have := blk_new (w.alloc (.cells cx.toArray 68)) (.cells #[Value.int IntKind.u8 0, Value.int IntKind.u8 0, Value.int IntKind.u8 0, Value.int IntKind.u8 0, Value.int IntKind.u8 0, Value.int IntKind.u8 0, Value.int IntKind.u8 0, Value.int IntKind.u8 0, Value.int IntKind.u8 0, Value.int IntKind.u8 0, Value.int IntKind.u8 0, Value.int IntKind.u8 0, Value.int IntKind.u8 0, Value.int IntKind.u8 0, Value.int IntKind.u8 0, Value.int IntKind.u8 0, Value.int IntKind.u8 0, Value.int IntKind.u8 0, Value.int IntKind.u8 0, Value.int IntKind.u8 0, Value.int IntKind.u8 0, Value.int IntKind.u8 0, Value.int IntKind.u8 0, Value.int IntKind.u8 0, Value.int IntKind.u8 0, Value.int IntKind.u8 0, Value.int IntKind.u8 0, Value.int IntKind.u8 0, Value.int IntKind.u8 0, Value.int IntKind.u8 0, Value.int IntKind.u8 0, Value.int IntKind.u8 0, Value.int IntKind.i64 0, Value.int IntKind.i64 0, Value.int IntKind.i64 0, Value.int IntKind.i64 0, Value.string { data := #[] }, Value.int IntKind.i64 0, Value.int IntKind.i64 0, Value.int IntKind.i64 0, Value.int IntKind.i64 0, Value.int IntKind.i64 0, Value.int IntKind.i64 0, Value.int IntKind.i64 0] 90)
  rwa [World.size_alloc] at this
 have h1 : ([u0, u1, u2, u3, u4, u5, u6, u7, u8, u9, u10, u11, u12, u13, u14, u15, u16, u17, u18, u19, u20, u21, u22, u23, u24, u25, u26, u27, u28, u29, u30, u31, u32, Value.int IntKind.i64 n0, Value.int IntKind.i64 n1, Value.int IntKind.i64 n2, Value.string n3, Value.int IntKind.i64 n4, Value.int IntKind.i64 n5, Value.int IntKind.i64 n6, Value.int IntKind.i64 n7, Value.int IntKind.i64 n8, Value.int IntKind.i64 n9, Value.int IntKind.i64 n10].toArray : Array Value).all (·.oneCell') = true := by
  rw [Array.all_eq_true_iff_forall_mem]
  intro v hv
  rw [List.mem_toArray, ← hcx] at hv
  exact hh v hv
 have HB := Aside0.mk (show Below w.heap.size w (((w.alloc (.cells cx.toArray 68)).alloc (.cells #[Value.int IntKind.u8 0, Value.int IntKind.u8 0, Value.int IntKind.u8 0, Value.int IntKind.u8 0, Value.int IntKind.u8 0, Value.int IntKind.u8 0, Value.int IntKind.u8 0, Value.int IntKind.u8 0, Value.int IntKind.u8 0, Value.int IntKind.u8 0, Value.int IntKind.u8 0, Value.int IntKind.u8 0, Value.int IntKind.u8 0, Value.int IntKind.u8 0, Value.int IntKind.u8 0, Value.int IntKind.u8 0, Value.int IntKind.u8 0, Value.int IntKind.u8 0, Value.int IntKind.u8 0, Value.int IntKind.u8 0, Value.int IntKind.u8 0, Value.int IntKind.u8 0, Value.int IntKind.u8 0, Value.int IntKind.u8 0, Value.int IntKind.u8 0, Value.int IntKind.u8 0, Value.int IntKind.u8 0, Value.int IntKind.u8 0, Value.int IntKind.u8 0, Value.int IntKind.u8 0, Value.int IntKind.u8 0, Value.int IntKind.u8 0, Value.int IntKind.i64 0, Value.int IntKind.i64 0, Value.int IntKind.i64 0, Value.int IntKind.i64 0, Value.string { data := #[] }, Value.int IntKind.i64 0, Value.int IntKind.i64 0, Value.int IntKind.i64 0, Value.int IntKind.i64 0, Value.int IntKind.i64 0, Value.int IntKind.i64 0, Value.int IntKind.i64 0] 90))) from below_alloc (below_alloc (Below.refl _ _) _) _)
 have HX := Aside0.mk (And.intro hbz h1)
 have HC := Aside0.mk hcx
 clear hbz h1 hbx lx tx hh hcx hx a0 a1 a2 a3 a4 a5 a6 a7 a8 a9 a10
 go_enter Try.func43, Try.ntmps43
 go_wp2_with (first | ((with_reducible refine gate_store (t := 90) (p := 2) rfl ?_); refine PutW.store_event ?b1 ?b2 90 (.tmp 2) (.tmp 28) ?b3 (g := w.heap.size + 1) (t := 90) (cells := #[u0, u1, u2, u3, u4, u5, u6, u7, u8, u9, u10, u11, u12, u13, u14, u15, u16, u17, u18, u19, u20, u21, u22, u23, u24, u25, u26, u27, u28, u29, u30, u31, u32, Value.int IntKind.i64 n0, Value.int IntKind.i64 n1, Value.int IntKind.i64 n2, Value.string n3, Value.int IntKind.i64 n4, Value.int IntKind.i64 n5, Value.int IntKind.i64 n6, Value.int IntKind.i64 n7, Value.int IntKind.i64 n8, Value.int IntKind.i64 n9, Value.int IntKind.i64 n10]) ?a1 ?a2 HX.out.1 ?a3 ?a4 HX.out.2 ?_; (case b1 => rfl); (case b2 => rfl); (case b3 => rfl); (case a1 => first | rfl | (go_simp; done)); (case a2 => first | rfl | (go_simp; done)); (case a3 => rfl); (case a4 => kernel_rfl); intro w3 hz3 hs3 hg3; have HB3 := Aside0.mk (pw_below_grown HB.out (some (w.heap.size + 1)) HB.out.size hg3 (fun k e => by cases e; omega)); have BK3 := Aside0.mk hz3; clear hz3 hs3 hg3 hl1 k33 k34 k35 k36 k37 k38 k39 k40 k41 k42 k43))
 refine bodyPost_ret (results_cell_row rfl _ _ (w.heap.size + 1) 90 #[u0, u1, u2, u3, u4, u5, u6, u7, u8, u9, u10, u11, u12, u13, u14, u15, u16, u17, u18, u19, u20, u21, u22, u23, u24, u25, u26, u27, u28, u29, u30, u31, u32, Value.int IntKind.i64 n0, Value.int IntKind.i64 n1, Value.int IntKind.i64 n2, Value.string n3, Value.int IntKind.i64 n4, Value.int IntKind.i64 n5, Value.int IntKind.i64 n6, Value.int IntKind.i64 n7, Value.int IntKind.i64 n8, Value.int IntKind.i64 n9, Value.int IntKind.i64 n10] (0, 0) _ rfl BK3.out Try.underlying90 rfl (by kernel_rfl)) rfl ?_
 exact ⟨by rw [HC.out], HB3.out⟩
/-- An input of a number. -/
def one68 (n v b : Int) : S68 := ⟨⟨⟨0, 0, 0, 0, 0, 0, 0, 0, 0, 0, 0, 0, 0, 0, 0, 0, 0, 0, 0, 0, 0, 0, 0, 0, 0, 0, 0, 0, 0, 0, 0, 0⟩, n⟩, v, ⟨⟨1, 2, ⟨#[]⟩⟩, 0, 0, 0⟩, 0, 0, 10, b⟩
set_option maxHeartbeats 8000000 in
set_option maxRecDepth 100000 in
theorem one_calls' (n v b : Int) (w : World) : Calls Try.prog 25 #[.int .i64 n, .int .i64 v, .int .i64 b] w fun e w' => e = .returned (.agg (J68.enc (one68 n v b)).toArray) ∧ Below w.heap.size w w' := by
 obtain ⟨cs, hcs⟩ : ∃ c : Array Value, c = #[.int .u8 0, .int .u8 0, .int .u8 0, .int .u8 0, .int .u8 0, .int .u8 0, .int .u8 0, .int .u8 0, .int .u8 0, .int .u8 0, .int .u8 0, .int .u8 0, .int .u8 0, .int .u8 0, .int .u8 0, .int .u8 0, .int .u8 0, .int .u8 0, .int .u8 0, .int .u8 0, .int .u8 0, .int .u8 0, .int .u8 0, .int .u8 0, .int .u8 0, .int .u8 0, .int .u8 0, .int .u8 0, .int .u8 0, .int .u8 0, .int .u8 0, .int .u8 0, .int .i64 n, .int .i64 v, .int .i64 1, .int .i64 2, .string ⟨#[]⟩, .int .i64 0, .int .i64 0, .int .i64 0, .int .i64 0, .int .i64 0, .int .i64 10, .int .i64 b] := ⟨_, rfl⟩
 have hres : (J68.enc (one68 n v b)).toArray = cs := by rw [hcs]; rfl
 have h1 : cs.all (·.oneCell') = true := by
  rw [← hres, Array.all_eq_true_iff_forall_mem]
  intro u hu
  exact J68.h1 _ u (List.mem_toArray.1 hu)
 have hsz : cs.size = 44 := by rw [← hres, List.size_toArray]; exact J68.hk _
 have CS := Aside0.mk hcs
 have HX := Aside0.mk (And.intro hres (And.intro h1 hsz))
 clear hcs hres h1 hsz
 rw [HX.out.1]
 go_enter Try.func25, Try.ntmps25
 go_wp2_with (first | ((with_reducible refine gate_store (t := 68) (p := 6) rfl ?_); refine PutW.store_event ?b1 ?b2 68 (.tmp 6) (.tmp 13) ?b3 (g := w.heap.size) (t := 68) (cells := cs) ?a1 ?a2 (blk_new w _) ?a3 ?a4 HX.out.2.1 ?_; (case b1 => rfl); (case b2 => rfl); (case b3 => rfl); (case a1 => first | rfl | (go_simp; done)); (case a2 => rw [CS.out]; first | rfl | (go_simp; done)); (case a3 => rw [HX.out.2.2]; rfl); (case a4 => rw [HX.out.2.2]; kernel_rfl); intro w3 hz3 hs3 hg3; have HB3 := Aside0.mk (pw_below_grown (below_alloc (Below.refl _ _) _) (some w.heap.size) (below_alloc (Below.refl _ _) _).size hg3 (fun k e => by cases e; exact Nat.le_refl _)); have BK3 := Aside0.mk hz3; clear hz3 hs3 hg3))
 refine bodyPost_ret (results_cell_row rfl _ _ w.heap.size 68 cs (0, 0) _ rfl BK3.out Try.underlying68 rfl (by rw [HX.out.2.2]; kernel_rfl)) rfl ?_
 exact ⟨rfl, HB3.out⟩
end Go.Proofs.Ytiodebjjbgcbhaa.Inp
/- Plain theory: what goes together, of inputs that are alike but for their points, locks and waits. -/
namespace Go.Proofs.Ytiodebjjbgcbhaa.Pure
open Go Go.Proofs.Ytiodebjjbgcbhaa.Inp Go.Proofs.Ytiodebjjbgcbhaa.QLef Go.Proofs.Ytiodebjjbgcbhaa.LefL Go.Proofs.Ytiodebjjbgcbhaa.OrdO Go.Proofs.Ytiodebjjbgcbhaa.OrdQ
set_option linter.unusedVariables false
set_option linter.unusedSimpArgs false
theorem snoc_ind {α : Type} {P : List α → Prop} (h0 : P []) (h1 : ∀ l x, P l → P (l ++ [x])) : ∀ l, P l := by
 have key : ∀ l : List α, P l.reverse := by
  intro l
  induction l with
  | nil => exact h0
  | cons x l ih => rw [List.reverse_cons]; exact h1 _ _ ih
 intro l
 have := key l.reverse
 rwa [List.reverse_reverse] at this
theorem wiB_true {a b c : Int} (h : b ≤ a ∧ a ≤ c) : wiB a b c = true := by simp [wiB, h.1, h.2]
theorem tot_all : ∀ (l : List Int) (s : Int), (∀ a ∈ l, 0 ≤ a) → 0 ≤ s → s + l.sum ≤ 2100000000000000 → totS s l = (s + l.sum, 0)
 | [], s, _, _, _ => by simp [totS]
 | a :: l, s, h, hs, hm => by
  have ha := h a List.mem_cons_self
  have hl : 0 ≤ l.sum := by
   have : ∀ l : List Int, (∀ a ∈ l, 0 ≤ a) → 0 ≤ l.sum := by
    intro l
    induction l with
    | nil => intro _; simp
    | cons b l ih => intro h; rw [List.sum_cons]; have := ih (fun a h' => h a (List.mem_cons_of_mem _ h')); have := h b List.mem_cons_self; omega
   exact this l (fun a h' => h a (List.mem_cons_of_mem _ h'))
  rw [List.sum_cons] at hm
  have e : addS s a = (s + a, 0) := by
   unfold addS
   rw [w64' (by omega) (by omega), (okA_true (a := s)).2 (by omega), (okA_true (a := a)).2 (by omega), (okA_true (a := s + a)).2 (by omega)]
   rfl
  unfold totS
  rw [e]
  simp only [if_true]
  rw [tot_all l (s + a) (fun a h' => h a (List.mem_cons_of_mem _ h')) (by omega) (by omega), List.sum_cons]
  congr 1
  omega
theorem out_ok (v : Int) : scB (outS v 1).f1 = true := rfl
end Go.Proofs.Ytiodebjjbgcbhaa.Pure
/- Plain theory: what all batches of any inputs have. -/
namespace Go.Proofs.Ytiodebjjbgcbhaa.Pure
open Go Go.RowKit Go.Proofs.Ytiodebjjbgcbhaa.Inp Go.Proofs.Ytiodebjjbgcbhaa.QLef Go.Proofs.Ytiodebjjbgcbhaa.LefL Go.Proofs.Ytiodebjjbgcbhaa.OrdO Go.Proofs.Ytiodebjjbgcbhaa.OrdQ
set_option linter.unusedVariables false
set_option linter.unusedSimpArgs false
theorem oneS_inv {α : Type} (fit : List α → Bt × Bool) (ge : α → Bool) (l : List α) : ∀ i, 1 ≤ i → i ≤ l.length →
 fit (oneS fit ge l i).W = ((oneS fit ge l i).b, (oneS fit ge l i).ok) ∧ ((oneS fit ge l i).W ++ (oneS fit ge l i).L).Perm (l.take i) ∧ ((oneS fit ge l i).ok = false → (oneS fit ge l i).W = l.take 1) := by
 intro i h1 hi
 obtain ⟨j, rfl⟩ : ∃ j, i = j + 1 := ⟨i - 1, by omega⟩
 clear h1
 induction j with
 | zero =>
  rw [oneS_one]
  exact ⟨rfl, by simp, fun _ => rfl⟩
 | succ j ih =>
  have hj : j + 1 < l.length := by omega
  obtain ⟨h1, h2, h3⟩ := ih (by omega)
  rw [oneS_succ _ _ _ _ (by omega) hj]
  generalize oneS fit ge l (j + 1) = s at h1 h2 h3 ⊢
  rw [show l.take (j + 1 + 1) = l.take (j + 1) ++ [l[j + 1]] from List.take_succ_eq_append_getElem hj]
  unfold oneStep
  by_cases hc : (ge l[j + 1] && (fit (s.W ++ [l[j + 1]])).2) = true
  ·rw [if_pos hc]
   simp only [Bool.and_eq_true] at hc
   refine ⟨Prod.ext rfl hc.2, ?_, fun h => by cases h⟩
   show ((s.W ++ [l[j + 1]]) ++ s.L).Perm _
   rw [List.append_assoc]
   refine (List.Perm.append_left s.W List.perm_append_comm).trans ?_
   rw [← List.append_assoc]
   exact h2.append_right _
  ·rw [if_neg hc]
   refine ⟨h1, ?_, h3⟩
   show (s.W ++ (s.L ++ [l[j + 1]])).Perm _
   rw [← List.append_assoc]
   exact h2.append_right _
/-- All batches: of disjoint rows of the inputs, each of which fits; what is in none would not go alone. -/
theorem allL_sound {α : Type} (fits : List α → Int → Bt × Bool) (rt : α → Int) : ∀ (k : Nat) (l : List α), l.length ≤ k →
 ∃ (P : List (List α × Bt × Int)) (rest : List α), allL fits rt k l = P.map (fun p => p.2.1.to) ∧ (∀ p ∈ P, fits p.1 p.2.2 = (p.2.1, true)) ∧ ((P.map (·.1)).flatten ++ rest).Perm l ∧ ∀ y ∈ rest, (fits [y] (rt y)).2 = false := by
 intro k
 induction k with
 | zero =>
  intro l hl
  have : l = [] := List.eq_nil_of_length_eq_zero (by omega)
  subst this
  exact ⟨[], [], rfl, by simp, by simp, by simp⟩
 | succ k ih =>
  intro l hl
  cases l with
  | nil => exact ⟨[], [], rfl, by simp, by simp, by simp⟩
  | cons x0 r =>
   have hless := one_less fits rt (x0 :: r) (by simp)
   have hinv := oneS_inv (fun W => fits W (rt x0)) (fun x => decide (Int.tdiv (rt x0) 2 ≤ rt x)) (x0 :: r) (x0 :: r).length (by simp) (Nat.le_refl _)
   rw [show oneS (fun W => fits W (rt x0)) (fun x => decide (Int.tdiv (rt x0) 2 ≤ rt x)) (x0 :: r) (x0 :: r).length = oneV fits rt (x0 :: r) from rfl, List.take_length] at hinv
   have e0 : allL fits rt (k + 1) (x0 :: r) = if (oneV fits rt (x0 :: r)).ok = true then (oneV fits rt (x0 :: r)).b.to :: allL fits rt k (oneV fits rt (x0 :: r)).L else allL fits rt k (oneV fits rt (x0 :: r)).L := rfl
   rw [e0]
   clear e0
   generalize oneV fits rt (x0 :: r) = s at hinv hless ⊢
   obtain ⟨i1, i2, i3⟩ := hinv
   obtain ⟨P, rest, p1, p2, p3, p4⟩ := ih s.L (by simp only [List.length_cons] at hl hless; omega)
   cases hok : s.ok with
   | true =>
    refine ⟨(s.W, s.b, rt x0) :: P, rest, ?_, ?_, ?_, p4⟩
    ·rw [if_pos rfl, p1]; rfl
    ·intro p hp
     rcases List.mem_cons.1 hp with rfl | hp
     ·simpa [hok] using i1
     ·exact p2 p hp
    ·rw [List.map_cons, List.flatten_cons, List.append_assoc]
     exact (p3.append_left s.W).trans i2
   | false =>
    refine ⟨P, s.W ++ rest, ?_, p2, ?_, ?_⟩
    ·rw [if_neg (by decide)]; exact p1
    ·exact (List.perm_append_comm_assoc _ _ _).trans ((p3.append_left s.W).trans i2)
    ·intro y hy
     rcases List.mem_append.1 hy with hy | hy
     ·have hW := i3 hok
      rw [List.take_succ_cons, List.take_zero] at hW
      rw [hW] at hy i1
      obtain rfl := List.mem_singleton.1 hy
      rw [i1, hok]
     ·exact p4 y hy
/-! ### sums -/
theorem addS_ok {s a : Int} (hs : 0 ≤ s ∧ s ≤ 2100000000000000) (h : (addS s a).2 = 0) : addS s a = (s + a, 0) ∧ (0 ≤ a ∧ a ≤ 2100000000000000) ∧ s + a ≤ 2100000000000000 := by
 unfold addS at h ⊢
 by_cases hc : (okA s && okA a && okA (wrap64 (s + a))) = true
 ·rw [if_pos hc]
  simp only [Bool.and_eq_true, okA_true] at hc
  have e : wrap64 (s + a) = s + a := w64' (by omega) (by omega)
  rw [e] at hc ⊢
  exact ⟨rfl, hc.1.2, hc.2.2⟩
 ·rw [if_neg hc] at h; exact absurd h (by decide)
theorem addS_snd (s a : Int) : (addS s a).2 = 0 ∨ (addS s a).2 = 11 := by unfold addS; split <;> simp
theorem totS_snd : ∀ (l : List Int) (s : Int), (totS s l).2 = 0 ∨ (totS s l).2 = 11
 | [], s => .inl rfl
 | a :: l, s => by
  unfold totS
  split
  ·exact totS_snd l _
  ·exact addS_snd s a
theorem totS_ok : ∀ (l : List Int) (s : Int), (0 ≤ s ∧ s ≤ 2100000000000000) → (totS s l).2 = 0 → totS s l = (s + l.sum, 0) ∧ s + l.sum ≤ 2100000000000000 ∧ 0 ≤ l.sum
 | [], s, hs, _ => by simp [totS]; exact hs.2
 | a :: l, s, hs, h => by
  unfold totS at h ⊢
  by_cases ha : (addS s a).2 = 0
  ·rw [if_pos ha] at h ⊢
   obtain ⟨e, h1, h2⟩ := addS_ok hs ha
   rw [e] at h ⊢
   simp only [] at h ⊢
   obtain ⟨e2, h3, h4⟩ := totS_ok l (s + a) ⟨by omega, h2⟩ h
   rw [List.sum_cons]
   exact ⟨by rw [e2]; congr 1; omega, by omega, by omega⟩
  ·rw [if_neg ha] at h; exact absurd h ha
theorem feeS_ok {w r : Int} (h : (feeS w r).2 = 0) : feeS w r = ((feeS w r).1, 0) ∧ 0 ≤ (feeS w r).1 ∧ (feeS w r).1 ≤ 2100000000000000 := by
 unfold feeS at h ⊢
 by_cases hc : 0 ≤ w ∧ w ≤ 4000000 ∧ 0 ≤ r ∧ r ≤ 1000000000 ∧ up (w * r) ≤ 2100000000000000
 ·rw [if_pos hc]
  have := Int.mul_nonneg hc.1 hc.2.2.1
  refine ⟨rfl, ?_, hc.2.2.2.2⟩
  show 0 ≤ up (w * r)
  unfold up
  omega
 ·rw [if_neg hc] at h; exact absurd h (by decide)
theorem feeS_snd (w r : Int) : (feeS w r).2 = 0 ∨ (feeS w r).2 = 11 := by unfold feeS; split <;> simp
/-! ### what is made -/
structure MadeOf (W : List S90) (r key : Int) (b : Bt) : Prop where
 ne : W ≠ []
 ck : ∀ x ∈ W, chkC I90 x = 0
 ky : 0 ≤ key ∧ key ≤ 1073741824
 ins : b.ins = W.map I90.inS
 out : b.outs = [outS ((W.map I90.value).sum - b.fee) key]
 dust : 330 ≤ (W.map I90.value).sum - b.fee
 lock : b.lock = lockV I90 W
 fee : feeS (weightV b.ins 1) r = (b.fee, 0)
 bud : b.fee ≤ budV I90 W
 rate : b.rate = r
 tc : tcC b.ins b.outs b.lock = 0
 tot : (W.map I90.value).sum ≤ 2100000000000000
theorem made_of {W : List S90} {r key : Int} {b : Bt} (h : makeC I90 W r key = some b) : MadeOf W r key b := by
 unfold makeC makeV at h
 by_cases h1 : W = []
 ·rw [if_pos h1] at h; cases h
 rw [if_neg h1] at h
 by_cases h2 : wiB key 0 1073741824 = false
 ·rw [if_pos h2] at h; cases h
 rw [if_neg h2] at h
 by_cases h3 : (W.all fun x => chkC I90 x == 0) = false
 ·rw [if_pos h3] at h; cases h
 rw [if_neg h3] at h
 simp only [] at h
 have t2 := totS_snd (W.map I90.value) 0
 have f2 := feeS_snd (weightV (W.map I90.inS) 1) r
 have f3 := @feeS_ok (weightV (W.map I90.inS) 1) r
 have t3 := totS_ok (W.map I90.value) 0 (by omega)
 generalize hF : feeS (weightV (W.map I90.inS) 1) r = F at h f2 f3
 generalize hT : totS 0 (W.map I90.value) = T at h t2 t3
 by_cases h4 : max T.2 F.2 ≠ 0
 ·rw [if_pos h4] at h; cases h
 rw [if_neg h4] at h
 by_cases h5 : F.1 > budV I90 W
 ·rw [if_pos h5] at h; cases h
 rw [if_neg h5] at h
 by_cases h6 : wrap64 (T.1 - F.1) < 330
 ·rw [if_pos h6] at h; cases h
 rw [if_neg h6] at h
 by_cases h7 : tcC (W.map I90.inS) [outS (wrap64 (T.1 - F.1)) key] (lockV I90 W) ≠ 0
 ·rw [if_pos h7] at h; cases h
 rw [if_neg h7] at h
 have ht : T.2 = 0 := by omega
 have hf : F.2 = 0 := by omega
 obtain ⟨e1, b1, b2⟩ := t3 ht
 obtain ⟨e2, b3, b4⟩ := f3 hf
 have e3 : wrap64 (T.1 - F.1) = (W.map I90.value).sum - F.1 := by
  rw [e1]
  simp only []
  rw [w64' (by omega) (by omega)]
  omega
 rw [e3] at h h6 h7
 have e := Option.some.inj h
 subst e
 simp only [wiB, Bool.and_eq_false_iff, decide_eq_false_iff_not, not_or, Decidable.not_not] at h2
 refine ⟨h1, fun x hx => ?_, h2, rfl, rfl, by show 330 ≤ _ - F.1; omega, rfl, by rw [hF]; exact e2, by show F.1 ≤ _; omega, rfl, by simpa using h7, by omega⟩
 have h3' : (W.all fun x => chkC I90 x == 0) = true := by simpa using h3
 simpa using List.all_eq_true.1 h3' x hx
theorem fits_of {W : List S90} {r limit key : Int} {b : Bt} (h : fitsC I90 limit key W r = (b, true)) : MadeOf W r key b ∧ weightV b.ins b.outs.length ≤ limit := by
 unfold fitsC fitsV at h
 simp only [Prod.mk.injEq, Bool.and_eq_true, decide_eq_true_eq] at h
 obtain ⟨h1, h2, h3⟩ := h
 rw [h1] at h3
 refine ⟨made_of ?_, h3⟩
 show makeV I90 (chkC I90) (totS 0) tcC W r key = some b
 generalize makeV I90 (chkC I90) (totS 0) tcC W r key = o at h1 h2
 cases o with
 | none => cases h2
 | some b' => simp only [Option.getD_some] at h1; rw [h1]
/-! ### keys, order -/
def ptK (x : S90) : List Int × Int := (I90.bs x, I90.nn x)
theorem met_len : ∀ (l : List S90), (metV I90 l).length ≤ l.length ∧ ((metV I90 l).length = l.length → metV I90 l = l.map ptK ∧ (l.map ptK).Nodup) := by
 intro l
 induction l using snoc_ind with
 | h0 => exact ⟨Nat.le_refl _, fun _ => ⟨rfl, List.nodup_nil⟩⟩
 | h1 l x ih =>
  rw [metV_snoc]
  by_cases hm : (I90.bs x, I90.nn x) ∈ metV I90 l
  ·rw [if_pos hm, List.length_append, List.length_singleton]
   exact ⟨by omega, fun h => by omega⟩
  ·rw [if_neg hm, List.length_append, List.length_append, List.length_singleton, List.length_singleton]
   refine ⟨by omega, fun h => ?_⟩
   obtain ⟨e, hn⟩ := ih.2 (by omega)
   rw [e] at hm ⊢
   rw [List.map_append]
   refine ⟨rfl, List.nodup_append.2 ⟨hn, by simp, ?_⟩⟩
   intro a ha b hb e2
   simp only [List.map_cons, List.map_nil, List.mem_singleton] at hb
   subst e2
   subst hb
   exact hm ha
theorem nodup_of {l : List S90} (h : twiceV I90 l = false) : (l.map ptK).Nodup := by
 have h1 := of_decide_eq_false h
 have h2 := met_len l
 exact (h2.2 (by omega)).2
theorem order_mem {l : List S90} {next : Int} {x : S90} (h : x ∈ orderC I90 l next) : x ∈ l ∧ chkC I90 x = 0 ∧ ripe (I90.wait x) (I90.lock x) (I90.conf x) next = true := by
 unfold orderC orderV at h
 have h1 := (sortV_perm (cmpR I90 (rtC I90 next)) _).mem_iff.1 h
 obtain ⟨h2, h3⟩ := List.mem_filter.1 h1
 unfold out1 at h3
 by_cases hc : chkC I90 x = 0
 ·rw [if_pos hc, Bool.not_not] at h3
  exact ⟨h2, hc, h3⟩
 ·rw [if_neg hc] at h3; cases h3
theorem order_perm (l : List S90) (next : Int) : (orderC I90 l next).Perm (l.filter fun y => !out1 I90 (chkC I90) next y) := sortV_perm _ _
/-- All batches that All tells, when it tells no error. -/
theorem all_sound {l : List S90} {next limit key : Int} (h : (allC I90 l next limit key).2 = 0) : (0 ≤ next ∧ next ≤ 1000000) ∧ (l.map ptK).Nodup ∧
 ∃ (P : List (List S90 × Bt × Int)) (rest : List S90), (allC I90 l next limit key).1 = P.map (fun p => p.2.1.to) ∧ (∀ p ∈ P, MadeOf p.1 p.2.2 key p.2.1 ∧ weightV p.2.1.ins p.2.1.outs.length ≤ limit) ∧ ((P.map (·.1)).flatten ++ rest).Perm (orderC I90 l next) ∧ ∀ y ∈ rest, (fitsC I90 limit key [y] (rtC I90 next y)).2 = false := by
 unfold allC allV at h ⊢
 by_cases h1 : (wiB next 0 1000000 && (wiB limit 1 400000 && wiB key 0 1073741824)) = false
 ·rw [if_pos h1] at h; cases h
 rw [if_neg h1] at h ⊢
 by_cases h2 : 200 < l.length
 ·rw [if_pos h2] at h; cases h
 rw [if_neg h2] at h ⊢
 by_cases h3 : twiceV I90 l = true
 ·rw [if_pos h3] at h; cases h
 rw [if_neg h3]
 have h1' : (wiB next 0 1000000 && (wiB limit 1 400000 && wiB key 0 1073741824)) = true := by simpa using h1
 simp only [Bool.and_eq_true, wiB, decide_eq_true_eq] at h1'
 refine ⟨h1'.1, nodup_of (by simpa using h3), ?_⟩
 obtain ⟨P, rest, p1, p2, p3, p4⟩ := allL_sound (fitsC I90 limit key) (rtC I90 next) l.length (orderV I90 (chkC I90) (rtC I90 next) next l) (order_len I90 (chkC I90) (rtC I90 next) next l)
 exact ⟨P, rest, p1, fun p hp => fits_of (p2 p hp), p3, p4⟩
end Go.Proofs.Ytiodebjjbgcbhaa.Pure
