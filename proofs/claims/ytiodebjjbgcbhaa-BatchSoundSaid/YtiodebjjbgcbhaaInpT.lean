/- All batches of inputs. -/
import Derived.Test.YtiodebjjbgcbhaaInpR
import Derived.Test.YtiodebjjbgcbhaaBatK
namespace Go.Proofs.Ytiodebjjbgcbhaa.Inp
open Go.RowKit Go.Sort Go.Lib Go.Shelf Go.Proofs.Ytiodebjjbgcbhaa Go.Proofs.Ytiodebjjbgcbhaa.Hand Go.Proofs.YtiodebjjbgcbhaaW.PrintWords Go.Proofs.YtiodebjjbgcbhaaW.PrintLast Go.Proofs.YtiodebjjbgcbhaaW.PrintMore Go.Proofs.Ytiodebjjbgcbhaa.RowK Go.Proofs.Ytiodebjjbgcbhaa.Fill Go.Proofs.Ytiodebjjbgcbhaa.OrdO Go.Proofs.Ytiodebjjbgcbhaa.QLef Go.Proofs.Ytiodebjjbgcbhaa.LefL
set_option linter.unusedVariables false
set_option linter.unusedSectionVars false
set_option linter.unusedSimpArgs false
variable {α : Type}
def Bt.to (b : Bt) : S39 := ⟨⟨b.ins, b.outs, b.lock⟩, b.fee, b.rate⟩
/-- What one begins and leaves. -/
def oneV (fits : List α → Int → Bt × Bool) (rt : α → Int) (l : List α) : Os α := match l with
 | [] => ⟨[], [], .zero, false⟩
 | x0 :: r => oneS (fun W => fits W (rt x0)) (fun x => decide (Int.tdiv (rt x0) 2 ≤ rt x)) (x0 :: r) (x0 :: r).length
/-- The batches of inputs that are in order. -/
def allL (fits : List α → Int → Bt × Bool) (rt : α → Int) : Nat → List α → List S39
 | 0, _ => []
 | k + 1, [] => []
 | k + 1, x0 :: r => let s := oneV fits rt (x0 :: r)
  if s.ok = true then s.b.to :: allL fits rt k s.L else allL fits rt k s.L
theorem one_less (fits : List α → Int → Bt × Bool) (rt : α → Int) (l : List α) (h : 0 < l.length) : (oneV fits rt l).L.length < l.length := by
 cases l with
 | nil => simp at h
 | cons x0 r =>
  have := oneS_len (fun W => fits W (rt x0)) (fun x => decide (Int.tdiv (rt x0) 2 ≤ rt x)) (x0 :: r) (x0 :: r).length (by simp) (Nat.le_refl _)
  unfold oneV
  simp only [] at this ⊢
  omega
theorem allL_fuel (fits : List α → Int → Bt × Bool) (rt : α → Int) : ∀ (k j : Nat) (l : List α), l.length ≤ k → l.length ≤ j → allL fits rt k l = allL fits rt j l
 | 0, 0, _, _, _ => rfl
 | 0, j + 1, l, h, _ => by cases l with | nil => rfl | cons x r => simp at h
 | k + 1, 0, l, _, h => by cases l with | nil => rfl | cons x r => simp at h
 | k + 1, j + 1, l, h1, h2 => by
  cases l with
  | nil => rfl
  | cons x r =>
   have hl := one_less fits rt (x :: r) (by simp)
   unfold allL
   simp only [List.length_cons] at h1 h2 hl
   simp only []
   rw [allL_fuel fits rt k j _ (by omega) (by omega)]
/-- What All tells. -/
def allV (I : Spec α) (ck rt : α → Int) (fits : List α → Int → Bt × Bool) (next limit key : Int) (l : List α) : List S39 × Int :=
 if (wiB next 0 1000000 && (wiB limit 1 400000 && wiB key 0 1073741824)) = false then ([], 1) else
 if 200 < l.length then ([], 3) else
 if twiceV I l = true then ([], 6) else
 (allL fits rt l.length (orderV I ck rt next l), 0)
theorem R_okIn {w : World} {base : Nat} {ok : Nat → Prop} {v : Value} {l : List S38} (h : Kd.R k38 38 w base (fun _ => True) v l) (hne : ∀ k, v.ownBlock = some k → ok k) : Kd.R k38 38 w base ok v l := by
 obtain ⟨_, inner, ho, hr⟩ := h
 exact ⟨hne, inner, ho, hr.imp_ (fun _ _ hp => by rw [k38_openM hp]; exact k38_mkM _ _ _ _)⟩
theorem R_okOut {w : World} {base : Nat} {ok : Nat → Prop} {v : Value} {l : List S64} (h : Kd.R k64 64 w base (fun _ => True) v l) (hne : ∀ k, v.ownBlock = some k → ok k) : Kd.R k64 64 w base ok v l := by
 obtain ⟨_, inner, ho, hr⟩ := h
 exact ⟨hne, inner, ho, hr.imp_ (fun _ _ hp => by rw [k64_openM hp]; exact k64_mkM _ _ _ _)⟩
theorem order_len (I : Spec α) (ck rt : α → Int) (next : Int) (l : List α) : (orderV I ck rt next l).length ≤ l.length := by
 unfold orderV
 rw [(OrdQ.sortV_perm (c := cmpR I rt) _).length_eq]
 exact List.length_filter_le _ _
theorem own_reads {I : Spec α} {w : World} {base : Nat} {v : Value} {l : List α} (h : OwnI I w base v l) : ∃ A cap, v = .slice A l.length cap ∧ ReadsRow (fun x c => c = I.enc x) 44 w A l.length l ∧ l.length ≤ cap := by
 obtain ⟨A, cap, e, hr⟩ := h.reads
 refine ⟨A, cap, e, hr, ?_⟩
 rcases h with ⟨rfl, rfl⟩ | ⟨g, cap', cur, rfl, h1, h2, h3, h4, h5, h6⟩
 ·simp
 ·cases e; exact h3
/-- What is returned. -/
def AllR (w : World) (e : Ending) (w' : World) (o : List S39 × Int) : Prop := ∃ v0 : Value, e = .returned (.tuple #[v0, .int .i64 o.2]) ∧ Kd.R k39 39 w' w.heap.size (fun _ => True) v0 o.1 ∧ Below w.heap.size w w'
set_option maxHeartbeats 16000000 in
set_option maxRecDepth 100000 in
theorem all_calls [Inhabited α] (I : Spec α) (ck rt : α → Int) (hC : Checked I ck) (hrb : ∀ x, 0 ≤ rt x ∧ rt x ≤ 1000000000) (next limit key : Int) (hR : Rated I next rt) (fits : List α → Int → Bt × Bool) (hF : Fitted I next limit key fits) (l : List α) (hK : Keyed I l) (A : Option Addr) (c : Nat) (w : World) (hA : ReadsRow (fun x c => c = I.enc x) 44 w A l.length l) (hl : l.length < 100000) :
 Calls Try.prog 19 #[.slice A l.length c, .int .i64 next, .int .i64 limit, .int .i64 key] w fun e w' => AllR w e w' (allV I ck rt fits next limit key l) := by
 have HB := Aside0.mk (Below.refl w.heap.size w)
 have W1 := Aside0.mk (fun W => within_calls next 0 1000000 W)
 have W2 := Aside0.mk (fun W => within_calls limit 1 400000 W)
 have W3 := Aside0.mk (fun W => within_calls key 0 1073741824 W)
 have TW := Aside0.mk (fun (W : World) (hb : Below w.heap.size w W) => twice_calls I l A c W (ReadsRow.imp_ hA hb (fun _ _ h => h)) hl hK)
 have OR := Aside0.mk (fun (W : World) (hb : Below w.heap.size w W) => order_calls I ck rt next hC hR l A c W (ReadsRow.imp_ hA hb (fun _ _ h => h)) hl)
 have ON := Aside0.mk (fun (L : List α) (x0 : α) (h0 : L[0]? = some x0) (A : Option Addr) (c : Nat) (hc : L.length ≤ c) (W : World) (hA : ReadsRow (fun x c => c = I.enc x) 44 W A L.length L) (hl : L.length < 100000) => one_calls I rt hrb next limit key hR fits hF x0 L h0 A c hc W hA hl)
 have HL := Aside0.mk hl
 have HOL := Aside0.mk (show (orderV I ck rt next l).length ≤ l.length from order_len I ck rt next l)
 clear hA hl hK hF hR hC hrb
 unfold allV
 generalize wiB next 0 1000000 = b1 at W1 ⊢
 generalize wiB limit 1 400000 = b2 at W2 ⊢
 generalize wiB key 0 1073741824 = b3 at W3 ⊢
 generalize hb123 : (b1 && (b2 && b3)) = b123
 cases b123 with
 | false =>
  rw [if_pos rfl]
  clear TW OR ON HOL
  go_enter Try.func19, Try.ntmps19
  cases b1 with
  | false =>
   go_wp2_with (first | ((with_reducible refine gate_callee (f := 40) rfl ?_); refine goesL_ (some 17) rfl rfl Try.func40 (by kernel_rfl) rfl #[.int .i64 next, .int .i64 0, .int .i64 1000000] rfl (by (try simp only [List.map_toArray, List.map_cons, List.map_nil]); first | done | rfl) ?_; refine (W1.out _).mono ?_; rintro e w2 ⟨rfl, hb⟩; refine ⟨_, rfl, ?_⟩; have m_HB := Aside0.mk (below_step HB.out hb); clear HB; have HB := m_HB; clear m_HB; clear hb))
   (go_ret2; exact ⟨_, rfl, Kd.R_nil _ _ _ _ _, HB.out⟩)
  | true =>
   cases b2 with
   | false =>
    go_wp2_with (first | ((with_reducible refine gate_callee (f := 40) rfl ?_); refine goesL_ (some 17) rfl rfl Try.func40 (by kernel_rfl) rfl #[.int .i64 next, .int .i64 0, .int .i64 1000000] rfl (by (try simp only [List.map_toArray, List.map_cons, List.map_nil]); first | done | rfl) ?_; refine (W1.out _).mono ?_; rintro e w2 ⟨rfl, hb⟩; refine ⟨_, rfl, ?_⟩; have m_HB := Aside0.mk (below_step HB.out hb); clear HB; have HB := m_HB; clear m_HB; clear hb) | (go_at_call 40; (with_reducible refine (W2.out _).mono ?_); rintro e w2 ⟨rfl, hb⟩; have m_HB := Aside0.mk (below_step HB.out hb); clear HB; have HB := m_HB; clear m_HB; clear hb))
    (go_ret2; exact ⟨_, rfl, Kd.R_nil _ _ _ _ _, HB.out⟩)
   | true =>
    cases b3 with
    | true => cases hb123
    | false =>
     go_wp2_with (first | ((with_reducible refine gate_callee (f := 40) rfl ?_); refine goesL_ (some 17) rfl rfl Try.func40 (by kernel_rfl) rfl #[.int .i64 next, .int .i64 0, .int .i64 1000000] rfl (by (try simp only [List.map_toArray, List.map_cons, List.map_nil]); first | done | rfl) ?_; refine (W1.out _).mono ?_; rintro e w2 ⟨rfl, hb⟩; refine ⟨_, rfl, ?_⟩; have m_HB := Aside0.mk (below_step HB.out hb); clear HB; have HB := m_HB; clear m_HB; clear hb) | (go_at_call 40; (with_reducible refine (W2.out _).mono ?_); rintro e w2 ⟨rfl, hb⟩; have m_HB := Aside0.mk (below_step HB.out hb); clear HB; have HB := m_HB; clear m_HB; clear hb) | (go_at_call 40; (with_reducible refine (W3.out _).mono ?_); rintro e w2 ⟨rfl, hb⟩; have m_HB := Aside0.mk (below_step HB.out hb); clear HB; have HB := m_HB; clear m_HB; clear hb))
     (go_ret2; exact ⟨_, rfl, Kd.R_nil _ _ _ _ _, HB.out⟩)
 | true =>
  rw [if_neg (by decide)]
  obtain ⟨rfl, rfl, rfl⟩ : b1 = true ∧ b2 = true ∧ b3 = true := by cases b1 <;> cases b2 <;> cases b3 <;> simp at hb123 ⊢
  clear hb123
  by_cases h200 : 200 < l.length
  ·rw [if_pos h200]
   have z0 : decide (200 < (l.length : Int)) = true := decide_eq_true (by omega)
   have z1 := eq_true (show (200 : Int) < (l.length : Int) by omega)
   clear h200 TW OR ON HOL
   go_enter Try.func19, Try.ntmps19
   go_wp2_with (first | ((with_reducible refine gate_callee (f := 40) rfl ?_); refine goesL_ (some 17) rfl rfl Try.func40 (by kernel_rfl) rfl #[.int .i64 next, .int .i64 0, .int .i64 1000000] rfl (by (try simp only [List.map_toArray, List.map_cons, List.map_nil]); first | done | rfl) ?_; refine (W1.out _).mono ?_; rintro e w2 ⟨rfl, hb⟩; refine ⟨_, rfl, ?_⟩; have m_HB := Aside0.mk (below_step HB.out hb); clear HB; have HB := m_HB; clear m_HB; clear hb) | (go_at_call 40; (with_reducible refine (W2.out _).mono ?_); rintro e w2 ⟨rfl, hb⟩; have m_HB := Aside0.mk (below_step HB.out hb); clear HB; have HB := m_HB; clear m_HB; clear hb) | (go_at_call 40; (with_reducible refine (W3.out _).mono ?_); rintro e w2 ⟨rfl, hb⟩; have m_HB := Aside0.mk (below_step HB.out hb); clear HB; have HB := m_HB; clear m_HB; clear hb))
   (go_ret2; exact ⟨_, rfl, Kd.R_nil _ _ _ _ _, HB.out⟩)
  ·rw [if_neg h200]
   have z0 : decide (200 < (l.length : Int)) = false := decide_eq_false (by omega)
   have z1 := eq_false (show ¬ (200 : Int) < (l.length : Int) by omega)
   have L2 := Aside0.mk h200
   clear h200
   generalize twiceV I l = tw at TW ⊢
   cases tw with
   | true =>
    rw [if_pos rfl]
    clear OR ON HOL
    go_enter Try.func19, Try.ntmps19
    go_wp2_with (first | ((with_reducible refine gate_callee (f := 40) rfl ?_); refine goesL_ (some 17) rfl rfl Try.func40 (by kernel_rfl) rfl #[.int .i64 next, .int .i64 0, .int .i64 1000000] rfl (by (try simp only [List.map_toArray, List.map_cons, List.map_nil]); first | done | rfl) ?_; refine (W1.out _).mono ?_; rintro e w2 ⟨rfl, hb⟩; refine ⟨_, rfl, ?_⟩; have m_HB := Aside0.mk (below_step HB.out hb); clear HB; have HB := m_HB; clear m_HB; clear hb) | (go_at_call 40; (with_reducible refine (W2.out _).mono ?_); rintro e w2 ⟨rfl, hb⟩; have m_HB := Aside0.mk (below_step HB.out hb); clear HB; have HB := m_HB; clear m_HB; clear hb) | (go_at_call 40; (with_reducible refine (W3.out _).mono ?_); rintro e w2 ⟨rfl, hb⟩; have m_HB := Aside0.mk (below_step HB.out hb); clear HB; have HB := m_HB; clear m_HB; clear hb) | ((with_reducible refine gate_callee (f := 41) rfl ?_); refine goesL_ (some 35) rfl rfl Try.func41 (by kernel_rfl) rfl #[.slice A l.length c] rfl (by (try simp only [List.map_toArray, List.map_cons, List.map_nil]); first | done | rfl) ?_; refine (TW.out _ HB.out).mono ?_; rintro e w3 ⟨rfl, hb⟩; refine ⟨_, rfl, ?_⟩; have m_HB := Aside0.mk (below_step HB.out hb); clear HB; have HB := m_HB; clear m_HB; clear hb))
    (go_ret2; exact ⟨_, rfl, Kd.R_nil _ _ _ _ _, HB.out⟩)
   | false =>
    rw [if_neg (by decide)]
    obtain ⟨tot, htot⟩ : ∃ t, allL fits rt l.length (orderV I ck rt next l) = t := ⟨_, rfl⟩
    rw [htot]
    have TT := Aside0.mk htot
    clear htot
    go_enter Try.func19, Try.ntmps19
    go_wp2_with (first | ((with_reducible refine gate_callee (f := 40) rfl ?_); refine goesL_ (some 17) rfl rfl Try.func40 (by kernel_rfl) rfl #[.int .i64 next, .int .i64 0, .int .i64 1000000] rfl (by (try simp only [List.map_toArray, List.map_cons, List.map_nil]); first | done | rfl) ?_; refine (W1.out _).mono ?_; rintro e w2 ⟨rfl, hb⟩; refine ⟨_, rfl, ?_⟩; have m_HB := Aside0.mk (below_step HB.out hb); clear HB; have HB := m_HB; clear m_HB; clear hb) | (go_at_call 40; (with_reducible refine (W2.out _).mono ?_); rintro e w2 ⟨rfl, hb⟩; have m_HB := Aside0.mk (below_step HB.out hb); clear HB; have HB := m_HB; clear m_HB; clear hb) | (go_at_call 40; (with_reducible refine (W3.out _).mono ?_); rintro e w2 ⟨rfl, hb⟩; have m_HB := Aside0.mk (below_step HB.out hb); clear HB; have HB := m_HB; clear m_HB; clear hb) | ((with_reducible refine gate_callee (f := 41) rfl ?_); refine goesL_ (some 35) rfl rfl Try.func41 (by kernel_rfl) rfl #[.slice A l.length c] rfl (by (try simp only [List.map_toArray, List.map_cons, List.map_nil]); first | done | rfl) ?_; refine (TW.out _ HB.out).mono ?_; rintro e w3 ⟨rfl, hb⟩; refine ⟨_, rfl, ?_⟩; have m_HB := Aside0.mk (below_step HB.out hb); clear HB; have HB := m_HB; clear m_HB; clear hb) | ((with_reducible refine gate_dst (N := 10) rfl ?_); refine Fill.fill_event (N := 10) (x := 39) (cs := #[.int .i64 next, .int .i64 limit, .int .i64 key]) (t := 96) rfl rfl rfl rfl rfl rfl Try.zeroValue96 ?fs ?fz ?f1 (fun _ => rfl) (fun _ => rfl) ?_; (case fs => exact fun W => Try.sizeOf96 W); (case fz => rfl); (case f1 => rfl); intro g10 hg10 w5 hbox hb; have B10 := Aside0.mk hbox; clear hbox hg10; have m_HB := Aside0.mk (below_step HB.out hb); clear HB; have HB := m_HB; clear m_HB; clear hb) | ((with_reducible refine gate_callee (f := 27) rfl ?_); refine goesL_ (some 42) rfl rfl Try.func27 (by kernel_rfl) rfl #[.slice A l.length c, .int .i64 next] rfl (by (try simp only [List.map_toArray, List.map_cons, List.map_nil]); first | done | rfl) ?_; refine (OR.out _ HB.out).mono ?_; rintro e w6 ⟨v42, rfl, ho, hb⟩; refine ⟨_, rfl, ?_⟩; have HO := Aside0.mk (ho.lower HB.out.size); clear ho; have m_HB := Aside0.mk (below_step HB.out hb); have m_B10 := Aside0.mk (blk_below B10.out hb); clear HB B10; have HB := m_HB; have B10 := m_B10; clear m_HB m_B10; clear hb))
    clear TW OR W1 W2 W3
    generalize orderV I ck rt next l = L0 at HOL HO TT
    obtain ⟨n, hn⟩ : ∃ n, l.length = n := ⟨_, rfl⟩
    rw [hn] at HOL L2 TT
    clear hn z0 z1
    go_loopg [8, 11] L0.length (fun kq v8 v11 wr => ∃ (L : List α) (R : List S39), L.length ≤ kq ∧ L.length ≤ n ∧ R.length + L.length ≤ n ∧ Aside0 (R ++ allL fits rt n L = tot) ∧ Aside0 (OwnI I wr w.heap.size v11 L) ∧ Aside0 (Kd.R k39 39 wr w.heap.size (fun _ => True) v8 R) ∧ Aside0 (wr.heap[g10]? = some (.cells #[.int .i64 next, .int .i64 limit, .int .i64 key] 96 (0, 0))) ∧ Aside0 (Below w.heap.size w wr))
    case atStart => exact ⟨L0, [], Nat.le_refl _, HOL.out, by have := HOL.out; simpa using this, ⟨TT.out⟩, HO, ⟨Kd.R_nil _ _ _ _ _⟩, B10, HB⟩
    case round =>
     clear HO B10 HB TT
     obtain ⟨L, R, hkq, hLn, hRL, TT, HO, HR, B10, HB⟩ := hrel
     obtain ⟨AL, cL, eL, hrL, hcL⟩ := own_reads HO.out
     subst eL
     have hl2 := L2.out
     cases L with
     | nil =>
      go_wp2
      go_ret2
      refine ⟨_, rfl, ?_, HB.out⟩
      have e := TT.out
      rw [show allL fits rt n ([] : List α) = [] by cases n <;> rfl, List.append_nil] at e
      rw [← e]
      exact HR.out
     | cons x0 r =>
      have hz : 0 < (x0 :: r).length := by simp
      have CA := Aside0.mk (fun (W : World) (hb : Below wr.heap.size wr W) => ON.out (x0 :: r) x0 rfl AL cL hcL W (ReadsRow.imp_ hrL hb (fun _ _ h => h)) (by omega))
      have LS := Aside0.mk (one_less fits rt (x0 :: r) (by simp))
      have ST := Aside0.mk (show (let s := oneV fits rt (x0 :: r); R ++ (if s.ok = true then s.b.to :: allL fits rt n s.L else allL fits rt n s.L) = tot) by
       rw [← TT.out]
       obtain ⟨m, rfl⟩ : ∃ m, n = m + 1 := ⟨n - 1, by simp at hLn; omega⟩
       have e := allL_fuel fits rt m (m + 1) (oneV fits rt (x0 :: r)).L (by simp only [List.length_cons] at hLn LS; have := LS.out; omega) (by simp only [List.length_cons] at hLn LS; have := LS.out; omega)
       simp only []
       rw [← e]
       rfl)
      rw [show oneS (fun W => fits W (rt x0)) (fun x => decide ((rt x0).tdiv 2 ≤ rt x)) (x0 :: r) (x0 :: r).length = oneV fits rt (x0 :: r) from rfl] at CA
      generalize oneV fits rt (x0 :: r) = s at CA LS ST
      obtain ⟨m, hm⟩ : ∃ m, (x0 :: r).length = m := ⟨_, rfl⟩
      rw [hm] at CA LS hz hkq hLn hRL HO ⊢
      have hz0 : (0 : Int) < (m : Int) := by omega
      clear hrL hcL hm ON TT
      have k0_ : wr.cell? ⟨g10, 0, none⟩ = some (.int .i64 next) := (blk_cell B10.out 0).trans rfl; have k1_ : wr.cell? ⟨g10, 1, none⟩ = some (.int .i64 limit) := (blk_cell B10.out 1).trans rfl; have k2_ : wr.cell? ⟨g10, 2, none⟩ = some (.int .i64 key) := (blk_cell B10.out 2).trans rfl
      obtain ⟨sW, sL, sb, sok⟩ := s
      cases sok with
      | true =>
       go_wp2_with (first | ((with_reducible refine gate_callee (f := 42) rfl ?_); refine goesL_ (some 49) rfl rfl Try.func42 (by kernel_rfl) rfl #[.agg #[.int .i64 next, .int .i64 limit, .int .i64 key], .slice AL m cL] rfl (by (try simp only [List.map_toArray, List.map_cons, List.map_nil]); first | done | rfl) ?_; refine (CA.out _ (Below.refl _ _)).mono ?_; rintro e w4 ⟨v0, v1, v6, rfl, h0, h1, h6, hb⟩; refine ⟨_, rfl, ?_⟩; have H0 := Aside0.mk (Kd.R_lower h0 HB.out.size); have H1 := Aside0.mk (Kd.R_lower h1 HB.out.size); have H6 := Aside0.mk (h6.lower HB.out.size); clear h0 h1 h6 HO k0_ k1_ k2_; obtain ⟨A0, c0, e0⟩ := Kd.R_slice H0.out; subst e0; obtain ⟨A1, c1, e1⟩ := Kd.R_slice H1.out; subst e1; have m_HB := Aside0.mk (below_step HB.out hb); have m_B10 := Aside0.mk (blk_below B10.out hb); have m_HR := Aside0.mk (Kd.R_below HR.out hb); clear HB B10 HR; have HB := m_HB; have B10 := m_B10; have HR := m_HR; clear m_HB m_B10 m_HR; clear hb) | ((with_reducible refine gate_dst (N := 12) rfl ?_); refine Fill.fill_event (N := 12) (x := 50) (cs := #[.slice A0 sb.ins.length c0, .slice A1 sb.outs.length c1, .int .i64 sb.lock, .int .i64 sb.fee, .int .i64 sb.rate]) (t := 39) rfl rfl rfl rfl rfl rfl Try.zeroValue39 ?fs ?fz ?f1 (fun _ => rfl) (fun _ => rfl) ?_; (case fs => exact fun W => Try.sizeOf39 W); (case fz => rfl); (case f1 => rfl); intro g12 hg12 w5 hbox hb; have B12 := Aside0.mk hbox; clear hbox hg12; have m_HB := Aside0.mk (below_step HB.out hb); have m_B10 := Aside0.mk (blk_below B10.out hb); have m_HR := Aside0.mk (Kd.R_below HR.out hb); have m_H0 := Aside0.mk (Kd.R_below H0.out hb); have m_H1 := Aside0.mk (Kd.R_below H1.out hb); have m_H6 := Aside0.mk (OwnI.below H6.out hb); clear HB B10 HR H0 H1 H6; have HB := m_HB; have B10 := m_B10; have HR := m_HR; have H0 := m_H0; have H1 := m_H1; have H6 := m_H6; clear m_HB m_B10 m_HR m_H0 m_H1 m_H6; clear hb; have q0_ : w5.cell? ⟨g12, 0, none⟩ = some (.slice A0 sb.ins.length c0) := (blk_cell B12.out 0).trans rfl; have q1_ : w5.cell? ⟨g12, 1, none⟩ = some (.slice A1 sb.outs.length c1) := (blk_cell B12.out 1).trans rfl; have q2_ : w5.cell? ⟨g12, 2, none⟩ = some (.int .i64 sb.lock) := (blk_cell B12.out 2).trans rfl; have q3_ : w5.cell? ⟨g12, 3, none⟩ = some (.int .i64 sb.fee) := (blk_cell B12.out 3).trans rfl; have q4_ : w5.cell? ⟨g12, 4, none⟩ = some (.int .i64 sb.rate) := (blk_cell B12.out 4).trans rfl) | ((with_reducible refine gate_builtin (b := .append) (xs := #[.tmp 55, .tmp 57]) rfl ?_); at_builtin; refine Kd.R_append k39 (w0 := w) (W := w5) w.heap.size rfl (.tmp 55) (.tmp 57) 24 39 (.agg #[(.slice none 0 0), (.slice none 0 0), (.int .i64 0), (.int .i64 0), (.int .i64 0)]) 72 rfl Try.underlying24 info39 rfl (by decide) (by omega) u8 R sb.to [.slice A0 sb.ins.length c0, .slice A1 sb.outs.length c1, .int .i64 sb.lock, .int .i64 sb.fee, .int .i64 sb.rate] (fun _ => True) (fun k => some k ≠ u8.ownBlock) rfl rfl ?aP (fun _ hk => ⟨trivial, hk⟩) (fun _ _ => trivial) HR.out HB.out HB.out.size ?aL ?_; (case aP => exact k39_mkM _ _ _ sb.to (R_okIn H0.out (R_apart H0.out HR.out (by decide))) (R_okOut H1.out (R_apart H1.out HR.out (by decide)))); (case aL => omega); intro v58 w7 hv hb hg hat; have m_B10 := Aside0.mk (blk_grown B10.out hg (Kd.R_ne HR.out B10.out (by decide))); have m_H6 := Aside0.mk (H6.out.grown hg (fun k hk => H6.out.ne_row HR.out (by decide) k hk)); clear B10 B12 H0 H1 H6 HR HB hg hat q0_ q1_ q2_ q3_ q4_; have B10 := m_B10; have H6 := m_H6; have HR := Aside0.mk hv; have HB := Aside0.mk hb; clear m_B10 m_H6 hv hb))
       go_roundg sL.length
       case measure => exact Nat.lt_of_lt_of_le LS.out hkq
       case rel =>
        have h1 : sL.length < m := LS.out
        refine ⟨sL, R ++ [sb.to], Nat.le_refl _, by omega, by rw [List.length_append, List.length_singleton]; omega, ⟨?_⟩, H6, HR, B10, HB⟩
        have h2 := ST.out
        simp only [if_true] at h2
        rw [List.append_assoc]
        exact h2
      | false =>
       go_wp2_with (first | ((with_reducible refine gate_callee (f := 42) rfl ?_); refine goesL_ (some 49) rfl rfl Try.func42 (by kernel_rfl) rfl #[.agg #[.int .i64 next, .int .i64 limit, .int .i64 key], .slice AL m cL] rfl (by (try simp only [List.map_toArray, List.map_cons, List.map_nil]); first | done | rfl) ?_; refine (CA.out _ (Below.refl _ _)).mono ?_; rintro e w4 ⟨v0, v1, v6, rfl, h0, h1, h6, hb⟩; refine ⟨_, rfl, ?_⟩; have H0 := Aside0.mk (Kd.R_lower h0 HB.out.size); have H1 := Aside0.mk (Kd.R_lower h1 HB.out.size); have H6 := Aside0.mk (h6.lower HB.out.size); clear h0 h1 h6 HO k0_ k1_ k2_; obtain ⟨A0, c0, e0⟩ := Kd.R_slice H0.out; subst e0; obtain ⟨A1, c1, e1⟩ := Kd.R_slice H1.out; subst e1; have m_HB := Aside0.mk (below_step HB.out hb); have m_B10 := Aside0.mk (blk_below B10.out hb); have m_HR := Aside0.mk (Kd.R_below HR.out hb); clear HB B10 HR; have HB := m_HB; have B10 := m_B10; have HR := m_HR; clear m_HB m_B10 m_HR; clear hb) | ((with_reducible refine gate_dst (N := 12) rfl ?_); refine Fill.fill_event (N := 12) (x := 50) (cs := #[.slice A0 sb.ins.length c0, .slice A1 sb.outs.length c1, .int .i64 sb.lock, .int .i64 sb.fee, .int .i64 sb.rate]) (t := 39) rfl rfl rfl rfl rfl rfl Try.zeroValue39 ?fs ?fz ?f1 (fun _ => rfl) (fun _ => rfl) ?_; (case fs => exact fun W => Try.sizeOf39 W); (case fz => rfl); (case f1 => rfl); intro g12 hg12 w5 hbox hb; have B12 := Aside0.mk hbox; clear hbox hg12; have m_HB := Aside0.mk (below_step HB.out hb); have m_B10 := Aside0.mk (blk_below B10.out hb); have m_HR := Aside0.mk (Kd.R_below HR.out hb); have m_H0 := Aside0.mk (Kd.R_below H0.out hb); have m_H1 := Aside0.mk (Kd.R_below H1.out hb); have m_H6 := Aside0.mk (OwnI.below H6.out hb); clear HB B10 HR H0 H1 H6; have HB := m_HB; have B10 := m_B10; have HR := m_HR; have H0 := m_H0; have H1 := m_H1; have H6 := m_H6; clear m_HB m_B10 m_HR m_H0 m_H1 m_H6; clear hb; have q0_ : w5.cell? ⟨g12, 0, none⟩ = some (.slice A0 sb.ins.length c0) := (blk_cell B12.out 0).trans rfl; have q1_ : w5.cell? ⟨g12, 1, none⟩ = some (.slice A1 sb.outs.length c1) := (blk_cell B12.out 1).trans rfl; have q2_ : w5.cell? ⟨g12, 2, none⟩ = some (.int .i64 sb.lock) := (blk_cell B12.out 2).trans rfl; have q3_ : w5.cell? ⟨g12, 3, none⟩ = some (.int .i64 sb.fee) := (blk_cell B12.out 3).trans rfl; have q4_ : w5.cell? ⟨g12, 4, none⟩ = some (.int .i64 sb.rate) := (blk_cell B12.out 4).trans rfl))
       go_roundg sL.length
       case measure => exact Nat.lt_of_lt_of_le LS.out hkq
       case rel =>
        have h1 : sL.length < m := LS.out
        refine ⟨sL, R, Nat.le_refl _, by omega, by omega, ⟨?_⟩, H6, HR, B10, HB⟩
        have h2 := ST.out
        simpa using h2
end Go.Proofs.Ytiodebjjbgcbhaa.Inp
/- What Check, Rate and All tell of inputs, in closed form. -/
namespace Go.Proofs.Ytiodebjjbgcbhaa.Inp
open Go.RowKit Go.Sort Go.Lib Go.Shelf Go.Proofs.Ytiodebjjbgcbhaa Go.Proofs.Ytiodebjjbgcbhaa.Hand Go.Proofs.YtiodebjjbgcbhaaW.PrintWords Go.Proofs.YtiodebjjbgcbhaaW.PrintLast Go.Proofs.YtiodebjjbgcbhaaW.PrintMore Go.Proofs.Ytiodebjjbgcbhaa.RowK Go.Proofs.Ytiodebjjbgcbhaa.Fill Go.Proofs.Ytiodebjjbgcbhaa.OrdO Go.Proofs.Ytiodebjjbgcbhaa.QLef Go.Proofs.Ytiodebjjbgcbhaa.LefL Go.Proofs.Ytiodebjjbgcbhaa.FltL
set_option linter.unusedVariables false
set_option linter.unusedSectionVars false
set_option linter.unusedSimpArgs false
variable {α : Type}
theorem w64' {n : Int} (h0 : -9223372036854775808 ≤ n) (h1 : n ≤ 9223372036854775807) : wrap64 n = n := by unfold wrap64; omega
def addS (a b : Int) : Int × Int := if okA a && okA b && okA (wrap64 (a + b)) then (wrap64 (a + b), 0) else (0, 11)
theorem add_f (a b : Int) : amount_Add.f a b = some (addS a b) := by
 unfold amount_Add.f addS
 simp only [valid_f, held_f]
 cases okA a <;> cases okA b <;> cases okA (wrap64 (a + b)) <;> simp
/-- The sum of a row, each sum on the way asked. -/
def totS : Int → List Int → Int × Int
 | s, [] => (s, 0)
 | s, a :: r => if (addS s a).2 = 0 then totS (addS s a).1 r else addS s a
theorem rd_at {xs : List Int} {i : Nat} (h : i < xs.length) : Go.Proofs.YtiodebjjbgcbhaaW.PrintWords.rd xs (i : Int) = xs[i] := by
 unfold Go.Proofs.YtiodebjjbgcbhaaW.PrintWords.rd; rw [Int.toNat_natCast]; simp [List.getD_eq_getElem?_getD, h]
theorem total_l (xs : List Int) (hx : xs.length ≤ 140737488351232) : ∀ (d k i : Nat) (s : Int), i + d = xs.length → d < k → amount_Total.l0 k s 0 xs (xs.length : Int) (i : Int) = some (totS s (xs.drop i)) := by
 intro d
 induction d with
 | zero =>
  intro k i s hd hk
  obtain ⟨k, rfl⟩ : ∃ m, k = m + 1 := ⟨k - 1, by omega⟩
  have : xs.drop i = [] := List.drop_of_length_le (by omega)
  simp only [amount_Total.l0]
  rw [if_neg (by omega), this]; rfl
 | succ d ih =>
  intro k i s hd hk
  obtain ⟨k, rfl⟩ : ∃ m, k = m + 1 := ⟨k - 1, by omega⟩
  have hi : i < xs.length := by omega
  simp only [amount_Total.l0]
  rw [if_pos (by omega), if_pos (by omega), if_pos (by omega), add_f, rd_at hi, List.drop_eq_getElem_cons hi]
  simp only [Option.bind_some, totS]
  by_cases h : (addS s xs[i]).2 = 0
  ·rw [if_pos h, if_pos h, h]
   have : wrap64 ((i : Int) + 1) = ((i + 1 : Nat) : Int) := by rw [w64' (by omega) (by omega)]; omega
   rw [this]
   exact ih k (i + 1) _ (by omega) (by omega)
  ·rw [if_neg h, if_neg h]
theorem total_f (xs : List Int) (hx : xs.length ≤ 140737488351232) (k : Nat) (hk : xs.length < k) : amount_Total.f k xs = some (totS 0 xs) := by
 unfold amount_Total.f
 have := total_l xs hx xs.length k 0 0 (by omega) hk
 simpa using this
/-- The weight of an input's own transaction. -/
def aloneV (I : Spec α) (x : α) : Int := weightV [I.inS x] 1
/-- What Check tells. -/
def chkC (I : Spec α) (x : α) : Int := chkV (wiB (I.nn x) 0 99) (wiB (I.value x) 1 2100000000000000) (witB (I.kind x) (I.key x) (I.pre x)) (wiB (I.seq x) 0 65535) (wiB (I.wait x) 0 65535) (wiB (I.lock x) 0 1000000) (wiB (I.conf x) 0 1000000) (if ofB (I.since x) (I.dl x) (I.budget x) (aloneV I x) then 0 else 1)
/-- The greatest rate. -/
def highV (I : Spec α) (x : α) : Int := min (I.budget x * 1000 / aloneV I x) 1000000000
/-- What Rate tells. -/
def rtC (I : Spec α) (next : Int) (x : α) : Int := if chkC I x = 0 then (if ofB (I.since x) (I.dl x) (I.budget x) (aloneV I x) then atV (I.since x) 253 (max (I.since x) (I.dl x)) (highV I x) next else 0) else 0
theorem weight_one (I : Spec α) (x : α) : tx_Weight.f 2 [I.inS x] (List.replicate 1 z64) 0 = some (aloneV I x) := by
 have h := weight_f [I.inS x] (List.replicate 1 z64) 0 2 (by simp) (by simp) (by simp)
 simpa [aloneV] using h
theorem of_one (I : Spec α) (x : α) : curve_Of.f (I.since x) (I.dl x) (I.budget x) (aloneV I x) = some (if ofB (I.since x) (I.dl x) (I.budget x) (aloneV I x) then (C (2 * I.since x) (2 * 253), C (2 * max (I.since x) (I.dl x)) (2 * highV I x), 0) else (C 0 0, C 0 0, 1)) := of_f _ _ _ _
theorem checkedC (I : Spec α) : Checked I (chkC I) := fun x W => by
 obtain ⟨⟨r1, r2, r3⟩, hr⟩ : ∃ r : C128 × C128 × Int, (if ofB (I.since x) (I.dl x) (I.budget x) (aloneV I x) then (C (2 * I.since x) (2 * 253), C (2 * max (I.since x) (I.dl x)) (2 * highV I x), (0 : Int)) else (C 0 0, C 0 0, 1)) = r := ⟨_, rfl⟩
 have ho := of_one I x
 rw [hr] at ho
 have h := check_calls I x 2 (aloneV I x) r1 r2 r3 (witB (I.kind x) (I.key x) (I.pre x)) (weight_one I x) ho (witness_f _ _ _) W
 have e : r3 = if ofB (I.since x) (I.dl x) (I.budget x) (aloneV I x) then 0 else 1 := by
  have := congrArg (fun r => r.2.2) hr
  simp only [] at this
  rw [← this]
  split <;> rfl
 rw [e] at h
 exact h
theorem ratedC (I : Spec α) (next : Int) : Rated I next (rtC I next) := fun x W => by
 have hc := checkedC I x
 have hw := weight_one I x
 have ho := of_one I x
 unfold rtC
 by_cases hb : ofB (I.since x) (I.dl x) (I.budget x) (aloneV I x) = true
 ·rw [if_pos hb] at ho
  rw [if_pos hb]
  exact rate_calls0 (I.enc x) (I.hk x) next _ _ 0 (chkC I x) _ W (fun W => hc W) (fun W => rise_calls I x 2 _ _ _ _ hw ho W) (at_f (of_line hb) next)
 ·rw [if_neg hb] at ho
  rw [if_neg hb]
  have hS : Sn 0 := by unfold Sn; omega
  exact rate_calls0 (I.enc x) (I.hk x) next _ _ 1 (chkC I x) 0 W (fun W => hc W) (fun W => rise_calls I x 2 _ _ _ _ hw ho W) (at_no hS hS hS hS (by decide) next)
theorem rate_bounds (I : Spec α) (next : Int) (x : α) : 0 ≤ rtC I next x ∧ rtC I next x ≤ 1000000000 := by
 unfold rtC
 split
 ·split
  ·rename_i h
   have h1 := of_line h
   have h2 := atV_bounds h1 next
   have h3 := lineB_true.1 h1
   unfold highV
   omega
  ·omega
 ·omega
def tcC : List S38 → List S64 → Int → Int := chkT (totS 0)
theorem txcheckedC : TxChecked tcC := txcheck_calls (totS 0) (fun l hl => ⟨l.length + 1, total_f l (by omega) _ (by omega)⟩)
def fitsC (I : Spec α) (limit key : Int) : List α → Int → Bt × Bool := fitsV I (chkC I) (totS 0) tcC limit key
theorem fittedC (I : Spec α) (next limit key : Int) : Fitted I next limit key (fitsC I limit key) := fun l A c rate W hA hl =>
 fits_calls I (chkC I) (checkedC I) (totS 0) (fun l hl => ⟨l.length + 1, total_f l (by omega) _ (by omega)⟩) tcC txcheckedC l A c next limit key rate W hA hl
/-- What All tells. -/
def allC (I : Spec α) (l : List α) (next limit key : Int) : List S39 × Int := allV I (chkC I) (rtC I next) (fitsC I limit key) next limit key l
def orderC (I : Spec α) (l : List α) (next : Int) : List α := orderV I (chkC I) (rtC I next) next l
def makeC (I : Spec α) (l : List α) (rate key : Int) : Option Bt := makeV I (chkC I) (totS 0) tcC l rate key
/-! ### keys -/
theorem mapM_some {β γ : Type} {f : β → Option γ} : ∀ {l : List β}, (∀ x ∈ l, ∃ y, f x = some y) → ∃ ys, l.mapM f = some ys
 | [], _ => ⟨[], rfl⟩
 | x :: l, h => by
  obtain ⟨y, hy⟩ := h x (List.mem_cons_self)
  obtain ⟨ys, hys⟩ := mapM_some (l := l) (fun z hz => h z (List.mem_cons_of_mem _ hz))
  exact ⟨y :: ys, by simp [List.mapM_cons, hy, hys]⟩
theorem lits_u8 (d : Nat) (n : Int) (h : 0 ≤ n ∧ n ≤ 255) : Try.prog.keyLits (d + 1) 5 [.int .u8 n] = some [.int .u8 n] := by
 have hw : (Lit.int .u8 n).wf = true := by
  simp only [Lit.wf, Bool.and_eq_true, decide_eq_true_eq]
  exact h
 simp only [Program.keyLits, Try.underlying5, hw, and_self, if_true]
theorem lits_i64 (d : Nat) (n : Int) (h : -9223372036854775808 ≤ n ∧ n ≤ 9223372036854775807) : Try.prog.keyLits (d + 1) 3 [.int .i64 n] = some [.int .i64 n] := by
 have hw : (Lit.int .i64 n).wf = true := by
  simp only [Lit.wf, Bool.and_eq_true, decide_eq_true_eq]
  exact h
 simp only [Program.keyLits, Try.underlying3, hw, and_self, if_true]
theorem lits_hash (d : Nat) (bs : List Int) (hl : bs.length = 32) (h : ∀ n ∈ bs, 0 ≤ n ∧ n ≤ 255) : ∃ ls, Try.prog.keyLits (d + 2) 32 (bs.map (Value.int .u8)) = some ls := by
 have hc : Try.prog.cellsOf 32 = 32 := by kernel_rfl
 have hc1 : Try.prog.cellsOf 5 = 1 := by kernel_rfl
 rw [Program.keyLits.eq_def]
 simp only [Try.underlying32]
 rw [if_pos (by rw [List.length_map, hl, hc])]
 obtain ⟨ys, hys⟩ := mapM_some (l := List.range 32) (f := fun i => Try.prog.keyLits (d + 1) 5 (((bs.map (Value.int .u8)).drop (i * Try.prog.cellsOf 5)).take (Try.prog.cellsOf 5))) (fun i hi => by
  have hi' : i < bs.length := by rw [hl]; exact List.mem_range.1 hi
  rw [hc1, Nat.mul_one, ← List.map_drop, ← List.map_take, List.drop_eq_getElem_cons hi']
  exact ⟨_, lits_u8 d _ (h _ (List.getElem_mem hi'))⟩)
 rw [hys]
 exact ⟨_, rfl⟩
theorem key_of (bs : List Int) (nn : Int) (hl : bs.length = 32) (h : ∀ n ∈ bs, 0 ≤ n ∧ n ≤ 255) (hn : -9223372036854775808 ≤ nn ∧ nn ≤ 9223372036854775807) : ∃ kl, keyOf Try.prog 34 (keyV (bs, nn)) = some kl := by
 have hc : Try.prog.cellsOf 34 = 33 := by kernel_rfl
 have hch : Try.prog.cellsOf 32 = 32 := by kernel_rfl
 have hci : Try.prog.cellsOf 3 = 1 := by kernel_rfl
 have hk : Try.prog.keyType 34 = true := by kernel_rfl
 have hcells : (keyV (bs, nn)).cells.toList = bs.map (Value.int .u8) ++ [.int .i64 nn] := by simp [keyV, Value.cells]
 have hlen : (bs.map (Value.int .u8) ++ ([.int .i64 nn] : List Value)).length = 33 := by simp [hl]
 have hform : (keyV (bs, nn)).formed Try.prog 34 = true := by
  unfold keyV Value.formed
  simp only [Try.underlying34, hc]
  simp [hl]
 have hts : (Nat.ble 2 Try.prog.types.size) = true := by kernel_rfl
 have hts2 := Nat.le_of_ble_eq_true hts
 obtain ⟨m, hm⟩ : ∃ m, Try.prog.types.size + 1 = m + 3 := ⟨Try.prog.types.size - 2, by omega⟩
 obtain ⟨l1, h1⟩ := lits_hash m bs hl h
 have h2 := lits_i64 (m + 1) nn hn
 unfold keyOf
 simp only [Try.underlying34, hk, hform, Bool.and_self, if_true, hcells, hm]
 rw [Program.keyLits.eq_def]
 simp only [Try.underlying34]
 rw [if_pos ⟨by rw [hlen, hc], by kernel_rfl⟩]
 simp only [List.mapM_cons, List.mapM_nil, Array.toList, hch, hci, List.drop_zero]
 rw [List.take_left' (by simp [hl]), List.drop_left' (by simp [hl])]
 simp only [List.take_succ_cons, List.take_zero]
 rw [h1, h2]
 exact ⟨_, rfl⟩
/-! ### the row of inputs -/
def I90 : Spec S90 where
 bs x := [x.f0.f0.f0, x.f0.f0.f1, x.f0.f0.f2, x.f0.f0.f3, x.f0.f0.f4, x.f0.f0.f5, x.f0.f0.f6, x.f0.f0.f7, x.f0.f0.f8, x.f0.f0.f9, x.f0.f0.f10, x.f0.f0.f11, x.f0.f0.f12, x.f0.f0.f13, x.f0.f0.f14, x.f0.f0.f15, x.f0.f0.f16, x.f0.f0.f17, x.f0.f0.f18, x.f0.f0.f19, x.f0.f0.f20, x.f0.f0.f21, x.f0.f0.f22, x.f0.f0.f23, x.f0.f0.f24, x.f0.f0.f25, x.f0.f0.f26, x.f0.f0.f27, x.f0.f0.f28, x.f0.f0.f29, x.f0.f0.f30, x.f0.f0.f31]
 nn x := x.f0.f1
 value x := x.f1
 kind x := x.f2.f0.f0
 key x := x.f2.f0.f1
 pre x := x.f2.f0.f2
 seq x := x.f2.f1
 lock x := x.f2.f2
 wait x := x.f2.f3
 conf x := x.f3
 since x := x.f4
 dl x := x.f5
 budget x := x.f6
 hbs _ := rfl
theorem reads90 {w : World} {A : Option Addr} {n : Nat} {l : List S90} (h : Kd.C k90 w A n l) : ReadsRow (fun x c => c = I90.enc x) 44 w A n l :=
 ReadsRow.imp_ h (Below.refl _ w) (fun _ _ hp => k90_open hp)
instance : Inhabited S90 := ⟨z90⟩
/-- Is an input's point a key? -/
def keyB (x : S90) : Bool := (I90.bs x).all (fun n => decide (0 ≤ n) && decide (n ≤ 255)) && (decide (-9223372036854775808 ≤ I90.nn x) && decide (I90.nn x ≤ 9223372036854775807))
theorem keyed90 {l : List S90} (h : l.all keyB = true) : Keyed I90 l := fun x hx => by
 have h1 := List.all_eq_true.1 h x hx
 unfold keyB at h1
 simp only [Bool.and_eq_true, List.all_eq_true, decide_eq_true_eq] at h1
 exact key_of _ _ (I90.hbs x) h1.1 h1.2
theorem all90 {w : World} {A : Option Addr} {c : Nat} {l : List S90} (hr : Kd.C k90 w A l.length l) (hl : l.length < 100000) (hk : l.all keyB = true) (next limit key : Int) :
 Calls Try.prog 19 #[.slice A l.length c, .int .i64 next, .int .i64 limit, .int .i64 key] w fun e w' => AllR w e w' (allC I90 l next limit key) :=
 all_calls I90 (chkC I90) (rtC I90 next) (checkedC I90) (rate_bounds I90 next) next limit key (ratedC I90 next) (fitsC I90 limit key) (fittedC I90 next limit key) l (keyed90 hk) A c w (reads90 hr) hl
theorem make90 {w : World} {A : Option Addr} {c : Nat} {l : List S90} (hr : Kd.C k90 w A l.length l) (hl : l.length < 100000) (rate key : Int) :
 Calls Try.prog 38 #[.slice A l.length c, .int .i64 rate, .int .i64 key] w fun e w' => Made w e w' (makeC I90 l rate key) :=
 make_calls I90 (chkC I90) (checkedC I90) (totS 0) (fun l hl => ⟨l.length + 1, total_f l (by omega) _ (by omega)⟩) tcC txcheckedC l A c rate key w (reads90 hr) hl
end Go.Proofs.Ytiodebjjbgcbhaa.Inp
