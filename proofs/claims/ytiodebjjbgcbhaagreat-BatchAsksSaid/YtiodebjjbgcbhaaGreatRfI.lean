import Derived.Test.YtiodebjjbgcbhaaGreatRfF
import Derived.Test.YtiodebjjbgcbhaaGreatMixC
import Derived.Test.YtiodebjjbgcbhaaGreatInpV
namespace Go.Proofs.YtiodebjjbgcbhaaGreat.RfB
open Go.RowKit Go.Sort Go.Lib Go.Shelf Go.Proofs YtiodebjjbgcbhaaGreatW.PrintWords YtiodebjjbgcbhaaGreatW.PrintLast YtiodebjjbgcbhaaGreatW.PrintMore YtiodebjjbgcbhaaGreat Hand Inp RowK Fill OrdO QLef LefL OrdQ
attribute [local go_sem ↓ high] Wide.hv44 Wide.hv33 Wide.hv37 Wide.hv32
set_option linter.unusedVariables false
set_option linter.unusedSimpArgs false
section
variable {α : Type} {c : α → α → Int}
def Up (c : α → α → Int) (l : List α) : Prop := l.Pairwise fun a b => ¬ c b a < 0
theorem insV_up (h : Law c) (x : α) : ∀ l, Up c l → Up c (insV c x l)
 | [], _ => by unfold insV Up; simp
 | y :: ys, hp => by
  unfold insV
  unfold Up at hp ⊢
  rw [List.pairwise_cons] at hp
  by_cases hx : c x y < 0
  ·rw [if_pos hx, List.pairwise_cons, List.pairwise_cons]
   refine ⟨fun z hz => ?_, hp⟩
   have f1 := h.flip x y
   have f2 := h.flip x z
   rcases List.mem_cons.1 hz with rfl | hz
   ·omega
   ·have f3 := hp.1 z hz
    have f4 := h.flip y z
    by_cases e : c y z = 0
    ·have f5 := h.same _ _ e x
     have f6 := h.flip x y
     omega
    ·have f5 := h.trans x y z hx (by omega)
     omega
  ·rw [if_neg hx, List.pairwise_cons]
   refine ⟨fun z hz => ?_, insV_up h x ys hp.2⟩
   rcases List.mem_cons.1 ((insV_perm _ x ys).mem_iff.1 hz) with rfl | hz
   ·exact hx
   ·exact hp.1 z hz
theorem insV_split (x : α) : ∀ (us bs : List α), (∀ y ∈ us, ¬ c x y < 0) → (∀ y ∈ bs, c x y < 0) → insV c x (us ++ bs) = us ++ [x] ++ bs
 | [], [], _, _ => rfl
 | [], b :: bs, _, h => by simp [insV, h b List.mem_cons_self]
 | a :: us, bs, h1, h2 => by
  have := insV_split x us bs (fun y hy => h1 y (List.mem_cons_of_mem _ hy)) h2
  rw [List.cons_append, insV, if_neg (h1 a List.mem_cons_self), this]
  simp
theorem insV_at (h : Law c) {x : α} {out : List α} {n : Nat} (hn : n ≤ out.length) (hs : Up c out) (h1 : ∀ y, out[n - 1]? = some y → 0 < n → ¬ c x y < 0) (h2 : ∀ j y, out[j]? = some y → n ≤ j → c x y < 0) : out.take n ++ [x] ++ out.drop n = insV c x out := by
 rw [← insV_split (c := c) x (out.take n) (out.drop n) ?_ ?_, List.take_append_drop]
 ·intro y hy hc
  obtain ⟨j, hj, rfl⟩ := List.getElem_of_mem hy
  rw [List.length_take] at hj
  rw [List.getElem_take] at hc
  have hlt : n - 1 < out.length := by omega
  have f0 := h1 _ (List.getElem?_eq_getElem hlt) (by omega)
  by_cases e : j = n - 1
  ·subst e; exact f0 hc
  ·have f1 := List.pairwise_iff_getElem.1 hs j (n - 1) (by omega) hlt (by omega)
   have f2 := h.flip out[j] out[n - 1]
   by_cases e0 : c out[j] out[n - 1] = 0
   ·have f3 := h.same _ _ e0 x
    have f4 := h.flip out[j] x
    have f5 := h.flip out[n - 1] x
    omega
   ·exact f0 (h.trans _ _ _ hc (by omega))
 ·intro y hy
  obtain ⟨j, hj, rfl⟩ := List.getElem_of_mem hy
  rw [List.length_drop] at hj
  rw [List.getElem_drop]
  exact h2 (n + j) _ (List.getElem?_eq_getElem (by omega)) (by omega)
theorem sortV_up (h : Law c) (l : List α) : Up c (sortV c l) := by
 have : ∀ (l acc : List α), Up c acc → Up c (l.foldl (fun out x => insV c x out) acc) := by
  intro l
  induction l with
  | nil => intro acc h0; exact h0
  | cons x l ih => intro acc h0; exact ih _ (insV_up h x acc h0)
 exact this l [] List.Pairwise.nil
theorem sortV_snoc (l : List α) (x : α) : sortV c (l ++ [x]) = insV c x (sortV c l) := by simp [sortV]
end
theorem rd42 {w : World} {A : Option Addr} {n : Nat} {l : List S42} (h : Kd.C k42 w A n l) : ReadsRow (fun x c => c = J68.enc x) 44 w A n l :=
 ReadsRow.imp_ h (Below.refl _ w) (fun _ _ hp => k42_open hp)
theorem row_cell {α : Type} {enc : α → List Value} {kk : Nat} {w W : World} {A : Option Addr} {n : Nat} {l : List α} (hA : ReadsRow (fun x c => c = enc x) kk w A n l) (hb : Below w.heap.size w W) {ad : Addr} (e : A = some ad) {j : Nat} {x : α} (hx : l[j]? = some x) (h0 : 0 < n) (i : Nat) (hi : 0 < i) (u : Value) (hu : (enc x)[i]? = some u) : W.cell? ⟨(ad.add (j * kk)).block, (ad.add (j * kk)).off + i, none⟩ = some u := by
 obtain ⟨ad', e', hcc⟩ := hA.2.2 h0
 have e2 : ad = ad' := Option.some.inj (e.symm.trans e')
 subst e2
 obtain ⟨c, _, rfl, h3⟩ := hcc j _ hx
 have h4 := h3 i u hu
 rw [← add_field ad (j * kk) i hi]
 exact (hb.cell (World.block_lt_of_cell? w _ h4)).trans h4
def zc68 : Value := .agg #[(.int .u8 0), (.int .u8 0), (.int .u8 0), (.int .u8 0), (.int .u8 0), (.int .u8 0), (.int .u8 0), (.int .u8 0), (.int .u8 0), (.int .u8 0), (.int .u8 0), (.int .u8 0), (.int .u8 0), (.int .u8 0), (.int .u8 0), (.int .u8 0), (.int .u8 0), (.int .u8 0), (.int .u8 0), (.int .u8 0), (.int .u8 0), (.int .u8 0), (.int .u8 0), (.int .u8 0), (.int .u8 0), (.int .u8 0), (.int .u8 0), (.int .u8 0), (.int .u8 0), (.int .u8 0), (.int .u8 0), (.int .u8 0), (.int .i64 0), (.int .i64 0), (.int .i64 0), (.int .i64 0), (.string ⟨#[]⟩), (.int .i64 0), (.int .i64 0), (.int .i64 0), (.int .i64 0), (.int .i64 0), (.int .i64 0), (.int .i64 0)]
theorem info68 : (Tryz.prog.info? 42).map (fun i => (i.zero, i.size, i.bytes)) = some (some zc68, 44, 136) := by kernel_rfl
def keepB (next : Int) (y : S42) : Bool := !out1 J68 (chkC J68) next y
set_option maxHeartbeats 8000000 in
set_option maxRecDepth 100000 in
theorem reforder_calls (next : Int) (l : List S42) (hby : ∀ x ∈ l, Byt (J68.bs x)) (n : Nat) (hn : l.length = n) (hl : n < 100000) (A : Option Addr) (c : Nat) (hc : n ≤ c) (w : World) (hr : Kd.C k42 w A n l) :
 Calls Tryz.prog 16 #[.slice A n c, .int .i64 next] w fun e w' => ∃ v, e = .returned v ∧ Kd.R k42 42 w' w.heap.size (fun _ => True) v (orderC J68 l next) ∧ Below w.heap.size w w' := by
 have mixed : Tryz.prog.follows .mixedOrders = true := by kernel_rfl
 have HR := Ak (rd42 hr)
 have HN := Ak hn
 have HL := Ak hl
 have HY := Ak hby
 have HC := Ak hc
 have OC := Ak (show orderC J68 l next = sortV (cmpR J68 (rtC J68 next)) ((l.take n).filter (keepB next)) from by rw [List.take_of_length_le (by omega)]; rfl)
 generalize orderC J68 l next = res at OC ⊢
 clear hr hn hl hby hc
 have HB := Ak (Below.refl w.heap.size w)
 have hu1 := Tryz.underlying42
 have hu2 := Tryz.underlying40
 go_enter Tryz.func16, Tryz.ntmps16
 go_wp2
 go_loopg [5, 6] n (fun kq v5 v6 wr => ∃ (i : Nat), v6 = .int .i64 i ∧ i ≤ n ∧ n - i ≤ kq ∧ Aside0 (Kd.R k42 42 wr w.heap.size (fun _ => True) v5 (sortV (cmpR J68 (rtC J68 next)) ((l.take i).filter (keepB next)))) ∧ Aside0 (Below w.heap.size w wr))
 case atStart => exact ⟨0, rfl, by omega, by omega, ⟨Kd.R_nil _ _ _ _ _⟩, HB⟩
 case round =>
  clear HB
  obtain ⟨i, rfl, hin, hkq, H5, HB⟩ := hrel
  by_cases hlt : i < n
  ·have hltz : (i : Int) < (n : Int) := by omega
   have hil : i < l.length := by rw [HN.1]; exact hlt
   have HT := Ak (List.take_succ_eq_append_getElem hil)
   have YR := Ak (show l[i]? = some l[i] from List.getElem?_eq_getElem hil)
   have BX := Ak (HY.1 l[i] (List.getElem_mem hil))
   generalize l[i] = x at HT YR BX
   clear hil
   obtain ⟨ad, rfl, _⟩ := HR.1.2.2 (by omega)
   have HRL := Ak (show ReadsRow (fun x c => c = J68.enc x) 44 w (some ad) l.length l by rw [HN.1]; exact HR.1)
   have LD := Ak (fun W (hb : Below w.heap.size w W) => reads_at J68 HRL.1 hb rfl YR.1)
   have KE := Ak (fun (j : Nat) (hj : 0 < j) (u : Value) (hu : (J68.enc x)[j]? = some u) (V : World) (hb : Below w.heap.size w V) => row_cell (enc := J68.enc) (kk := 44) HRL.1 hb rfl YR.1 (by have := HN.1; omega) j hj u hu)
   have HK := Ak (fun W => refcheck_calls J68 x W)
   have RC := Ak (refripens_calls (J68.kind x) (J68.key x) (J68.pre x) (J68.seq x) (J68.lock x) (J68.wait x) (J68.conf x))
   have KP := Ak (show keepB next x = (decide (chkC J68 x = 0) && decide (ripens (J68.wait x) (J68.lock x) (J68.conf x) ≤ next)) by unfold keepB out1 ripe; split <;> simp [*])
   unfold claimCells at RC
   go_upto_region 5 with (fail)
   have hld := fun dd os => LD.1 (grow (redrawn wr dd) os) (HB.1.trans ((below_regrown wr dd os).mono HB.1.size))
   have e1 := fun dd os => KE.1 34 (by decide) _ rfl (grow (redrawn wr dd) os) (HB.1.trans ((below_regrown wr dd os).mono HB.1.size))
   have e2 := fun dd os => KE.1 35 (by decide) _ rfl (grow (redrawn wr dd) os) (HB.1.trans ((below_regrown wr dd os).mono HB.1.size))
   have e3 := fun dd os => KE.1 36 (by decide) _ rfl (grow (redrawn wr dd) os) (HB.1.trans ((below_regrown wr dd os).mono HB.1.size))
   have e4 := fun dd os => KE.1 37 (by decide) _ rfl (grow (redrawn wr dd) os) (HB.1.trans ((below_regrown wr dd os).mono HB.1.size))
   have e5 := fun dd os => KE.1 38 (by decide) _ rfl (grow (redrawn wr dd) os) (HB.1.trans ((below_regrown wr dd os).mono HB.1.size))
   have e6 := fun dd os => KE.1 39 (by decide) _ rfl (grow (redrawn wr dd) os) (HB.1.trans ((below_regrown wr dd os).mono HB.1.size))
   have e7 := fun dd os => KE.1 40 (by decide) _ rfl (grow (redrawn wr dd) os) (HB.1.trans ((below_regrown wr dd os).mono HB.1.size))
   have hcx : ∀ V, (fun (_ : World) => J68.enc x) V = J68.enc x := fun _ => rfl
   have RA := Ak (fun (y : S42) (hy : Byt (J68.bs y)) W => refahead_calls J68 next x y BX.1 hy W)
   change ∀ dd os, (grow (redrawn wr dd) os).cell? ⟨(ad.add (i * 44)).block, (ad.add (i * 44)).off + 34, none⟩ = some (.int .i64 (J68.kind x)) at e1
   change ∀ dd os, (grow (redrawn wr dd) os).cell? ⟨(ad.add (i * 44)).block, (ad.add (i * 44)).off + 35, none⟩ = some (.int .i64 (J68.key x)) at e2
   change ∀ dd os, (grow (redrawn wr dd) os).cell? ⟨(ad.add (i * 44)).block, (ad.add (i * 44)).off + 36, none⟩ = some (.string (J68.pre x)) at e3
   change ∀ dd os, (grow (redrawn wr dd) os).cell? ⟨(ad.add (i * 44)).block, (ad.add (i * 44)).off + 37, none⟩ = some (.int .i64 (J68.seq x)) at e4
   change ∀ dd os, (grow (redrawn wr dd) os).cell? ⟨(ad.add (i * 44)).block, (ad.add (i * 44)).off + 38, none⟩ = some (.int .i64 (J68.lock x)) at e5
   change ∀ dd os, (grow (redrawn wr dd) os).cell? ⟨(ad.add (i * 44)).block, (ad.add (i * 44)).off + 39, none⟩ = some (.int .i64 (J68.wait x)) at e6
   change ∀ dd os, (grow (redrawn wr dd) os).cell? ⟨(ad.add (i * 44)).block, (ad.add (i * 44)).off + 40, none⟩ = some (.int .i64 (J68.conf x)) at e7
   have en1 := enters_of Tryz.func9 (by kernel_rfl) rfl
   have en2 := enters_of Tryz.func49 (by kernel_rfl) rfl
   have MX := Ak (And.intro (J68.hk x) (show ∀ W base ok, k42.M W base ok x (J68.enc x) from fun W base ok => k42_mkM W base ok x))
   generalize hk1 : J68.kind x = y1 at e1 RC
   generalize hk2 : J68.key x = y2 at e2 RC
   generalize hk3 : J68.pre x = y3 at e3 RC
   generalize hk4 : J68.seq x = y4 at e4 RC
   generalize hk7 : ripens (J68.wait x) (J68.lock x) (J68.conf x) = rip at RC KP
   generalize J68.lock x = y5 at e5 RC
   generalize J68.wait x = y6 at e6 RC
   generalize J68.conf x = y7 at e7 RC
   generalize chkC J68 x = ck at HK KP
   clear hk1 hk2 hk3 hk4 hk7 KE hcx
   generalize J68.enc x = cx at LD HK RA MX hld
   obtain ⟨AX, cX, rfl⟩ := Kd.R_slice H5.1
   have FL := Ak (show (l.take (i + 1)).filter (keepB next) = (l.take i).filter (keepB next) ++ (if (decide (ck = 0) && decide (rip ≤ next)) = true then [x] else []) by
    rw [HT.1, List.filter_append, ← KP.1]
    cases hkp : keepB next x <;> simp [hkp])
   have hz2 : IntKind.i64.wrap ((i : Int) + 1) = ((i + 1 : Nat) : Int) := by have := HL.1; rw [IntKind.wrap_i64]; omega
   clear KP HT
   by_cases hkeep : ck = 0 ∧ rip ≤ next
   ·obtain ⟨rfl, hrip⟩ := hkeep
    have hr1 : decide (next < rip) = false := decide_eq_false (by omega)
    have hr2 := eq_false (show ¬ next < rip by omega)
    rw [show (decide ((0 : Int) = 0) && decide (rip ≤ next)) = true by simp [hrip], if_pos rfl] at FL
    refine wp_region_quiet_below mixed (by kernel_rfl) ?_
    repeat (quiet_step (first | with_reducible exact Calls.regrown_of (HK.1 _) | with_reducible exact Calls.regrown_of (RC.1 _)))
    refine wpQuiet_nil ?_
    intro _ hw'
    obtain ⟨⟨nq, osq⟩, hw''⟩ := hw'
    subst hw''
    replace H5 := Ak (Kd.R_below H5.1 (below_regrown wr nq osq))
    replace HB := Ak (below_step HB.1 (below_regrown wr nq osq))
    clear hld e1 e2 e3 e4 e5 e6 e7 en1 en2 HK RC hr1 hr2 hrip
    generalize grow (redrawn wr nq) osq = wp at H5 HB ⊢
    have LW := cmpR_law J68 (rtC J68 next)
    have XS := Ak (And.intro (sortV_up LW ((l.take i).filter (keepB next))) (show (∀ y ∈ sortV (cmpR J68 (rtC J68 next)) ((l.take i).filter (keepB next)), Byt (J68.bs y)) ∧ (sortV (cmpR J68 (rtC J68 next)) ((l.take i).filter (keepB next))).length ≤ i from ⟨fun y hy => HY.1 y (List.mem_of_mem_take (List.mem_filter.1 ((sortV_perm _ _).mem_iff.1 hy)).1), by
     rw [(sortV_perm _ _).length_eq]; exact Nat.le_trans (List.length_filter_le _ _) (by rw [List.length_take]; omega)⟩))
    have SN := Ak (show sortV (cmpR J68 (rtC J68 next)) ((l.take (i + 1)).filter (keepB next)) = insV (cmpR J68 (rtC J68 next)) x (sortV (cmpR J68 (rtC J68 next)) ((l.take i).filter (keepB next))) by rw [FL.1, sortV_snoc])
    have LQ := Ak LW
    clear LW FL
    generalize hxs : sortV (cmpR J68 (rtC J68 next)) ((l.take i).filter (keepB next)) = xs at H5 XS SN
    clear hxs
    go_wp2
    go_loopg [7] xs.length (fun kq v7 wq => ∃ k : Nat, v7 = .int .i64 k ∧ k ≤ xs.length ∧ k ≤ kq ∧ Aside0 (∀ j y, xs[j]? = some y → k ≤ j → cmpR J68 (rtC J68 next) x y < 0) ∧ Aside0 (Kd.R k42 42 wq w.heap.size (fun _ => True) (.slice AX xs.length cX) xs) ∧ Aside0 (Below w.heap.size w wq))
    case atStart => exact ⟨xs.length, rfl, by omega, by omega, ⟨fun j y hy hj => by rw [List.getElem?_eq_none hj] at hy; cases hy⟩, H5, HB⟩
    case round =>
     clear H5 HB
     obtain ⟨k, rfl, hkx, hkk, BH, H5, HB⟩ := hrel
     have tri : (0 < k ∧ ∃ y, xs[k - 1]? = some y ∧ cmpR J68 (rtC J68 next) x y < 0) ∨ ((0 < k ∧ ∃ y, xs[k - 1]? = some y ∧ ¬ cmpR J68 (rtC J68 next) x y < 0) ∨ k = 0) := by
      by_cases hk0 : 0 < k
      ·by_cases hcc : cmpR J68 (rtC J68 next) x (xs[k - 1]'(by omega)) < 0
       ·exact .inl ⟨hk0, _, List.getElem?_eq_getElem (by omega), hcc⟩
       ·exact .inr (.inl ⟨hk0, _, List.getElem?_eq_getElem (by omega), hcc⟩)
      ·exact .inr (.inr (by omega))
     have EX := Ak (show ((0 < k ∧ ∃ y, xs[k - 1]? = some y ∧ ¬ cmpR J68 (rtC J68 next) x y < 0) ∨ k = 0) → ∀ y, xs[k - 1]? = some y → 0 < k → ¬ cmpR J68 (rtC J68 next) x y < 0 from fun h y hy h0 => by
      rcases h with ⟨_, z, hz, hc⟩ | h
      ·rw [hy] at hz; cases hz; exact hc
      ·omega)
     have QU := Ak (fun (hk0 : 0 < k) (y : S42) (hy : xs[k - 1]? = some y) => And.intro (Kd.R_reads' H5.1).2.2 (And.intro hk0 hy))
     have hkl := XS.1.2.2
     have hnl := HL.1
     have en3 := enters_of Tryz.func50 (by kernel_rfl) rfl
     have hld := fun dd os => LD.1 (grow (redrawn wr dd) os) (HB.1.trans ((below_regrown wr dd os).mono HB.1.size))
     rcases tri with ⟨hk0, y, hy, hcc⟩ | T
     ·obtain ⟨hC, _, _⟩ := QU.1 hk0 y hy
      obtain ⟨adX, rfl, _⟩ := (rd42 hC).2.2 (by omega)
      have ly := fun dd os => reads_at J68 (rd42 hC) (below_regrown wr dd os) rfl hy
      have RY := Ak (fun W => RA.1 y (XS.1.2.1 y (List.mem_of_getElem? hy)) W)
      rw [show decide (cmpR J68 (rtC J68 next) x y < 0) = true by simpa using hcc] at RY
      generalize J68.enc y = cy at RY ly
      have hk1 : IntKind.i64.wrap ((k : Int) - 1) = ((k - 1 : Nat) : Int) := by rw [IntKind.wrap_i64]; omega
      have hk2 : (0 : Int) < (k : Int) := by omega
      have hk3 : (((k - 1 : Nat) : Int) < (xs.length : Int)) := by omega
      have hk4 : k - 1 < xs.length := by omega
      go_upto_region 7 with (fail)
      refine wp_region_quiet_below mixed (by kernel_rfl) ?_
      repeat (quiet_step (with_reducible exact Calls.regrown_of (RY.1 _)))
      refine wpQuiet_nil ?_
      intro _ hw'
      obtain ⟨⟨nq, osq⟩, hw''⟩ := hw'
      subst hw''
      replace H5 := Ak (Kd.R_below H5.1 (below_regrown wr nq osq))
      replace HB := Ak (below_step HB.1 (below_regrown wr nq osq))
      clear hld ly en3 hC QU
      generalize grow (redrawn wr nq) osq = wp at H5 HB ⊢
      go_wp2
      go_roundg (k - 1)
      case measure => omega
      case rel => exact ⟨k - 1, by first | rfl | go_num, by omega, by omega, ⟨fun j z hz hj => by
       by_cases hjk : j = k - 1
       ·subst hjk; rw [hy] at hz; cases hz; exact hcc
       ·exact BH.out j z hz (by omega)⟩, H5, HB⟩
     ·replace EX := Ak (EX.1 T)
      rcases T with ⟨hk0, y, hy, hcc⟩ | hk0
      case' inl =>
       obtain ⟨hC, _, _⟩ := QU.1 hk0 y hy
       obtain ⟨adX, rfl, _⟩ := (rd42 hC).2.2 (by omega)
       have ly := fun dd os => reads_at J68 (rd42 hC) (below_regrown wr dd os) rfl hy
       have RY := Ak (fun W => RA.1 y (XS.1.2.1 y (List.mem_of_getElem? hy)) W)
       rw [show decide (cmpR J68 (rtC J68 next) x y < 0) = false by simpa using hcc] at RY
       generalize J68.enc y = cy at RY ly
       have hk1 : IntKind.i64.wrap ((k : Int) - 1) = ((k - 1 : Nat) : Int) := by rw [IntKind.wrap_i64]; omega
       have hk2 : (0 : Int) < (k : Int) := by omega
       have hk3 : (((k - 1 : Nat) : Int) < (xs.length : Int)) := by omega
       have hk4 : k - 1 < xs.length := by omega
       go_upto_region 7 with (fail)
       refine wp_region_quiet_below mixed (by kernel_rfl) ?_
       repeat (quiet_step (with_reducible exact Calls.regrown_of (RY.1 _)))
       refine wpQuiet_nil ?_
       generalize (some adX : Option Addr) = AX at H5 ⊢
      case' inr =>
       have hk2 : ¬ (0 : Int) < (k : Int) := by omega
       have hk3 : decide (0 < k) = false := decide_eq_false (by omega)
       clear hk0 hk2
       go_upto_region 7 with (fail)
       refine Mix.qr mixed (by kernel_rfl) ?_
       repeat (refine Mix.qs (fun K hK => ?_); go_simp; first | (refine hK _ ?_; clear hK K) | (apply Exists.intro; refine ⟨fun _ => ?_, hK _ ?_⟩; fail; clear hK K))
       refine Mix.qn ?_
      all_goals
       intro _ hw'
       obtain ⟨⟨nq, osq⟩, hw''⟩ := hw'
       subst hw''
       replace H5 := Ak (Kd.R_below H5.1 (below_regrown wr nq osq))
       replace HB := Ak (below_step HB.1 (below_regrown wr nq osq))
       clear hld en3 QU
       try clear ly hC
       generalize grow (redrawn wr nq) osq = wp at H5 HB ⊢
       go_upto_region 9 with (fail)
       obtain ⟨iz, hiz, _, hsz, _⟩ := info_parts info68
       have hcc := (Kd.R_reads' H5.1).2.1
       have q1 := cut_to (P := Tryz.prog) 22 42 .i64 Tryz.underlying22 hiz AX xs.length cX (k : Int) (by omega) (by omega) hcc
       have q2 := cut_from (P := Tryz.prog) 22 42 .i64 Tryz.underlying22 hiz 44 hsz AX xs.length cX (k : Int) (by omega) (by omega)
       rw [Int.toNat_natCast] at q1 q2
       obtain ⟨AY, hAY⟩ : ∃ AY, (if cX = k then AX else AX.map (·.add (k * 44))) = AY := ⟨_, rfl⟩
       rw [hAY] at q2
       have HAY := Ak hAY
       clear hiz hsz hAY
       refine Mix.region (fun V => Sem.run Tryz.prog (Wide.heavy0 (ad.add (i * 44)) 44) V = .ok cx.toArray V) [] (.p 1 (.p 2 (.p 3 (.p 5 (.p 6 (.p 7 (.t 8 (.p 11 (.p 12 (.p 13 (.w 0 9 (.w 4 9 (.e 9 (.e 10 (.e 14 (.p 15 .done)))) (.e 4 (.e 10 (.e 14 (.p 15 .done))))) (.e 0 (.e 4 (.e 10 (.e 14 (.p 15 .done)))))))))))))))) mixed (by kernel_rfl) (fun _ _ N _ _ h => by cases N <;> exact h) ?_
       simp only [Mix.Plan.of, Mix.get]
       replace H5 := Ak (Kd.R_drew H5.1)
       replace HB := Ak (below_drew1 HB.1)
       generalize wp.drew = wd at H5 HB ⊢
       have SF := Ak (fun V (hb : Below wd.heap.size wd V) => LD.1 V (HB.1.trans (hb.mono HB.1.size)))
       repeat (first | (refine Mix.sp (v := ?_) (a' := ?_) rfl (Or.inl ⟨by rfl, ?_⟩) ?_ ?_; rotate_left 2; (intro w'; go_simp; with_reducible rfl); (simp only [Act.put, ls_, l0_, l1_]; rfl)) | (refine Mix.st (v := ?_) (a' := ?_) (SF.1 _ (Below.refl _ _)) rfl (Or.inl ⟨by rfl, ?_⟩) ?_ ?_; rotate_left 2; (intro w' hl0; go_simp; with_reducible rfl); (simp only [Act.put, ls_, l0_, l1_]; rfl)))
       have hkx' := hkx
       refine Mix.parts k42 rfl 22 42 zc68 136 (NX := 57) (NY := 62) (Rr := fun x c => c = J68.enc x) (A := AX) (m := k) (c := cX) (xs := xs.take k) (y := x) (cs := cx) rfl rfl rfl rfl rfl rfl ?hN ?hO ?rE ?rL Tryz.underlying22 info68 rfl (by decide) (by decide) ?hX ?hY MX.1.2 MX.1.1 (fun W base ok u cs h => by subst h; exact k42_mkM W base ok u) (fun W hb => by have h := Kd.C_take (m := k) (Kd.C_below (Kd.R_reads' H5.1).2.2 hb) hkx; rw [List.length_take, Nat.min_eq_left hkx] at h; exact rd42 h) (by omega) SF.1 ?_
       case hO => rfl
       case hN | hX | hY => kernel_rfl
       case rE =>
        intro a' W
        first | (go_simp; done) | (go_simp; rfl)
       case rL =>
        intro a' W h
        rw [show a'.eval (.tmp 62) = a'.tmps[62]?.getD undef by simp [Act.eval]] at h
        clear LD RA SF q1 q2
        obtain ⟨hcl, _⟩ := MX.1
        clear MX
        obtain ⟨u0, u1, u2, u3, u4, u5, u6, u7, u8, u9, u10, u11, u12, u13, u14, u15, u16, u17, u18, u19, u20, u21, u22, u23, u24, u25, u26, u27, u28, u29, u30, u31, u32, u33, u34, u35, u36, u37, u38, u39, u40, u41, u42, u43, rfl⟩ := list44 hcl
        first | (go_simp; done) | (go_simp; rfl)
       intro vE vA vL W rA rL hne hb
       obtain ⟨AL, cL, rfl⟩ := Kd.R_slice rL
       refine Mix.ev rfl (fun K hK => ?_)
       refine Kd.R_append_rows_step k42 (w0 := wd) (W := W) wd.heap.size (by rfl) (.tmp 58) (.tmp 63) 22 42 zc68 136 rfl Tryz.underlying22 info68 rfl (by decide) (by decide) vA (xs.take k) ([x]) AL 1 cL (fun _ => True) (fun _ => False) (by kernel_rfl) (by kernel_rfl) rA (Kd.R_reads' rL).2.2 (fun _ _ h => h) (fun _ h => h.elim) (fun _ _ => trivial) hb hb.size (by rw [List.length_take]; omega) ?_
       intro v64 W1 r64 b64 g64 _
       refine hK.out _ _ ⟨SF.1 _ b64, ?_⟩
       clear hK K
       refine Mix.ev rfl (fun K hK => ?_)
       refine Kd.R_append_rows_step k42 (w0 := wd) (W := W1) wd.heap.size (by rfl) (.tmp 64) (.tmp 67) 22 42 zc68 136 rfl Tryz.underlying22 info68 rfl (by decide) (by decide) v64 (xs.take k ++ [x]) (xs.drop k) AY (xs.length - k) (cX - k) (fun _ => True) (fun _ => False) (by kernel_rfl) (by kernel_rfl) r64 (by have h := Kd.C_drop (m := k) (c := cX) (Kd.C_below (Kd.R_reads' H5.1).2.2 b64) hkx hcc; rw [List.length_drop] at h; rw [← HAY.1]; exact h) (fun _ _ h => h) (fun _ h => h.elim) (fun _ _ => trivial) b64 b64.size (by rw [List.length_append, List.length_take, List.length_singleton]; omega) ?_
       intro v68 W2 r68 b68 g68 _
       refine hK.out _ _ ⟨SF.1 _ b68, ?_⟩
       clear hK K
       refine Mix.sp (v := v68) (a' := ?_) rfl (Or.inl ⟨by rfl, ?_⟩) ?_ ?_
       rotate_left
       ·intro w'; go_simp
       ·rfl
       refine Mix.dn ?_
       rw [insV_at LQ.1 hkx XS.1.1 EX.1 BH.out, ← SN.1] at r68
       replace H5 := Ak (Kd.R_lower r68 HB.1.size)
       replace HB := Ak (HB.1.trans (b68.mono HB.1.size))
       clear r68 r64 b64 g64 b68 g68 rA rL hne hb SF LD RA MX q1 q2 hcc
       go_wp2
       go_roundg (n - (i + 1))
       case measure => omega
       case rel => exact ⟨i + 1, by first | rfl | go_num, by omega, by omega, H5, HB⟩
   ·have hcase : ck ≠ 0 ∨ (ck = 0 ∧ next < rip) := by omega
    rw [if_neg (by simpa using hkeep), List.append_nil] at FL
    clear hkeep
    rcases hcase with hck | ⟨rfl, hrip⟩
    case' inl =>
     have hr1 : (ck == 0) = false := by simpa using hck
    case' inr =>
     have hr1 : decide (next < rip) = true := decide_eq_true hrip
    all_goals
     refine wp_region_quiet_below mixed (by kernel_rfl) ?_
     repeat (quiet_step (first | with_reducible exact Calls.regrown_of (HK.1 _) | with_reducible exact Calls.regrown_of (RC.1 _)))
     refine wpQuiet_nil ?_
     intro _ hw'
     obtain ⟨⟨nq, osq⟩, hw''⟩ := hw'
     subst hw''
     replace H5 := Ak (Kd.R_below H5.1 (below_regrown wr nq osq))
     replace HB := Ak (below_step HB.1 (below_regrown wr nq osq))
     clear hld e1 e2 e3 e4 e5 e6 e7 en1 en2
     generalize grow (redrawn wr nq) osq = wp at H5 HB ⊢
     go_wp2
     go_roundg (n - (i + 1))
     case measure => omega
     case rel => exact ⟨i + 1, by first | rfl | go_num, by omega, by omega, by rw [FL.1]; exact H5, HB⟩
  ·obtain rfl : i = n := by omega
   have hltz : ¬ (i : Int) < (i : Int) := by omega
   go_wp2
   go_ret
   exact ⟨_, rfl, by rw [OC.1]; exact H5.1, HB.1⟩
end Go.Proofs.YtiodebjjbgcbhaaGreat.RfB
namespace Go.Proofs.YtiodebjjbgcbhaaGreat.RfB
open Go.RowKit Go.Sort Go.Lib Go.Shelf Go.Proofs YtiodebjjbgcbhaaGreatW.PrintWords YtiodebjjbgcbhaaGreatW.PrintLast YtiodebjjbgcbhaaGreatW.PrintMore YtiodebjjbgcbhaaGreat Hand Inp RowK Fill OrdO QLef LefL
attribute [local go_sem ↓ high] Wide.hv44 Wide.hv33 Wide.hv37 Wide.hv32 Wide.hv38
set_option linter.unusedVariables false
set_option linter.unusedSimpArgs false
theorem six (d1 d2 d3 d4 d5 d6 : Bool) : d1 = false ∨ d1 = true ∧ (d2 = false ∨ d2 = true ∧ (d3 = false ∨ d3 = true ∧ (d4 = false ∨ d4 = true ∧ (d5 = false ∨ d5 = true ∧ (d6 = false ∨ d6 = true))))) := by
 cases d1 <;> cases d2 <;> cases d3 <;> cases d4 <;> cases d5 <;> cases d6 <;> simp
set_option maxHeartbeats 8000000 in
set_option maxRecDepth 100000 in
theorem refvalid_calls (x : S87) (w : World) : Calls Tryz.prog 72 #[.agg (encSc x).toArray] w fun e w' => e = .returned (.bool (scB x)) ∧ Below w.heap.size w w' := by
 have KC := Ak (fun (g : Nat) (V : World) (h : V.heap[g]? = some (.cells (encSc x).toArray 87 (0, 0))) => And.intro (show V.cell? ⟨g, 0, none⟩ = some (.int .i64 x.f0) from (blk_cell h 0).trans rfl) (And.intro (show V.cell? ⟨g, 1, none⟩ = some (.int .i64 x.f1) from (blk_cell h 1).trans rfl) (And.intro (show V.cell? ⟨g, 2, none⟩ = some (.int .i64 x.f2) from (blk_cell h 2).trans rfl) (And.intro (show V.cell? ⟨g, 3, none⟩ = some (.int .i64 x.f3) from (blk_cell h 3).trans rfl) (And.intro (show V.cell? ⟨g, 4, none⟩ = some (.int .i64 x.f4) from (blk_cell h 4).trans rfl) (show V.cell? ⟨g, 5, none⟩ = some (.int .i64 x.f5) from (blk_cell h 5).trans rfl))))))
 obtain ⟨ks, hks⟩ : ∃ ks : List Int, [x.f1, x.f2, x.f3] = ks := ⟨_, rfl⟩
 have SB := Ak (show scB x = (ks.all (fun k => decide (0 ≤ k) && decide (k ≤ 1073741824)) && ((decide (1 ≤ x.f0) && decide (x.f0 ≤ 6)) && ((decide (0 ≤ x.f4) && decide (x.f4 ≤ 65535)) && (decide (0 ≤ x.f5) && decide (x.f5 ≤ 1000000))))) by rw [← hks]; simp only [scB, List.all_cons, List.all_nil, Bool.and_true, Bool.and_assoc])
 generalize scB x = res at SB ⊢
 generalize x.f0 = n0 at KC SB
 generalize x.f1 = n1 at KC hks
 generalize x.f2 = n2 at KC hks
 generalize x.f3 = n3 at KC hks
 generalize x.f4 = n4 at KC SB
 generalize x.f5 = n5 at KC SB
 generalize (encSc x).toArray = cs at KC ⊢
 have HK := Ak hks
 clear hks
 have HB := Ak (Below.refl w.heap.size w)
 have hu := Tryz.underlying87
 go_enter Tryz.func72, Tryz.ntmps72
 go_upto_region 1 with (first | ((with_reducible refine gate_dst (N := 1) rfl ?_); refine box_event ?hg (N := 1) ?hd (cs := cs) (t := 87) ?hr ?_; (case hd => rfl); (case hg => rfl); (case hr => first | (go_simp; done) | (go_simp; rfl)); intro gb hg w1 hbox hb; replace HB := Ak (below_step HB.1 hb); have BK := Ak hbox; clear hbox hb hg))
 obtain ⟨k0, k1, k2, k3, k4, k5⟩ := KC.1 _ _ BK.1
 go_wp2
 have BL := Ak (blk_new w1 (.cells #[.int .i64 n1, .int .i64 n2, .int .i64 n3] 3))
 replace BK := Ak (blk_alloc BK.1 (.cells #[.int .i64 n1, .int .i64 n2, .int .i64 n3] 3))
 replace HB := Ak (below_alloc HB.1 (.cells #[.int .i64 n1, .int .i64 n2, .int .i64 n3] 3))
 clear k0 k1 k2 k3 k4 k5
 generalize w1.heap.size = gl at BL ⊢
 generalize w1.alloc (.cells #[.int .i64 n1, .int .i64 n2, .int .i64 n3] 3) = wa at BK BL HB ⊢
 rw [show #[Value.int .i64 n1, Value.int .i64 n2, Value.int .i64 n3] = (ks.map (Value.int .i64)).toArray by rw [← HK.1]; rfl] at BL
 replace HK := Ak (show ks.length = 3 by rw [← HK.1]; rfl)
 go_loopg [4] 3 (fun kq v4 wr => ∃ i : Nat, v4 = .int .i64 i ∧ i ≤ 3 ∧ 3 - i ≤ kq ∧ Aside0 ((ks.take i).all (fun k => decide (0 ≤ k) && decide (k ≤ 1073741824)) = true) ∧ Aside0 (wr.heap[gl]? = some (.cells (ks.map (Value.int .i64)).toArray 3 (0, 0))) ∧ Aside0 (wr.heap[gb]? = some (.cells cs 87 (0, 0))) ∧ Aside0 (Below w.heap.size w wr))
 case atStart => exact ⟨0, rfl, by omega, by omega, ⟨rfl⟩, BL, BK, HB⟩
 case round =>
  clear BL BK HB
  obtain ⟨i, rfl, hin, hkq, OK, BL, BK, HB⟩ := hrel
  by_cases hlt : i < 3
  ·have hil : i < ks.length := by rw [HK.1]; exact hlt
   have HT := Ak (List.take_succ_eq_append_getElem hil)
   have HM := Ak (List.getElem_mem hil)
   have ki : wr.cell? ⟨gl, i, none⟩ = some (.int .i64 ks[i]) := (blk_cell BL.1 i).trans (by simp [hil])
   generalize ks[i] = k at HT HM ki
   have hltz : (i : Int) < 3 := by omega
   by_cases ha : k < 0
   ·obtain rfl : false = res := by rw [SB.1, List.all_eq_false.2 ⟨k, HM.1, by simp; omega⟩, Bool.false_and]
    have h1 := decide_eq_true ha
    go_wp2
    go_ret
    exact ⟨rfl, HB.1⟩
   ·have h1 := decide_eq_false ha
    by_cases hb : 1073741824 < k
    ·obtain rfl : false = res := by rw [SB.1, List.all_eq_false.2 ⟨k, HM.1, by simp; omega⟩, Bool.false_and]
     have h2 := decide_eq_true hb
     go_wp2
     go_ret
     exact ⟨rfl, HB.1⟩
    ·have h2 := decide_eq_false hb
     have hz : IntKind.i64.wrap ((i : Int) + 1) = ((i + 1 : Nat) : Int) := by rw [IntKind.wrap_i64]; omega
     go_wp2
     go_roundg (3 - (i + 1))
     case measure => omega
     case rel => exact ⟨i + 1, by first | rfl | go_num, by omega, by omega, ⟨by rw [HT.1, List.all_append, OK.out]; simp; omega⟩, BL, BK, HB⟩
  ·obtain rfl : i = 3 := by omega
   have SR := Ak (show res = _ from by rw [SB.1, show ks.all (fun k => decide (0 ≤ k) && decide (k ≤ 1073741824)) = true from by have := OK.out; rwa [List.take_of_length_le (by rw [HK.1]; exact Nat.le_refl _)] at this, Bool.true_and])
   obtain ⟨k0, k1, k2, k3, k4, k5⟩ := KC.1 _ _ BK.1
   clear OK
   rcases six (decide (1 ≤ n0)) (decide (n0 ≤ 6)) (decide (0 ≤ n4)) (decide (n4 ≤ 65535)) (decide (0 ≤ n5)) (decide (n5 ≤ 1000000)) with h1 | ⟨h1, h2 | ⟨h2, h3 | ⟨h3, h4 | ⟨h4, h5 | ⟨h5, h6 | h6⟩⟩⟩⟩⟩ <;> go_wp2 <;> (go_ret; exact ⟨by rw [SR.1]; simp [*], HB.1⟩)
theorem eqPt (d : Nat) (W : World) (x y : S32) : (Op.equalIn (d + 3) 32 (.agg (encPt x).toArray) (.agg (encPt y).toArray)).run Tryz.prog W = .ok (oeq x y) W := by
 refine (EqP.eqA34 d W x.f0.f0 y.f0.f0 x.f0.f1 y.f0.f1 x.f0.f2 y.f0.f2 x.f0.f3 y.f0.f3 x.f0.f4 y.f0.f4 x.f0.f5 y.f0.f5 x.f0.f6 y.f0.f6 x.f0.f7 y.f0.f7 x.f0.f8 y.f0.f8 x.f0.f9 y.f0.f9 x.f0.f10 y.f0.f10 x.f0.f11 y.f0.f11 x.f0.f12 y.f0.f12 x.f0.f13 y.f0.f13 x.f0.f14 y.f0.f14 x.f0.f15 y.f0.f15 x.f0.f16 y.f0.f16 x.f0.f17 y.f0.f17 x.f0.f18 y.f0.f18 x.f0.f19 y.f0.f19 x.f0.f20 y.f0.f20 x.f0.f21 y.f0.f21 x.f0.f22 y.f0.f22 x.f0.f23 y.f0.f23 x.f0.f24 y.f0.f24 x.f0.f25 y.f0.f25 x.f0.f26 y.f0.f26 x.f0.f27 y.f0.f27 x.f0.f28 y.f0.f28 x.f0.f29 y.f0.f29 x.f0.f30 y.f0.f30 x.f0.f31 y.f0.f31 x.f1 y.f1).trans ?_
 congr 1
theorem part_load {α : Type} {enc sub : α → List Value} {k m o : Nat} (hk : ∀ x, (enc x).length = k) (hm : ∀ x, (sub x).length = m) (hs : ∀ x, ((enc x).drop o).take m = sub x) {w W : World} {A : Option Addr} {n : Nat} {l : List α} (hA : ReadsRow (fun x c => c = enc x) k w A n l) (hb : Below w.heap.size w W) {ad : Addr} (e : A = some ad) {j : Nat} {x : α} (hx : l[j]? = some x) (h0 : 0 < n) : Sem.run Tryz.prog (Wide.heavy0 (ad.add (j * k + o)) m) W = .ok (sub x).toArray W := by
 obtain ⟨ad', e', hcc⟩ := hA.2.2 h0
 have e2 : ad = ad' := Option.some.inj (e.symm.trans e')
 subst e2
 exact run_loadCellsFrom_list Tryz.prog _ _ (sub x) m (hm _) (fun i v hi => by
  obtain ⟨c, _, rfl, h3⟩ := hcc j _ hx
  have hlt : i < m := by have := (List.getElem?_eq_some_iff.1 hi).1; rwa [hm] at this
  have h4 := h3 (o + i) v (by rw [← hs x, List.getElem?_take_of_lt hlt, List.getElem?_drop] at hi; exact hi)
  rw [Addr.add_add, Nat.add_assoc]
  exact (hb.cell (World.block_lt_of_cell? w _ h4)).trans h4)
theorem row_cell0 {α : Type} {enc : α → List Value} {kk : Nat} {w W : World} {A : Option Addr} {n : Nat} {l : List α} (hA : ReadsRow (fun x c => c = enc x) kk w A n l) (hb : Below w.heap.size w W) {ad : Addr} (e : A = some ad) {j : Nat} {x : α} (hx : l[j]? = some x) (h0 : 0 < n) (u : Value) (hu : (enc x)[0]? = some u) : W.cell? (ad.add (j * kk)) = some u := by
 obtain ⟨ad', e', hcc⟩ := hA.2.2 h0
 have e2 : ad = ad' := Option.some.inj (e.symm.trans e')
 subst e2
 obtain ⟨c, _, rfl, h3⟩ := hcc j _ hx
 have h4 := h3 0 u hu
 exact (hb.cell (World.block_lt_of_cell? w _ h4)).trans h4
theorem info_int : (Tryz.prog.info? 3).map (fun i => (i.zero, i.size, i.bytes)) = some (some (.int .i64 0), 1, 8) := by kernel_rfl
set_option maxHeartbeats 8000000 in
set_option maxRecDepth 100000 in
theorem reftx_calls (A0 : Option Addr) (c0 : Nat) (l0 : List S79) (n : Nat) (hn : l0.length = n) (A1 : Option Addr) (c1 : Nat) (l1 : List S90) (m : Nat) (hm : l1.length = m) (lock : Int) (w : World) (hr0 : Kd.C k79 w A0 n l0) (hc0 : n ≤ c0) (hr1 : Kd.C k90 w A1 m l1) (hc1 : m ≤ c1) :
 Calls Tryz.prog 41 #[.agg #[.slice A0 n c0, .slice A1 m c1, .int .i64 lock]] w fun e w' => e = .returned (.int .i64 (tcC l0 l1 lock)) ∧ Below w.heap.size w w' := by
 have mixed : Tryz.prog.follows .mixedOrders = true := by kernel_rfl
 have R0 := Ak (readsIn hr0)
 have R1 := Ak (readsOut hr1)
 have N0 := Ak hn
 have N1 := Ak hm
 have C0 := Ak hc0
 have C1 := Ak hc1
 have TV := Ak (show tcC l0 l1 lock = if 100 < n ∨ 100 < m then 3 else if n = 0 then 1 else if insOk l0 n = false then 1 else if (l1.all fun o => scB o.f1) = false then 1 else if (decide (0 ≤ lock) && decide (lock ≤ 1000000)) = false then 1 else (totS 0 (l1.map (·.f0))).2 by
  unfold tcC chkT
  rw [hn, hm]
  simp only [show (l0 = []) = (n = 0) by rw [← hn]; exact propext List.length_eq_zero_iff.symm])
 generalize tcC l0 l1 lock = res at TV ⊢
 clear hr0 hr1 hn hm hc0 hc1
 have KT := Ak (fun (g : Nat) (V : World) (h : V.heap[g]? = some (.cells #[.slice A0 n c0, .slice A1 m c1, .int .i64 lock] 48 (0, 0))) => And.intro (show V.cell? ⟨g, 0, none⟩ = some (.slice A0 n c0) from (blk_cell h 0).trans rfl) (And.intro (show V.cell? ⟨g, 1, none⟩ = some (.slice A1 m c1) from (blk_cell h 1).trans rfl) (show V.cell? ⟨g, 2, none⟩ = some (.int .i64 lock) from (blk_cell h 2).trans rfl)))
 have HB := Ak (Below.refl w.heap.size w)
 have hu48 := Tryz.underlying48
 have hu79 := Tryz.underlying79
 have hu90 := Tryz.underlying90
 go_enter Tryz.func41, Tryz.ntmps41
 go_upto_region 1 with (first | ((with_reducible refine gate_dst (N := 1) rfl ?_); refine box_event ?hg (N := 1) ?hd (cs := #[.slice A0 n c0, .slice A1 m c1, .int .i64 lock]) (t := 48) ?hr ?_; (case hd => rfl); (case hg => rfl); (case hr => first | (go_simp; done) | (go_simp; rfl)); intro gb hg w1 hbox hb; replace HB := Ak (below_step HB.1 hb); have BK := Ak hbox; clear hbox hb hg))
 obtain ⟨k0, k1, k2⟩ := KT.1 _ _ BK.1
 by_cases h0 : 100 < n
 ·obtain rfl : 3 = res := by rw [TV.1, if_pos (.inl h0)]
  have z0 : (100 : Int) < (n : Int) := by omega
  go_wp2
  go_ret
  exact ⟨rfl, HB.1⟩
 ·have z0 : ¬ (100 : Int) < (n : Int) := by omega
  have z1 : decide ((100 : Int) < (n : Int)) = false := decide_eq_false z0
  by_cases h1 : 100 < m
  ·obtain rfl : 3 = res := by rw [TV.1, if_pos (.inr h1)]
   have z2 : (100 : Int) < (m : Int) := by omega
   go_wp2
   go_ret
   exact ⟨rfl, HB.1⟩
  ·have z2 : ¬ (100 : Int) < (m : Int) := by omega
   have z3 : decide ((100 : Int) < (m : Int)) = false := decide_eq_false z2
   replace TV := Ak (show res = _ from by rw [TV.1, if_neg (fun h => h.elim h0 h1)])
   by_cases hz : n = 0
   ·obtain rfl : 1 = res := by rw [TV.1, if_pos hz]
    subst hz
    go_wp2
    go_ret
    exact ⟨rfl, HB.1⟩
   ·replace TV := Ak (show res = _ from by rw [TV.1, if_neg hz])
    have hz1 : ((n : Int) == 0) = false := by simpa using hz
    have NL := Ak (And.intro h0 (And.intro h1 hz))
    clear h0 h1 hz
    go_wp2
    clear k0 k1 k2 z0 z1 z2 z3 hz1
    go_loopg [3] n (fun kq v3 wr => ∃ i : Nat, v3 = .int .i64 i ∧ i ≤ n ∧ n - i ≤ kq ∧ Aside0 (insOk l0 i = true) ∧ Aside0 (wr.heap[gb]? = some (.cells #[.slice A0 n c0, .slice A1 m c1, .int .i64 lock] 48 (0, 0))) ∧ Aside0 (Below w.heap.size w wr))
    case atStart => exact ⟨0, rfl, by omega, by omega, ⟨rfl⟩, BK, HB⟩
    case round =>
     clear BK HB
     obtain ⟨i, rfl, hin, hkq, OK, BK, HB⟩ := hrel
     obtain ⟨k0, k1, k2⟩ := KT.1 _ _ BK.1
     by_cases hlt : i < n
     ·have hltz : (i : Int) < (n : Int) := by omega
      have hil : i < l0.length := by rw [N0.1]; exact hlt
      have IS := Ak (insOk_succ l0 i hil)
      have YR := Ak (show l0[i]? = some l0[i] from List.getElem?_eq_getElem hil)
      have CX := Ak (fun W => refin1_calls l0[i] W)
      have NO := Ak (fun (h : insOk l0 (i + 1) = false) => insOk_false l0 i n hlt (by rw [N0.1]; exact Nat.le_refl _) h)
      generalize l0[i] = x at IS YR CX
      obtain ⟨ad, rfl, _⟩ := R0.1.2.2 (by omega)
      have hld : Sem.run Tryz.prog (Wide.heavy0 (ad.add (i * 37)) 37) wr = .ok (encIn x).toArray wr := by
       have := part_load (enc := encIn) (sub := encIn) (o := 0) (m := 37) (fun _ => rfl) (fun _ => rfl) (fun _ => rfl) R0.1 HB.1 rfl YR.1 (by omega)
       rwa [Nat.add_zero] at this
      obtain ⟨b, hb⟩ : ∃ b, inB x = b := ⟨_, rfl⟩
      rw [hb] at CX IS
      clear hb hil
      have EY := Ak (fun (y : S32) d W => eqPt d W y x.f0)
      have PX := Ak (fun W (hb : Below w.heap.size w W) => part_load (enc := encIn) (sub := fun x => encPt x.f0) (o := 0) (k := 37) (m := 33) (fun _ => rfl) (fun _ => rfl) (fun _ => rfl) R0.1 hb rfl YR.1 (by omega))
      simp only [Nat.add_zero] at PX
      generalize (encIn x).toArray = cx at CX hld
      cases b with
      | false =>
       obtain rfl : 1 = res := by rw [TV.1, if_pos (NO.1 (by rw [IS.1]; simp))]
       go_wp2_with (go_at_call 26; (with_reducible refine (CX.1 _).mono ?_); rintro e w2 ⟨rfl, hb⟩; replace HB := Ak (below_step HB.1 hb); clear hb hld k0 k1 k2)
       go_ret
       exact ⟨rfl, HB.1⟩
      | true =>
       go_wp2_with (go_at_call 26; (with_reducible refine (CX.1 _).mono ?_); rintro e w2 ⟨rfl, hb⟩; replace HB := Ak (below_step HB.1 hb); replace BK := Ak (blk_below BK.1 hb); clear hb hld k0 k1 k2)
       go_loopg [4] i (fun kq v4 wr => ∃ k : Nat, v4 = .int .i64 k ∧ k ≤ i ∧ i - k ≤ kq ∧ Aside0 ((l0.take k).any (fun y => oeq y.f0 x.f0) = false) ∧ Aside0 (wr.heap[gb]? = some (.cells #[.slice (some ad) n c0, .slice A1 m c1, .int .i64 lock] 48 (0, 0))) ∧ Aside0 (Below w.heap.size w wr))
       case atStart => exact ⟨0, rfl, by omega, by omega, ⟨rfl⟩, BK, HB⟩
       case round =>
        clear BK HB
        obtain ⟨k, rfl, hki, hkk, NY, BK, HB⟩ := hrel
        have hlim := NL.1.1
        by_cases hk : k < i
        ·have hkz : (k : Int) < (i : Int) := by omega
         have hkn : (k : Int) < (n : Int) := by omega
         have hkl : k < l0.length := by rw [N0.1]; omega
         have HT := Ak (List.take_succ_eq_append_getElem hkl)
         have YK := Ak (show l0[k]? = some l0[k] from List.getElem?_eq_getElem hkl)
         have MK := Ak (show l0[k] ∈ l0.take i from List.mem_take_iff_getElem.2 ⟨k, by omega, rfl⟩)
         generalize l0[k] = y at HT YK MK
         clear hkl
         have PY := Ak (fun W (hb : Below w.heap.size w W) => part_load (enc := encIn) (sub := fun x => encPt x.f0) (o := 0) (k := 37) (m := 33) (fun _ => rfl) (fun _ => rfl) (fun _ => rfl) R0.1 hb rfl YK.1 (by omega))
         simp only [Nat.add_zero] at PY
         go_upto_region 13 with (fail)
         have q0 := fun dd os => (KT.1 _ (grow (redrawn wr dd) os) (blk_below BK.1 (below_regrown wr dd os))).1
         have q1 := fun dd os => PX.1 (grow (redrawn wr dd) os) (HB.1.trans ((below_regrown wr dd os).mono HB.1.size))
         have q2 := fun dd os => PY.1 (grow (redrawn wr dd) os) (HB.1.trans ((below_regrown wr dd os).mono HB.1.size))
         have q3 := EY.1 y.f0
         obtain ⟨b2, hb2⟩ : ∃ b, oeq y.f0 x.f0 = b := ⟨_, rfl⟩
         rw [hb2] at q3
         have B2 := Ak hb2
         clear hb2
         generalize (encPt y.f0).toArray = cy at q2 q3
         generalize hcx : (encPt x.f0).toArray = cx2 at q1 q3
         clear hcx
         refine wp_region_quiet_below mixed (by kernel_rfl) ?_
         repeat (quiet_step (fail))
         refine wpQuiet_nil ?_
         intro _ hw'
         obtain ⟨⟨nq, osq⟩, hw''⟩ := hw'
         subst hw''
         replace BK := Ak (blk_below BK.1 (below_regrown wr nq osq))
         replace HB := Ak (below_step HB.1 (below_regrown wr nq osq))
         clear q0 q1 q2 q3
         generalize grow (redrawn wr nq) osq = wp at BK HB ⊢
         cases b2 with
         | true =>
          obtain rfl : 1 = res := by rw [TV.1, if_pos (NO.1 (by rw [IS.1, List.any_eq_true.2 ⟨y, MK.1, B2.1⟩]; simp))]
          go_wp2
          go_ret
          exact ⟨rfl, HB.1⟩
         | false =>
          have hz2 : IntKind.i64.wrap ((k : Int) + 1) = ((k + 1 : Nat) : Int) := by rw [IntKind.wrap_i64]; omega
          go_wp2
          go_roundg (i - (k + 1))
          case measure => omega
          case rel => exact ⟨k + 1, by first | rfl | go_num, by omega, by omega, ⟨by rw [HT.1, List.any_append, NY.out]; simp [B2.1]⟩, BK, HB⟩
        ·obtain rfl : k = i := by omega
         have hkz : ¬ (k : Int) < (k : Int) := by omega
         have hz2 : IntKind.i64.wrap ((k : Int) + 1) = ((k + 1 : Nat) : Int) := by rw [IntKind.wrap_i64]; omega
         go_wp2
         go_roundg (n - (k + 1))
         case measure => omega
         case rel => exact ⟨k + 1, by first | rfl | go_num, by omega, by omega, ⟨by rw [IS.1, OK.out, NY.out]; rfl⟩, BK, HB⟩
     ·obtain rfl : i = n := by omega
      have hnl : ¬ (i : Int) < (i : Int) := by omega
      have MM := NL.1.2.1
      replace TV := Ak (show res = _ from by rw [TV.1, if_neg (by rw [OK.out]; decide)])
      clear OK
      go_wp2
      clear k0 k1 k2
      go_loopg [5, 6] m (fun kq v5 v6 wr => ∃ j : Nat, v6 = .int .i64 j ∧ j ≤ m ∧ m - j ≤ kq ∧ Aside0 ((l1.take j).all (fun o => scB o.f1) = true) ∧ Aside0 (Kd.R (Kd.int .i64) 3 wr w.heap.size (fun _ => True) v5 ((l1.take j).map (·.f0))) ∧ Aside0 (wr.heap[gb]? = some (.cells #[.slice A0 i c0, .slice A1 m c1, .int .i64 lock] 48 (0, 0))) ∧ Aside0 (Below w.heap.size w wr))
      case atStart => exact ⟨0, rfl, by omega, by omega, ⟨rfl⟩, ⟨Kd.R_nil _ _ _ _ _⟩, BK, HB⟩
      case round =>
       clear BK HB
       obtain ⟨j, rfl, hjm, hjk, OK, H5, BK, HB⟩ := hrel
       obtain ⟨k0, k1, k2⟩ := KT.1 _ _ BK.1
       by_cases hlt : j < m
       ·have hltz : (j : Int) < (m : Int) := by omega
        have hil : j < l1.length := by rw [N1.1]; exact hlt
        have YR := Ak (show l1[j]? = some l1[j] from List.getElem?_eq_getElem hil)
        have HT := Ak (List.take_succ_eq_append_getElem hil)
        have ME := Ak (List.getElem_mem hil)
        generalize l1[j] = y at YR HT ME
        clear hil
        obtain ⟨ad1, rfl, _⟩ := R1.1.2.2 (by omega)
        have PL := Ak (fun W (hb : Below w.heap.size w W) => part_load (enc := encOut) (sub := fun x => encSc x.f1) (o := 1) (k := 39) (m := 38) (fun _ => rfl) (fun _ => rfl) (fun _ => rfl) R1.1 hb rfl YR.1 (by omega))
        have hld := PL.1 wr HB.1
        rw [add_field _ _ 1 (by decide)] at hld
        have CX := Ak (fun W => refvalid_calls y.f1 W)
        have PV := Ak (fun W (hb : Below w.heap.size w W) => row_cell0 (enc := encOut) (kk := 39) R1.1 hb rfl YR.1 (by omega) (.int .i64 y.f0) rfl)
        obtain ⟨b, hb⟩ : ∃ b, scB y.f1 = b := ⟨_, rfl⟩
        rw [hb] at CX
        have SB := Ak hb
        clear hb PL
        generalize (encSc y.f1).toArray = cx at CX hld
        cases b with
        | false =>
         obtain rfl : 1 = res := by rw [TV.1, if_pos (List.all_eq_false.2 ⟨y, ME.1, by rw [SB.1]; decide⟩)]
         go_wp2_with (go_at_call 72; (with_reducible refine (CX.1 _).mono ?_); rintro e w2 ⟨rfl, hb⟩; replace HB := Ak (below_step HB.1 hb); clear hb hld k0 k1 k2)
         go_ret
         exact ⟨rfl, HB.1⟩
        | true =>
         have hz2 : IntKind.i64.wrap ((j : Int) + 1) = ((j + 1 : Nat) : Int) := by rw [IntKind.wrap_i64]; omega
         go_upto_region 21 with (go_at_call 72; (with_reducible refine (CX.1 _).mono ?_); rintro e w2 ⟨rfl, hb⟩; replace HB := Ak (below_step HB.1 hb); replace BK := Ak (blk_below BK.1 hb); replace H5 := Ak (Kd.R_below H5.1 hb); clear hb hld k0 k1 k2)
         obtain ⟨k0, k1, k2⟩ := KT.1 _ _ BK.1
         have kv := PV.1 _ HB.1
         have MP := Ak (show (l1.take (j + 1)).map (·.f0) = (l1.take j).map (·.f0) ++ [y.f0] by rw [HT.1, List.map_append]; rfl)
         generalize y.f0 = yv at kv MP
         go_wp2_with ((with_reducible refine gate_builtin (b := .append) (xs := #[.tmp 70, .tmp 77]) rfl ?_); at_builtin; refine Kd.R_append (Kd.int .i64) (w0 := w) (W := w2) w.heap.size rfl (.tmp 70) (.tmp 77) 85 3 (.int .i64 0) 8 rfl Tryz.underlying85 info_int rfl (by decide) (by omega) u5 ((l1.take j).map (·.f0)) yv [.int .i64 yv] (fun _ => True) (fun _ => False) rfl rfl ?aP (fun _ hk => hk.elim) (fun _ _ => trivial) H5.1 HB.1 HB.1.size ?aL ?_; (case aP => exact rfl); (case aL => rw [List.length_map, List.length_take]; omega); intro v78 w3 hv hb hg hat; replace BK := Ak (blk_grown BK.1 hg (Kd.R_ne H5.1 BK.1 (by decide))); replace H5 := Ak hv; replace HB := Ak hb; clear hv hb hg hat k0 k1 k2 kv)
         go_roundg (m - (j + 1))
         case measure => omega
         case rel => exact ⟨j + 1, by first | rfl | go_num, by omega, by omega, ⟨by rw [HT.1, List.all_append, OK.out]; simp [SB.1]⟩, ⟨by rw [MP.1]; exact H5.1⟩, BK, HB⟩
       ·obtain rfl : j = m := by omega
        have hml : ¬ (j : Int) < (j : Int) := by omega
        have OA : l1.all (fun o => scB o.f1) = true := by have := OK.out; rwa [List.take_of_length_le (by rw [N1.1]; exact Nat.le_refl _)] at this
        replace TV := Ak (show res = _ from by rw [TV.1, if_neg (by rw [OA]; decide)])
        rw [List.take_of_length_le (by rw [N1.1]; exact Nat.le_refl _)] at H5
        clear OK OA
        have LV := Ak (show (l1.map (·.f0)).length = j by rw [List.length_map, N1.1])
        generalize l1.map (·.f0) = vs at H5 TV LV
        obtain ⟨A5, c5, rfl⟩ := Kd.R_slice H5.1
        obtain ⟨t1, t2, ht⟩ : ∃ a b, totS 0 vs = (a, b) := ⟨_, _, rfl⟩
        rw [ht] at TV
        have TT := Ak (show QRfa.coracleref1_Total.f (vs.length + 1) vs = some (t1, t2) from by rw [RfA.rtotal_f vs (by have := LV.1; omega) _ (by omega), ht])
        clear ht
        by_cases ha : lock < 0
        ·obtain rfl : 1 = res := by rw [TV.1, if_pos (by simp; omega)]
         have h1 := decide_eq_true ha
         go_wp2
         go_ret
         exact ⟨rfl, HB.1⟩
        ·have h1 := decide_eq_false ha
         by_cases hb : 1000000 < lock
         ·obtain rfl : 1 = res := by rw [TV.1, if_pos (by simp; omega)]
          have h2 := decide_eq_true hb
          go_wp2
          go_ret
          exact ⟨rfl, HB.1⟩
         ·have h2 := decide_eq_false hb
          obtain rfl : t2 = res := by rw [TV.1, if_neg (by simp; omega)]
          go_wp2_with (go_at_call 38; refine (QRfa.coracleref1_Total.calls _ A5 c5 vs t1 t2 _ (Kd.R_reads' H5.1).2.2 (Kd.R_reads' H5.1).2.1 TT.1).mono ?_; rintro e w3 ⟨rfl, hd⟩; replace HB := Ak (below_step HB.1 (below_drawn0 hd)); clear hd)
          go_ret
          exact ⟨rfl, HB.1⟩
end Go.Proofs.YtiodebjjbgcbhaaGreat.RfB
