/- The stable sort: slices.symMergeCmpFunc at inputs. Written by tools/bat/mkStbC.py. -/
import Derived.Test.YtiodebjjbgcbhaaStbD
namespace Go.Proofs.Ytiodebjjbgcbhaa.Stb
open Go.RowKit Go.Sort Go.Lib Go.Shelf Go.Proofs.YtiodebjjbgcbhaaW.PrintWords Go.Proofs.Ytiodebjjbgcbhaa.RowK Go.Proofs.Ytiodebjjbgcbhaa.Fill
attribute [local go_sem ↓ high] Wide.hv44
set_option linter.unusedVariables false
set_option linter.unusedSectionVars false
variable {α : Type} [Inhabited α]
set_option maxHeartbeats 8000000 in
set_option maxRecDepth 1000000 in
theorem symMerge1 {enc : α → List Value} {g m' : Nat} {w0 w : World} {d : Array α} {a m b N cap fg : Nat} {cb : Array Value} {cf : α → α → Int} {lt : α → α → Prop} (ht : ∀ u v w, lt u v → lt v w → lt u w) (eg : ∀ args w, (callFunc fg args).run Try.prog w = .ok (.enter fg args) w) (hC : Cmp enc fg cb cf g w0)
 (hN : d.size = N) (hM : N < 1000000) (ham : a < m) (ham1 : m ≤ a + 1) (hmb : m < b) (hb : b ≤ N) (hA : Asc lt a (m) d) (hB : Asc lt (m) (b) d) (hX : Cross (lto cf) lt a (m) (b) d) (H : St enc 44 90 g m' w0 d w) :
 Calls Try.prog 92 #[.slice (some ⟨g, 0, none⟩) N cap, .int .i64 ((a : Nat) : Int), .int .i64 ((m : Nat) : Int), .int .i64 ((b : Nat) : Int), .func (.func fg) #[] cb] w fun e' w' => e' = .returned (.tuple #[]) ∧
  ∃ d', d'.size = N ∧ Asc lt a (b) d' ∧ PermIn a (b) d d' ∧ St enc 44 90 g m' w0 d' w' := by
 have mixed : Try.prog.follows .mixedOrders = true := by kernel_rfl
 have S0 := Aside0.mk H
 have HN := Aside0.mk hN
 have HA := Aside0.mk hA
 have HB := Aside0.mk hB
 have HX := Aside0.mk hX
 have HC := Aside0.mk hC
 clear H hN hA hB hX hC
 have hmz : (m : Int) - (a : Int) = 1 := by omega
 go_enter Try.func92, Try.ntmps92
 go_wp2
 clear hmz
 go_loopg [10, 11] (b - m) (fun kq vi vj wr => ∃ (i j : Nat), vi = .int .i64 i ∧ vj = .int .i64 j ∧ m ≤ i ∧ i ≤ j ∧ j ≤ b ∧ j - i ≤ kq ∧ Aside0 (m < i → lt (D d (i - 1)) (D d a)) ∧ Aside0 (j < b → lt (D d a) (D d j)) ∧ Aside0 (St enc 44 90 g m' w0 d wr))
 case atStart => exact ⟨m, b, by first | rfl | go_num, by first | rfl | go_num, by omega, by omega, by omega, by omega, ⟨fun h => absurd h (Nat.lt_irrefl _)⟩, ⟨fun h => absurd h (Nat.lt_irrefl _)⟩, S0⟩
 case round =>
  clear S0
  obtain ⟨i, j, rfl, rfl, hi0, hij, hj0, hkq, HL, HR, S1⟩ := hrel
  by_cases hlt : i < j
  ·have hltz : (i : Int) < (j : Int) := by omega
   obtain ⟨h, hh⟩ : ∃ h, h = (i + j) / 2 := ⟨_, rfl⟩
   have hhz : ((i : Int) + (j : Int)) / 2 = (h : Int) := by omega
   have hih : i ≤ h := by omega
   have hhj : h < j := by omega
   clear hh
   have huq : h < d.size := by rw [HN.out]; omega
   have hvq : a < d.size := by rw [HN.out]; omega
   have puq : (0 : Int) ≤ (h : Int) := by omega
   have buq : (h : Int) < (N : Int) := by omega
   have ruq : IntKind.i64.wrap (h : Int) = (h : Int) := by rw [IntKind.wrap_i64]; omega
   have pvq : (0 : Int) ≤ (a : Int) := by omega
   have bvq : (a : Int) < (N : Int) := by omega
   have l1 : ∀ dd os, Sem.run Try.prog (Wide.heavy0 ⟨g, h * 44, none⟩ 44) (grow (redrawn wr dd) os) = _ := fun dd os => S1.out.ldr Try.prog huq dd os
   have l2 : ∀ dd os, Sem.run Try.prog (Wide.heavy0 ⟨g, a * 44, none⟩ 44) (grow (redrawn wr dd) os) = _ := fun dd os => S1.out.ldr Try.prog hvq dd os
   have hcg := fun dd os => HC.out.at S1.out d[h]! d[a]! dd os
   clear huq hvq
   obtain ⟨x1, hx⟩ : ∃ x, x = d[h]! := ⟨_, rfl⟩
   obtain ⟨x2, hy⟩ : ∃ x, x = d[a]! := ⟨_, rfl⟩
   rw [← hx] at l1 hcg
   rw [← hy] at l2 hcg
   have XU : Aside0 (x1 = D d h) := ⟨hx⟩
   have XV : Aside0 (x2 = D d a) := ⟨hy⟩
   clear hx hy
   have TL : Aside0 ((lto cf x1 x2 = true → lt (D d h) (D d a)) ∧ (lto cf x1 x2 = false → lt (D d a) (D d h))) := ⟨by rw [XU.out, XV.out]; exact HX.out a h (Nat.le_refl _) ham (by omega) (by omega)⟩
   by_cases hlv : cf x1 x2 < 0
   ·have LT := Aside0.mk (TL.out.1 (decide_eq_true hlv))
    have hlz := eq_true hlv
    clear hlv
    go_wp2_with fail
    refine wp_region_quiet_below mixed (by kernel_rfl) ?_
    repeat (quiet_step (first | (go_at_fn fg; refine Calls.regrown_of (hcg _ _))))
    refine wpQuiet_nil ?_
    intro _ hw'
    obtain ⟨⟨nq, osq⟩, hw''⟩ := hw'
    subst hw''
    have S2 := Aside0.mk (S1.out.below (below_regrown wr nq osq))
    clear l1 l2 hcg
    generalize grow (redrawn wr nq) osq = wq at S2 ⊢
    go_wp2
    go_roundg (j - (h + 1))
    case measure => omega
    case rel => exact ⟨h + 1, j, by go_num, rfl, by omega, by omega, hj0, Nat.le_refl _, ⟨fun _ => by rw [Nat.add_sub_cancel]; exact LT.out⟩, HR, S2⟩
   ·have LT := Aside0.mk (TL.out.2 (decide_eq_false hlv))
    have hlz := eq_false hlv
    clear hlv
    go_wp2_with fail
    refine wp_region_quiet_below mixed (by kernel_rfl) ?_
    repeat (quiet_step (first | (go_at_fn fg; refine Calls.regrown_of (hcg _ _))))
    refine wpQuiet_nil ?_
    intro _ hw'
    obtain ⟨⟨nq, osq⟩, hw''⟩ := hw'
    subst hw''
    have S2 := Aside0.mk (S1.out.below (below_regrown wr nq osq))
    clear l1 l2 hcg
    generalize grow (redrawn wr nq) osq = wq at S2 ⊢
    go_wp2
    go_roundg (h - i)
    case measure => omega
    case rel => exact ⟨i, h, rfl, by first | rfl | go_num, hi0, hih, by omega, Nat.le_refl _, HL, ⟨fun _ => LT.out⟩, S2⟩
  ·obtain rfl : i = j := by omega
   clear hij hkq
   have hltz : ¬ (i : Int) < (i : Int) := by omega
   go_wp2
   go_loopg [13] (i - 1 - a) (fun kq vk wr => ∃ (k : Nat) (dk : Array α), vk = .int .i64 k ∧ a ≤ k ∧ k + 1 ≤ i ∧ i - 1 - k ≤ kq ∧ Aside0 (dk.size = N) ∧ Aside0 (∀ x, D dk x = R a m (k + 1) (D d) x) ∧ Aside0 (PermIn a b d dk) ∧ Aside0 (St enc 44 90 g m' w0 dk wr))
   case atStart => exact ⟨a, d, rfl, Nat.le_refl _, by omega, Nat.le_refl _, HN, ⟨by
    obtain rfl : m = a + 1 := by omega
    exact fun x => (R_none_r x).symm⟩, ⟨permIn_refl d a b⟩, S1⟩
   case round =>
    clear S1
    obtain ⟨k, dk, rfl, hak, hki, hkq, HD, HR2, HP, S1⟩ := hrel
    obtain ⟨ip, hip⟩ : ∃ ip, i = ip + 1 := ⟨i - 1, by omega⟩
    have hipz : (i : Int) - 1 = (ip : Int) := by omega
    have HIP := Aside0.mk hip
    have HK := Aside0.mk (And.intro hak hki)
    by_cases hlt : k < ip
    ·have hltz2 : (k : Int) < (ip : Int) := by omega
     have hkN : k + 1 < N := by omega
     have eA : ((k : Int) + 1).toNat = k + 1 := by omega
     have pA : (0 : Int) ≤ (k : Int) + 1 := by omega
     have bA : (k : Int) + 1 < (N : Int) := by omega
     have pB : (0 : Int) ≤ (k : Int) := by omega
     have bB : (k : Int) < (N : Int) := by omega
     have HD2 : Aside0 ((swp dk k (k + 1)).size = N) := ⟨by rw [size_swp]; exact HD.out⟩
     have HR3 : Aside0 (∀ x, D (swp dk k (k + 1)) x = R a m (k + 2) (D d) x) := ⟨by
      obtain rfl : m = a + 1 := by omega
      exact fun x => R_up HR2.out hak (by rw [HD.out]; exact hkN) x⟩
     have HP2 : Aside0 (PermIn a b d (swp dk k (k + 1))) := ⟨permIn_trans _ _ _ _ _ HP.out (swp_permIn dk a b k (k + 1) hak (by omega) (by omega) (by omega) (by rw [HD.out]; exact hb))⟩
     have hu : k < dk.size := by rw [HD.out]; omega
     have hv : k + 1 < dk.size := by rw [HD.out]; omega
     have SW := S1.out.drew.swapped (P := Try.prog) hu hv
     have l1 : Sem.run Try.prog (Wide.heavy0 ⟨g, (k) * 44, none⟩ 44) wr.drew = _ := S1.out.drew.ld Try.prog hu
     have l2 : Sem.run Try.prog (Wide.heavy0 ⟨g, (k + 1) * 44, none⟩ 44) wr.drew = _ := S1.out.drew.ld Try.prog hv
     have s1 := SW.1
     have s2 := SW.2.1
     have S2 := Aside0.mk SW.2.2
     have n1 : (enc dk[k]!).length = 44 := S1.out.hk _
     have n2 : (enc dk[k + 1]!).length = 44 := S1.out.hk _
     clear SW hu hv
     generalize enc dk[k]! = c1 at S2 l1 s2 n1
     generalize enc dk[k + 1]! = c2 at S2 l2 s1 s2 n2
     clear HD HR2 HP S1 hip
     go_wp2_with fail
     go_big_region_o
     clear l1 l2 s1 s2
     generalize (wr.drew.setCells g ((k) * 44) c2).setCells g ((k + 1) * 44) c1 = w2 at S2 ⊢
     all_goals go_wp2
     go_roundg (i - 1 - (k + 1))
     case measure => have := HIP.out; omega
     case rel => exact ⟨k + 1, _, by go_num, by omega, by have := HIP.out; omega, Nat.le_refl _, HD2, HR3, HP2, S2⟩
    ·have hltz2 : ¬ (k : Int) < (ip : Int) := by omega
     clear hip
     go_wp2
     (try simp only [Exit.inBlock, Exit.then]); refine bodyPost_ret (results_none rfl _ _ _) rfl ?_
     have hke : k + 1 = i := by have := HIP.out; omega
     exact ⟨rfl, dk, HD.out, by
      obtain rfl : m = a + 1 := by omega
      exact asc_up ht HB.out (fun x => by rw [HR2.out, hke]) (by omega) hj0 HL.out HR.out, HP.out, S1.out⟩
set_option maxHeartbeats 8000000 in
set_option maxRecDepth 1000000 in
theorem symMerge2 {enc : α → List Value} {g m' : Nat} {w0 w : World} {d : Array α} {a m b N cap fg : Nat} {cb : Array Value} {cf : α → α → Int} {lt : α → α → Prop} (ht : ∀ u v w, lt u v → lt v w → lt u w) (eg : ∀ args w, (callFunc fg args).run Try.prog w = .ok (.enter fg args) w) (hC : Cmp enc fg cb cf g w0)
 (hN : d.size = N) (hM : N < 1000000) (ham : a + 1 < m) (hmb : m < b) (hmb1 : b ≤ m + 1) (hb : b ≤ N) (hA : Asc lt a (m) d) (hB : Asc lt (m) (b) d) (hX : Cross (lto cf) lt a (m) (b) d) (H : St enc 44 90 g m' w0 d w) :
 Calls Try.prog 92 #[.slice (some ⟨g, 0, none⟩) N cap, .int .i64 ((a : Nat) : Int), .int .i64 ((m : Nat) : Int), .int .i64 ((b : Nat) : Int), .func (.func fg) #[] cb] w fun e' w' => e' = .returned (.tuple #[]) ∧
  ∃ d', d'.size = N ∧ Asc lt a (b) d' ∧ PermIn a (b) d d' ∧ St enc 44 90 g m' w0 d' w' := by
 have mixed : Try.prog.follows .mixedOrders = true := by kernel_rfl
 have S0 := Aside0.mk H
 have HN := Aside0.mk hN
 have HA := Aside0.mk hA
 have HB := Aside0.mk hB
 have HX := Aside0.mk hX
 have HC := Aside0.mk hC
 clear H hN hA hB hX hC
 have hmz : (b : Int) - (m : Int) = 1 := by omega
 have haz : (((m : Int) - (a : Int)) == 1) = false := by rw [beq_eq_false_iff_ne]; omega
 go_enter Try.func92, Try.ntmps92
 go_wp2
 clear hmz haz
 go_loopg [14, 15] (m - a) (fun kq vi vj wr => ∃ (i j : Nat), vi = .int .i64 i ∧ vj = .int .i64 j ∧ a ≤ i ∧ i ≤ j ∧ j ≤ m ∧ j - i ≤ kq ∧ Aside0 (a < i → lt (D d (i - 1)) (D d m)) ∧ Aside0 (j < m → lt (D d m) (D d j)) ∧ Aside0 (St enc 44 90 g m' w0 d wr))
 case atStart => exact ⟨a, m, by first | rfl | go_num, by first | rfl | go_num, by omega, by omega, by omega, by omega, ⟨fun h => absurd h (Nat.lt_irrefl _)⟩, ⟨fun h => absurd h (Nat.lt_irrefl _)⟩, S0⟩
 case round =>
  clear S0
  obtain ⟨i, j, rfl, rfl, hi0, hij, hj0, hkq, HL, HR, S1⟩ := hrel
  by_cases hlt : i < j
  ·have hltz : (i : Int) < (j : Int) := by omega
   obtain ⟨h, hh⟩ : ∃ h, h = (i + j) / 2 := ⟨_, rfl⟩
   have hhz : ((i : Int) + (j : Int)) / 2 = (h : Int) := by omega
   have hih : i ≤ h := by omega
   have hhj : h < j := by omega
   clear hh
   have huq : m < d.size := by rw [HN.out]; omega
   have hvq : h < d.size := by rw [HN.out]; omega
   have puq : (0 : Int) ≤ (m : Int) := by omega
   have buq : (m : Int) < (N : Int) := by omega
   have ruq : IntKind.i64.wrap (m : Int) = (m : Int) := by rw [IntKind.wrap_i64]; omega
   have pvq : (0 : Int) ≤ (h : Int) := by omega
   have bvq : (h : Int) < (N : Int) := by omega
   have l1 : ∀ dd os, Sem.run Try.prog (Wide.heavy0 ⟨g, m * 44, none⟩ 44) (grow (redrawn wr dd) os) = _ := fun dd os => S1.out.ldr Try.prog huq dd os
   have l2 : ∀ dd os, Sem.run Try.prog (Wide.heavy0 ⟨g, h * 44, none⟩ 44) (grow (redrawn wr dd) os) = _ := fun dd os => S1.out.ldr Try.prog hvq dd os
   have hcg := fun dd os => HC.out.at S1.out d[m]! d[h]! dd os
   clear huq hvq
   obtain ⟨x1, hx⟩ : ∃ x, x = d[m]! := ⟨_, rfl⟩
   obtain ⟨x2, hy⟩ : ∃ x, x = d[h]! := ⟨_, rfl⟩
   rw [← hx] at l1 hcg
   rw [← hy] at l2 hcg
   have XU : Aside0 (x1 = D d m) := ⟨hx⟩
   have XV : Aside0 (x2 = D d h) := ⟨hy⟩
   clear hx hy
   have TL : Aside0 ((lto cf x1 x2 = true → lt (D d m) (D d h)) ∧ (lto cf x1 x2 = false → lt (D d h) (D d m))) := ⟨by rw [XU.out, XV.out]; exact HX.out h m (by omega) (by omega) (Nat.le_refl _) hmb⟩
   by_cases hlv : cf x1 x2 < 0
   ·have LT := Aside0.mk (TL.out.1 (decide_eq_true hlv))
    have hlz := eq_true hlv
    clear hlv
    go_wp2_with fail
    refine wp_region_quiet_below mixed (by kernel_rfl) ?_
    repeat (quiet_step (first | (go_at_fn fg; refine Calls.regrown_of (hcg _ _))))
    refine wpQuiet_nil ?_
    intro _ hw'
    obtain ⟨⟨nq, osq⟩, hw''⟩ := hw'
    subst hw''
    have S2 := Aside0.mk (S1.out.below (below_regrown wr nq osq))
    clear l1 l2 hcg
    generalize grow (redrawn wr nq) osq = wq at S2 ⊢
    go_wp2
    go_roundg (h - i)
    case measure => omega
    case rel => exact ⟨i, h, rfl, by first | rfl | go_num, hi0, hih, by omega, Nat.le_refl _, HL, ⟨fun _ => LT.out⟩, S2⟩
   ·have LT := Aside0.mk (TL.out.2 (decide_eq_false hlv))
    have hlz := eq_false hlv
    clear hlv
    go_wp2_with fail
    refine wp_region_quiet_below mixed (by kernel_rfl) ?_
    repeat (quiet_step (first | (go_at_fn fg; refine Calls.regrown_of (hcg _ _))))
    refine wpQuiet_nil ?_
    intro _ hw'
    obtain ⟨⟨nq, osq⟩, hw''⟩ := hw'
    subst hw''
    have S2 := Aside0.mk (S1.out.below (below_regrown wr nq osq))
    clear l1 l2 hcg
    generalize grow (redrawn wr nq) osq = wq at S2 ⊢
    go_wp2
    go_roundg (j - (h + 1))
    case measure => omega
    case rel => exact ⟨h + 1, j, by go_num, rfl, by omega, by omega, hj0, Nat.le_refl _, ⟨fun _ => by rw [Nat.add_sub_cancel]; exact LT.out⟩, HR, S2⟩
  ·obtain rfl : i = j := by omega
   clear hij hkq
   have hltz : ¬ (i : Int) < (i : Int) := by omega
   go_wp2
   go_loopg [17] (m - i) (fun kq vk wr => ∃ (k : Nat) (dk : Array α), vk = .int .i64 k ∧ i ≤ k ∧ k ≤ m ∧ k - i ≤ kq ∧ Aside0 (dk.size = N) ∧ Aside0 (∀ x, D dk x = R k m (m + 1) (D d) x) ∧ Aside0 (PermIn a b d dk) ∧ Aside0 (St enc 44 90 g m' w0 dk wr))
   case atStart => exact ⟨m, d, rfl, hj0, Nat.le_refl _, Nat.le_refl _, HN, ⟨fun x => (R_none_l x).symm⟩, ⟨permIn_refl d a b⟩, S1⟩
   case round =>
    clear S1
    obtain ⟨k, dk, rfl, hik, hkm, hkq, HD, HR2, HP, S1⟩ := hrel
    by_cases hlt : i < k
    ·have hltz2 : (i : Int) < (k : Int) := by omega
     obtain ⟨kp, hkp⟩ : ∃ kp, k = kp + 1 := ⟨k - 1, by omega⟩
     subst hkp
     have hkN : kp + 1 < N := by omega
     have eA : ((kp : Int) + 1).toNat = kp + 1 := by omega
     have pA : (0 : Int) ≤ (kp : Int) + 1 := by omega
     have bA : (kp : Int) + 1 < (N : Int) := by omega
     have pB : (0 : Int) ≤ (kp : Int) := by omega
     have bB : (kp : Int) < (N : Int) := by omega
     have rB : IntKind.i64.wrap (kp : Int) = (kp : Int) := by rw [IntKind.wrap_i64]; omega
     have HD2 : Aside0 ((swp dk (kp + 1) kp).size = N) := ⟨by rw [size_swp]; exact HD.out⟩
     have HR3 : Aside0 (∀ x, D (swp dk (kp + 1) kp) x = R kp m (m + 1) (D d) x) := ⟨fun x => R_down HR2.out (by omega) (by rw [HD.out]; omega) x⟩
     have HP2 : Aside0 (PermIn a b d (swp dk (kp + 1) kp)) := ⟨permIn_trans _ _ _ _ _ HP.out (swp_permIn dk a b (kp + 1) kp (by omega) (by omega) (by omega) (by omega) (by rw [HD.out]; exact hb))⟩
     have hu : kp + 1 < dk.size := by rw [HD.out]; omega
     have hv : kp < dk.size := by rw [HD.out]; omega
     have SW := S1.out.drew.swapped (P := Try.prog) hu hv
     have l1 : Sem.run Try.prog (Wide.heavy0 ⟨g, (kp + 1) * 44, none⟩ 44) wr.drew = _ := S1.out.drew.ld Try.prog hu
     have l2 : Sem.run Try.prog (Wide.heavy0 ⟨g, (kp) * 44, none⟩ 44) wr.drew = _ := S1.out.drew.ld Try.prog hv
     have s1 := SW.1
     have s2 := SW.2.1
     have S2 := Aside0.mk SW.2.2
     have n1 : (enc dk[kp + 1]!).length = 44 := S1.out.hk _
     have n2 : (enc dk[kp]!).length = 44 := S1.out.hk _
     clear SW hu hv
     generalize enc dk[kp + 1]! = c1 at S2 l1 s2 n1
     generalize enc dk[kp]! = c2 at S2 l2 s1 s2 n2
     clear HD HR2 HP S1
     go_wp2_with fail
     go_big_region_o
     clear l1 l2 s1 s2
     generalize (wr.drew.setCells g ((kp + 1) * 44) c2).setCells g ((kp) * 44) c1 = w2 at S2 ⊢
     all_goals go_wp2
     go_roundg (kp - i)
     case measure => omega
     case rel => exact ⟨kp, _, by first | rfl | go_num, by omega, by omega, Nat.le_refl _, HD2, HR3, HP2, S2⟩
    ·have hltz2 : ¬ (i : Int) < (k : Int) := by omega
     go_wp2
     (try simp only [Exit.inBlock, Exit.then]); refine bodyPost_ret (results_none rfl _ _ _) rfl ?_
     obtain rfl : k = i := by omega
     exact ⟨rfl, dk, HD.out, by
      obtain rfl : b = m + 1 := by omega
      exact asc_down ht HA.out HR2.out hi0 hkm HL.out HR.out, HP.out, S1.out⟩
end Go.Proofs.Ytiodebjjbgcbhaa.Stb
/- The stable sort: slices.symMergeCmpFunc at inputs. Written by tools/bat/mkStbC.py. -/
namespace Go.Proofs.Ytiodebjjbgcbhaa.Stb
open Go.RowKit Go.Sort Go.Lib Go.Shelf Go.Proofs.YtiodebjjbgcbhaaW.PrintWords Go.Proofs.Ytiodebjjbgcbhaa.RowK Go.Proofs.Ytiodebjjbgcbhaa.Fill
attribute [local go_sem ↓ high] Wide.hv44
set_option linter.unusedVariables false
set_option linter.unusedSectionVars false
variable {α : Type} [Inhabited α]
set_option maxHeartbeats 8000000 in
set_option maxRecDepth 1000000 in
theorem symMerge3b {enc : α → List Value} {g m' : Nat} {w0 w : World} {d : Array α} {a m b N cap fg : Nat} {cb : Array Value} {cf : α → α → Int} {lt : α → α → Prop} (ht : ∀ u v w, lt u v → lt v w → lt u w) (eg : ∀ args w, (callFunc fg args).run Try.prog w = .ok (.enter fg args) w) (hC : Cmp enc fg cb cf g w0)
 (hN : d.size = N) (hM : N < 1000000) (ham : a + 1 < m) (hmb : m + 1 < b) (hgt : ¬ (a + b) / 2 < m) (hb : b ≤ N) (hA : Asc lt a (m) d) (hB : Asc lt (m) (b) d) (hX : Cross (lto cf) lt a (m) (b) d) (H : St enc 44 90 g m' w0 d w)
 (IH : ∀ (a1 m1 b1 : Nat) (d1 : Array α) (w1 : World), b1 - a1 < b - a → a1 < m1 → m1 < b1 → b1 ≤ N → d1.size = N → Asc lt a1 m1 d1 → Asc lt m1 b1 d1 → Cross (lto cf) lt a1 m1 b1 d1 → St enc 44 90 g m' w0 d1 w1 →
  Calls Try.prog 92 #[.slice (some ⟨g, 0, none⟩) N cap, .int .i64 a1, .int .i64 m1, .int .i64 b1, .func (.func fg) #[] cb] w1 fun e' w' => e' = .returned (.tuple #[]) ∧ ∃ d', d'.size = N ∧ Asc lt a1 b1 d' ∧ PermIn a1 b1 d1 d' ∧ St enc 44 90 g m' w0 d' w') :
 Calls Try.prog 92 #[.slice (some ⟨g, 0, none⟩) N cap, .int .i64 ((a : Nat) : Int), .int .i64 ((m : Nat) : Int), .int .i64 ((b : Nat) : Int), .func (.func fg) #[] cb] w fun e' w' => e' = .returned (.tuple #[]) ∧
  ∃ d', d'.size = N ∧ Asc lt a (b) d' ∧ PermIn a (b) d d' ∧ St enc 44 90 g m' w0 d' w' := by
 have mixed : Try.prog.follows .mixedOrders = true := by kernel_rfl
 have S0 := Aside0.mk H
 have HN := Aside0.mk hN
 have HA := Aside0.mk hA
 have HB := Aside0.mk hB
 have HX := Aside0.mk hX
 have HC := Aside0.mk hC
 clear H hN hA hB hX hC
 have IHA := Aside0.mk IH
 clear IH
 have haz : (((m : Int) - (a : Int)) == 1) = false := by rw [beq_eq_false_iff_ne]; omega
 have hbz : (((b : Int) - (m : Int)) == 1) = false := by rw [beq_eq_false_iff_ne]; omega
 obtain ⟨mid, hmid⟩ : ∃ mid, mid = (a + b) / 2 := ⟨_, rfl⟩
 rw [← hmid] at hgt
 have HMID := Aside0.mk hmid
 have hmidz : ((a : Int) + (b : Int)) / 2 = (mid : Int) := by omega
 obtain ⟨n, hn⟩ : ∃ n, n = mid + m := ⟨_, rfl⟩
 have hnz : (mid : Int) + (m : Int) = (n : Int) := by omega
 have hmid1 : a < mid := by omega
 have hmid2 : mid < b := by omega
 have hmid3 : 2 * mid ≤ a + b := by omega
 have hmid4 : a + b ≤ 2 * mid + 1 := by omega
 have hn1 : n ≤ mid + m := by omega
 have hn2 : mid + m ≤ n := by omega
 clear hmid hn
 obtain ⟨p, hp⟩ : ∃ p, n = p + 1 := ⟨n - 1, by omega⟩
 have hpz : (n : Int) - 1 = (p : Int) := by omega
 have hp1 : n ≤ p + 1 := by omega
 have hp2 : p + 1 ≤ n := by omega
 clear hp
 have hgz : ¬ (mid : Int) < (m : Int) := by omega
 have hsz : 0 = 0 := rfl
 go_enter Try.func92, Try.ntmps92
 go_wp2
 clear haz hbz hmidz hnz hpz hgz hsz
 go_loopg [20, 21] (m - a) (fun kq vi vj wr => ∃ (i j : Nat), vi = .int .i64 i ∧ vj = .int .i64 j ∧ a ≤ i ∧ i ≤ j ∧ j ≤ m ∧ j - i ≤ kq ∧ Aside0 (a < i → lt (D d (i - 1)) (D d (mid + m - i))) ∧ Aside0 (j < m → lt (D d (mid + m - 1 - j)) (D d j)) ∧ Aside0 (St enc 44 90 g m' w0 d wr))
 case atStart => exact ⟨a, m, by first | rfl | go_num, by first | rfl | go_num, by omega, by omega, by omega, by omega, ⟨fun h => absurd h (Nat.lt_irrefl _)⟩, ⟨fun h => absurd h (Nat.lt_irrefl _)⟩, S0⟩
 case round =>
  clear S0
  obtain ⟨i, j, rfl, rfl, hi0, hij, hj0, hkq, HL, HR, S1⟩ := hrel
  by_cases hlt : i < j
  ·have hltz : (i : Int) < (j : Int) := by omega
   obtain ⟨h, hh⟩ : ∃ h, h = (i + j) / 2 := ⟨_, rfl⟩
   have hhz : ((i : Int) + (j : Int)) / 2 = (h : Int) := by omega
   have hih : i ≤ h := by omega
   have hhj : h < j := by omega
   clear hh
   obtain ⟨u, hu⟩ : ∃ u, u = p - h := ⟨_, rfl⟩
   have huz : (p : Int) - (h : Int) = (u : Int) := by omega
   have hum : m ≤ u := by omega
   have hub : u < b := by omega
   have hu1 : u + h ≤ p := by omega
   have hu2 : p ≤ u + h := by omega
   clear hu
   have huq : u < d.size := by rw [HN.out]; omega
   have hvq : h < d.size := by rw [HN.out]; omega
   have puq : (0 : Int) ≤ (u : Int) := by omega
   have buq : (u : Int) < (N : Int) := by omega
   have ruq : IntKind.i64.wrap (u : Int) = (u : Int) := by rw [IntKind.wrap_i64]; omega
   have pvq : (0 : Int) ≤ (h : Int) := by omega
   have bvq : (h : Int) < (N : Int) := by omega
   have l1 : ∀ dd os, Sem.run Try.prog (Wide.heavy0 ⟨g, u * 44, none⟩ 44) (grow (redrawn wr dd) os) = _ := fun dd os => S1.out.ldr Try.prog huq dd os
   have l2 : ∀ dd os, Sem.run Try.prog (Wide.heavy0 ⟨g, h * 44, none⟩ 44) (grow (redrawn wr dd) os) = _ := fun dd os => S1.out.ldr Try.prog hvq dd os
   have hcg := fun dd os => HC.out.at S1.out d[u]! d[h]! dd os
   clear huq hvq
   obtain ⟨x1, hx⟩ : ∃ x, x = d[u]! := ⟨_, rfl⟩
   obtain ⟨x2, hy⟩ : ∃ x, x = d[h]! := ⟨_, rfl⟩
   rw [← hx] at l1 hcg
   rw [← hy] at l2 hcg
   have XU : Aside0 (x1 = D d u) := ⟨hx⟩
   have XV : Aside0 (x2 = D d h) := ⟨hy⟩
   clear hx hy
   have TL : Aside0 ((lto cf x1 x2 = true → lt (D d (mid + m - 1 - h)) (D d h)) ∧ (lto cf x1 x2 = false → lt (D d h) (D d (mid + m - (h + 1))))) := ⟨by
    rw [XU.out, XV.out, show mid + m - 1 - h = u by omega, show mid + m - (h + 1) = u by omega]; exact HX.out h u (by omega) (by omega) hum hub⟩
   by_cases hlv : cf x1 x2 < 0
   ·have LT := Aside0.mk (TL.out.1 (decide_eq_true hlv))
    have hlz := eq_true hlv
    clear hlv
    go_wp2_with fail
    refine wp_region_quiet_below mixed (by kernel_rfl) ?_
    repeat (quiet_step (first | (go_at_fn fg; refine Calls.regrown_of (hcg _ _))))
    refine wpQuiet_nil ?_
    intro _ hw'
    obtain ⟨⟨nq, osq⟩, hw''⟩ := hw'
    subst hw''
    have S2 := Aside0.mk (S1.out.below (below_regrown wr nq osq))
    clear l1 l2 hcg
    generalize grow (redrawn wr nq) osq = wq at S2 ⊢
    go_wp2
    go_roundg (h - i)
    case measure => omega
    case rel => exact ⟨i, h, rfl, by first | rfl | go_num, hi0, hih, by omega, Nat.le_refl _, HL, ⟨fun _ => LT.out⟩, S2⟩
   ·have LT := Aside0.mk (TL.out.2 (decide_eq_false hlv))
    have hlz := eq_false hlv
    clear hlv
    go_wp2_with fail
    refine wp_region_quiet_below mixed (by kernel_rfl) ?_
    repeat (quiet_step (first | (go_at_fn fg; refine Calls.regrown_of (hcg _ _))))
    refine wpQuiet_nil ?_
    intro _ hw'
    obtain ⟨⟨nq, osq⟩, hw''⟩ := hw'
    subst hw''
    have S2 := Aside0.mk (S1.out.below (below_regrown wr nq osq))
    clear l1 l2 hcg
    generalize grow (redrawn wr nq) osq = wq at S2 ⊢
    go_wp2
    go_roundg (j - (h + 1))
    case measure => omega
    case rel => exact ⟨h + 1, j, by go_num, rfl, by omega, by omega, hj0, Nat.le_refl _, ⟨fun _ => by rw [Nat.add_sub_cancel]; exact LT.out⟩, HR, S2⟩
  ·obtain rfl : i = j := by omega
   clear hij hkq
   have hltz : ¬ (i : Int) < (i : Int) := by omega
   obtain ⟨q, hq⟩ : ∃ q, q = n - i := ⟨_, rfl⟩
   have hqz : (n : Int) - (i : Int) = (q : Int) := by omega
   have hai : a ≤ i := by omega
   have him : i ≤ m := by omega
   have hid : i ≤ mid := by omega
   have hmq : m ≤ q := by omega
   have hqb : q ≤ b := by omega
   have hdq : mid ≤ q := by omega
   have CUT : Aside0 (∀ d1 : Array α, d1.size = N → (∀ x, D d1 x = R i m q (D d) x) → PermIn a b d d1 → Cut (lto cf) lt a m b mid i q d d1) := ⟨fun d1 h1 h2 h3 => ⟨HA.out, HB.out, HX.out, h2, h3, by rw [HN.out]; exact hb, hai, him, hid, hmq, hqb, by omega, hdq, by omega,
    cut_cross (mid := mid) (s0 := a) (r0 := m) ht HMID.out (by omega) (by omega) HA.out HB.out hi0 hj0 (by omega) (by rw [if_neg (show ¬ mid < m by omega)]; exact ⟨rfl, rfl⟩) HL.out HR.out h2⟩⟩
   clear HL HR hq
   by_cases hc1 : i < m ∧ m < q
   ·have RO := Aside0.mk (rotate (a := i) (m := m) (b := q) (N := N) (cap := cap) (.func (.func fg) #[] cb) HN.out hM hc1.1 hc1.2 (by omega) S1.out)
    have z1 : (i : Int) < (m : Int) := by omega
    have z2 : (m : Int) < (q : Int) := by omega
    by_cases hc2 : a < i ∧ i < mid
    ·by_cases hc3 : mid < q ∧ q < b
     ·have y1 : (a : Int) < (i : Int) := by omega
      have y2 : (i : Int) < (mid : Int) := by omega
      have x1 : (mid : Int) < (q : Int) := by omega
      have x2 : (q : Int) < (b : Int) := by omega
      (go_wp2_with (first | (go_at_call 92; refine (IHA.out mid q b d2 _ (by omega) hc3.1 hc3.2 hb K2.out.1 (K1.out.2.1.right K2.out.2.2.1).1 (K1.out.2.1.right K2.out.2.2.1).2.1 (K1.out.2.1.right K2.out.2.2.1).2.2 K2.out.2.2.2).mono ?_; rintro e w3 ⟨rfl, d3, k1, k2, k3, k4⟩; have K3 := Aside0.mk (And.intro k1 (And.intro k2 (And.intro k3 k4))); clear k1 k2 k3 k4) | (go_at_call 92; refine (IHA.out a i mid d1 _ (by omega) hc2.1 hc2.2 (by omega) K1.out.1 K1.out.2.1.left.1 K1.out.2.1.left.2.1 K1.out.2.1.left.2.2 K1.out.2.2).mono ?_; rintro e w2 ⟨rfl, d2, k1, k2, k3, k4⟩; have K2 := Aside0.mk (And.intro k1 (And.intro k2 (And.intro k3 k4))); clear k1 k2 k3 k4) | (go_at_call 103; refine RO.out.mono ?_; rintro e w1 ⟨rfl, d1, k1, k2, k3, k4⟩; have K1 := Aside0.mk (And.intro k1 (And.intro (CUT.out d1 k1 k2 (permIn_mono _ _ _ _ _ _ hai hqb (by rw [HN.out]; exact hb) k3)) k4)); clear k1 k2 k3 k4)); all_goals (go_end0; have EN := K1.out.2.1.end K2.out.2.2.1 K3.out.2.2.1 K2.out.2.1 K3.out.2.1; exact ⟨rfl, d3, K3.out.1, EN.1, EN.2, K3.out.2.2.2⟩))
     ·have y1 : (a : Int) < (i : Int) := by omega
      have y2 : (i : Int) < (mid : Int) := by omega
      have xx : (¬ (mid : Int) < (q : Int)) ∨ ((mid : Int) < (q : Int) ∧ ¬ (q : Int) < (b : Int)) := by omega
      (rcases xx with hxx | ⟨hxx, hxx'⟩) <;> (go_wp2_with (first | (go_at_call 92; refine (IHA.out a i mid d1 _ (by omega) hc2.1 hc2.2 (by omega) K1.out.1 K1.out.2.1.left.1 K1.out.2.1.left.2.1 K1.out.2.1.left.2.2 K1.out.2.2).mono ?_; rintro e w2 ⟨rfl, d2, k1, k2, k3, k4⟩; have K2 := Aside0.mk (And.intro k1 (And.intro k2 (And.intro k3 k4))); clear k1 k2 k3 k4; have K3 := Aside0.mk (And.intro K2.out.1 (And.intro (K1.out.2.1.right_none K2.out.2.2.1 hc3) (And.intro (permIn_refl d2 mid b) K2.out.2.2.2)))) | (go_at_call 103; refine RO.out.mono ?_; rintro e w1 ⟨rfl, d1, k1, k2, k3, k4⟩; have K1 := Aside0.mk (And.intro k1 (And.intro (CUT.out d1 k1 k2 (permIn_mono _ _ _ _ _ _ hai hqb (by rw [HN.out]; exact hb) k3)) k4)); clear k1 k2 k3 k4)); all_goals (go_end0; have EN := K1.out.2.1.end K2.out.2.2.1 K3.out.2.2.1 K2.out.2.1 K3.out.2.1; exact ⟨rfl, d2, K3.out.1, EN.1, EN.2, K3.out.2.2.2⟩))
    ·by_cases hc3 : mid < q ∧ q < b
     ·have yy : (¬ (a : Int) < (i : Int)) ∨ ((a : Int) < (i : Int) ∧ ¬ (i : Int) < (mid : Int)) := by omega
      have x1 : (mid : Int) < (q : Int) := by omega
      have x2 : (q : Int) < (b : Int) := by omega
      (rcases yy with hyy | ⟨hyy, hyy'⟩) <;> (go_wp2_with (first | (go_at_call 92; refine (IHA.out mid q b d1 _ (by omega) hc3.1 hc3.2 hb K2.out.1 (K1.out.2.1.right K2.out.2.2.1).1 (K1.out.2.1.right K2.out.2.2.1).2.1 (K1.out.2.1.right K2.out.2.2.1).2.2 K2.out.2.2.2).mono ?_; rintro e w3 ⟨rfl, d3, k1, k2, k3, k4⟩; have K3 := Aside0.mk (And.intro k1 (And.intro k2 (And.intro k3 k4))); clear k1 k2 k3 k4) | (go_at_call 103; refine RO.out.mono ?_; rintro e w1 ⟨rfl, d1, k1, k2, k3, k4⟩; have K1 := Aside0.mk (And.intro k1 (And.intro (CUT.out d1 k1 k2 (permIn_mono _ _ _ _ _ _ hai hqb (by rw [HN.out]; exact hb) k3)) k4)); clear k1 k2 k3 k4; have K2 := Aside0.mk (And.intro K1.out.1 (And.intro (K1.out.2.1.left_none hc2) (And.intro (permIn_refl d1 a mid) K1.out.2.2))))); all_goals (go_end0; have EN := K1.out.2.1.end K2.out.2.2.1 K3.out.2.2.1 K2.out.2.1 K3.out.2.1; exact ⟨rfl, d3, K3.out.1, EN.1, EN.2, K3.out.2.2.2⟩))
     ·have yy : (¬ (a : Int) < (i : Int)) ∨ ((a : Int) < (i : Int) ∧ ¬ (i : Int) < (mid : Int)) := by omega
      have xx : (¬ (mid : Int) < (q : Int)) ∨ ((mid : Int) < (q : Int) ∧ ¬ (q : Int) < (b : Int)) := by omega
      (rcases yy with hyy | ⟨hyy, hyy'⟩) <;> (rcases xx with hxx | ⟨hxx, hxx'⟩) <;> (go_wp2_with (first | (go_at_call 103; refine RO.out.mono ?_; rintro e w1 ⟨rfl, d1, k1, k2, k3, k4⟩; have K1 := Aside0.mk (And.intro k1 (And.intro (CUT.out d1 k1 k2 (permIn_mono _ _ _ _ _ _ hai hqb (by rw [HN.out]; exact hb) k3)) k4)); clear k1 k2 k3 k4; have K2 := Aside0.mk (And.intro K1.out.1 (And.intro (K1.out.2.1.left_none hc2) (And.intro (permIn_refl d1 a mid) K1.out.2.2))); have K3 := Aside0.mk (And.intro K2.out.1 (And.intro (K1.out.2.1.right_none K2.out.2.2.1 hc3) (And.intro (permIn_refl d1 mid b) K2.out.2.2.2))))); all_goals (go_end0; have EN := K1.out.2.1.end K2.out.2.2.1 K3.out.2.2.1 K2.out.2.1 K3.out.2.1; exact ⟨rfl, d1, K3.out.1, EN.1, EN.2, K3.out.2.2.2⟩))
   ·have zz : (¬ (i : Int) < (m : Int)) ∨ ((i : Int) < (m : Int) ∧ ¬ (m : Int) < (q : Int)) := by omega
    have KC := CUT.out d HN.out (fun x => by
     by_cases h : i < m
     ·obtain rfl : m = q := by omega
      exact (R_none_r x).symm
     ·obtain rfl : i = m := by omega
      exact (R_none_l x).symm) (permIn_refl d a b)
    obtain ⟨d1, hd1⟩ : ∃ d1, d1 = d := ⟨_, rfl⟩
    have K1 : Aside0 (d1.size = N ∧ Cut (lto cf) lt a m b mid i q d d1 ∧ St enc 44 90 g m' w0 d1 wr) := ⟨by rw [hd1]; exact ⟨HN.out, KC, S1.out⟩⟩
    clear KC hd1
    by_cases hc2 : a < i ∧ i < mid
    ·by_cases hc3 : mid < q ∧ q < b
     ·have y1 : (a : Int) < (i : Int) := by omega
      have y2 : (i : Int) < (mid : Int) := by omega
      have x1 : (mid : Int) < (q : Int) := by omega
      have x2 : (q : Int) < (b : Int) := by omega
      (rcases zz with hzz | ⟨hzz, hzz'⟩) <;> (go_wp2_with (first | (go_at_call 92; refine (IHA.out mid q b d2 _ (by omega) hc3.1 hc3.2 hb K2.out.1 (K1.out.2.1.right K2.out.2.2.1).1 (K1.out.2.1.right K2.out.2.2.1).2.1 (K1.out.2.1.right K2.out.2.2.1).2.2 K2.out.2.2.2).mono ?_; rintro e w3 ⟨rfl, d3, k1, k2, k3, k4⟩; have K3 := Aside0.mk (And.intro k1 (And.intro k2 (And.intro k3 k4))); clear k1 k2 k3 k4) | (go_at_call 92; refine (IHA.out a i mid d1 _ (by omega) hc2.1 hc2.2 (by omega) K1.out.1 K1.out.2.1.left.1 K1.out.2.1.left.2.1 K1.out.2.1.left.2.2 K1.out.2.2).mono ?_; rintro e w2 ⟨rfl, d2, k1, k2, k3, k4⟩; have K2 := Aside0.mk (And.intro k1 (And.intro k2 (And.intro k3 k4))); clear k1 k2 k3 k4)); all_goals (go_end0; have EN := K1.out.2.1.end K2.out.2.2.1 K3.out.2.2.1 K2.out.2.1 K3.out.2.1; exact ⟨rfl, d3, K3.out.1, EN.1, EN.2, K3.out.2.2.2⟩))
     ·have y1 : (a : Int) < (i : Int) := by omega
      have y2 : (i : Int) < (mid : Int) := by omega
      have xx : (¬ (mid : Int) < (q : Int)) ∨ ((mid : Int) < (q : Int) ∧ ¬ (q : Int) < (b : Int)) := by omega
      (rcases xx with hxx | ⟨hxx, hxx'⟩) <;> (rcases zz with hzz | ⟨hzz, hzz'⟩) <;> (go_wp2_with (first | (go_at_call 92; refine (IHA.out a i mid d1 _ (by omega) hc2.1 hc2.2 (by omega) K1.out.1 K1.out.2.1.left.1 K1.out.2.1.left.2.1 K1.out.2.1.left.2.2 K1.out.2.2).mono ?_; rintro e w2 ⟨rfl, d2, k1, k2, k3, k4⟩; have K2 := Aside0.mk (And.intro k1 (And.intro k2 (And.intro k3 k4))); clear k1 k2 k3 k4; have K3 := Aside0.mk (And.intro K2.out.1 (And.intro (K1.out.2.1.right_none K2.out.2.2.1 hc3) (And.intro (permIn_refl d2 mid b) K2.out.2.2.2))))); all_goals (go_end0; have EN := K1.out.2.1.end K2.out.2.2.1 K3.out.2.2.1 K2.out.2.1 K3.out.2.1; exact ⟨rfl, d2, K3.out.1, EN.1, EN.2, K3.out.2.2.2⟩))
    ·by_cases hc3 : mid < q ∧ q < b
     ·have K2 := Aside0.mk (And.intro K1.out.1 (And.intro (K1.out.2.1.left_none hc2) (And.intro (permIn_refl d1 a mid) K1.out.2.2)))
      have yy : (¬ (a : Int) < (i : Int)) ∨ ((a : Int) < (i : Int) ∧ ¬ (i : Int) < (mid : Int)) := by omega
      have x1 : (mid : Int) < (q : Int) := by omega
      have x2 : (q : Int) < (b : Int) := by omega
      (rcases yy with hyy | ⟨hyy, hyy'⟩) <;> (rcases zz with hzz | ⟨hzz, hzz'⟩) <;> (go_wp2_with (first | (go_at_call 92; refine (IHA.out mid q b d1 _ (by omega) hc3.1 hc3.2 hb K2.out.1 (K1.out.2.1.right K2.out.2.2.1).1 (K1.out.2.1.right K2.out.2.2.1).2.1 (K1.out.2.1.right K2.out.2.2.1).2.2 K2.out.2.2.2).mono ?_; rintro e w3 ⟨rfl, d3, k1, k2, k3, k4⟩; have K3 := Aside0.mk (And.intro k1 (And.intro k2 (And.intro k3 k4))); clear k1 k2 k3 k4)); all_goals (go_end0; have EN := K1.out.2.1.end K2.out.2.2.1 K3.out.2.2.1 K2.out.2.1 K3.out.2.1; exact ⟨rfl, d3, K3.out.1, EN.1, EN.2, K3.out.2.2.2⟩))
     ·have K2 := Aside0.mk (And.intro K1.out.1 (And.intro (K1.out.2.1.left_none hc2) (And.intro (permIn_refl d1 a mid) K1.out.2.2)))
      have K3 := Aside0.mk (And.intro K2.out.1 (And.intro (K1.out.2.1.right_none K2.out.2.2.1 hc3) (And.intro (permIn_refl d1 mid b) K2.out.2.2.2)))
      have yy : (¬ (a : Int) < (i : Int)) ∨ ((a : Int) < (i : Int) ∧ ¬ (i : Int) < (mid : Int)) := by omega
      have xx : (¬ (mid : Int) < (q : Int)) ∨ ((mid : Int) < (q : Int) ∧ ¬ (q : Int) < (b : Int)) := by omega
      (rcases yy with hyy | ⟨hyy, hyy'⟩) <;> (rcases xx with hxx | ⟨hxx, hxx'⟩) <;> (rcases zz with hzz | ⟨hzz, hzz'⟩) <;> (go_wp2_with fail; all_goals (go_end0; have EN := K1.out.2.1.end K2.out.2.2.1 K3.out.2.2.1 K2.out.2.1 K3.out.2.1; exact ⟨rfl, d1, K3.out.1, EN.1, EN.2, K3.out.2.2.2⟩))
end Go.Proofs.Ytiodebjjbgcbhaa.Stb
