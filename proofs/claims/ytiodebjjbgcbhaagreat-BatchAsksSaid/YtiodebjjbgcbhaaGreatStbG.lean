import Derived.Test.YtiodebjjbgcbhaaGreatStbE
namespace Go.Proofs.YtiodebjjbgcbhaaGreat.Stb
open Go.RowKit Go.Sort Go.Lib Go.Shelf Go.Proofs YtiodebjjbgcbhaaGreatW.PrintWords YtiodebjjbgcbhaaGreat RowK Fill
attribute [local go_sem ↓ high] Wide.hv44
set_option linter.unusedVariables false
set_option linter.unusedSectionVars false
variable {α : Type} [Inhabited α]
set_option maxHeartbeats 8000000 in
set_option maxRecDepth 1000000 in
theorem symMerge {enc : α → List Value} {g m' : Nat} {w0 w : World} {d : Array α} {a m b N cap fg : Nat} {cb : Array Value} {cf : α → α → Int} {lt : α → α → Prop} (ht : ∀ u v w, lt u v → lt v w → lt u w) (eg : ∀ args w, (callFunc fg args).run Tryz.prog w = .ok (.enter fg args) w) (hC : Cmp enc fg cb cf g w0)
 (hN : d.size = N) (hM : N < 1000000) (ham : a < m) (hmb : m < b) (hb : b ≤ N) (hA : Asc lt a (m) d) (hB : Asc lt (m) (b) d) (hX : Cross (lto cf) lt a (m) (b) d) (H : St enc 44 38 g m' w0 d w) :
 Calls Tryz.prog 90 #[.slice (some ⟨g, 0, none⟩) N cap, .int .i64 ((a : Nat) : Int), .int .i64 ((m : Nat) : Int), .int .i64 ((b : Nat) : Int), .func (.func fg) #[] cb] w fun e' w' => e' = .returned (.tuple #[]) ∧
  ∃ d', d'.size = N ∧ Asc lt a (b) d' ∧ PermIn a (b) d d' ∧ St enc 44 38 g m' w0 d' w' := by
 suffices h : ∀ (L a m b : Nat) (d : Array α) (w : World), b - a ≤ L → a < m → m < b → b ≤ N → d.size = N → Asc lt a m d → Asc lt m b d → Cross (lto cf) lt a m b d → St enc 44 38 g m' w0 d w →
  Calls Tryz.prog 90 #[.slice (some ⟨g, 0, none⟩) N cap, .int .i64 a, .int .i64 m, .int .i64 b, .func (.func fg) #[] cb] w fun e' w' => e' = .returned (.tuple #[]) ∧ ∃ d', d'.size = N ∧ Asc lt a b d' ∧ PermIn a b d d' ∧ St enc 44 38 g m' w0 d' w' from
  h _ a m b d w (Nat.le_refl _) ham hmb hb hN hA hB hX H
 intro L
 induction L with
 | zero => intro a m b d w h1 h2 h3; omega
 | succ L ih =>
  intro a m b d w hL ham hmb hb hN hA hB hX H
  have IH : ∀ (a1 m1 b1 : Nat) (d1 : Array α) (w1 : World), b1 - a1 < b - a → a1 < m1 → m1 < b1 → b1 ≤ N → d1.size = N → Asc lt a1 m1 d1 → Asc lt m1 b1 d1 → Cross (lto cf) lt a1 m1 b1 d1 → St enc 44 38 g m' w0 d1 w1 →
   Calls Tryz.prog 90 #[.slice (some ⟨g, 0, none⟩) N cap, .int .i64 a1, .int .i64 m1, .int .i64 b1, .func (.func fg) #[] cb] w1 fun e' w' => e' = .returned (.tuple #[]) ∧ ∃ d', d'.size = N ∧ Asc lt a1 b1 d' ∧ PermIn a1 b1 d1 d' ∧ St enc 44 38 g m' w0 d' w' :=
   fun a1 m1 b1 d1 w1 h1 h2 h3 h4 h5 h6 h7 h8 h9 => ih a1 m1 b1 d1 w1 (by omega) h2 h3 h4 h5 h6 h7 h8 h9
  by_cases c1 : m ≤ a + 1
  ·exact symMerge1 ht eg hC hN hM ham c1 hmb hb hA hB hX H
  ·by_cases c2 : b ≤ m + 1
   ·exact symMerge2 ht eg hC hN hM (by omega) hmb c2 hb hA hB hX H
   ·by_cases c3 : (a + b) / 2 < m
    ·exact symMerge3a ht eg hC hN hM (by omega) (by omega) c3 hb hA hB hX H IH
    ·exact symMerge3b ht eg hC hN hM (by omega) (by omega) c3 hb hA hB hX H IH
end Go.Proofs.YtiodebjjbgcbhaaGreat.Stb
namespace Go.Proofs.YtiodebjjbgcbhaaGreat.Stb
open Go.RowKit Go.Sort Go.Lib Go.Shelf Go.Proofs YtiodebjjbgcbhaaGreatW.PrintWords YtiodebjjbgcbhaaGreat RowK Fill
set_option linter.unusedVariables false
set_option linter.unusedSectionVars false
variable {α : Type} [Inhabited α]
theorem div_same {a m x : Nat} (h : a % m = 0) (h1 : a ≤ x) (h2 : x < a + m) : x / m = a / m := by
 have e : m * (a / m) = a := by have := Nat.div_add_mod a m; omega
 refine Nat.div_eq_of_lt_le ?_ ?_
 ·rw [Nat.mul_comm, e]; exact h1
 ·rw [Nat.add_mul, Nat.one_mul, Nat.mul_comm, e]; exact h2
theorem div_lower {a m x y : Nat} (hm : 0 < m) (h : a % m = 0) (h1 : a ≤ y) (e : x / m = y / m) : a ≤ x := by
 have e2 : m * (a / m) = a := by have := Nat.div_add_mod a m; omega
 have h3 : a / m ≤ x / m := by rw [e]; exact Nat.div_le_div_right h1
 have h4 := Nat.mul_le_mul_left m h3
 have h5 := Nat.mul_div_le x m
 omega
section
variable (tag : α → Nat) (lt : α → α → Prop)
structure Bl (bs N : Nat) (d dk : Array α) : Prop where
 perm : PermIn 0 N d dk
 tags : ∀ x, x < N → tag (D dk x) / bs = x / bs
 srt : ∀ x y, x < y → y < N → x / bs = y / bs → lt (D dk x) (D dk y)
structure Mk (M N a : Nat) (d dk : Array α) : Prop where
 perm : PermIn 0 N d dk
 tags : ∀ x, x < N → tag (D dk x) / M = x / M
 srt : ∀ x y, x < y → y < a → x / M = y / M → lt (D dk x) (D dk y)
 ha : a % M = 0
 hN : a ≤ N
variable {tag lt} {M N a b : Nat} {d dk d' : Array α}
theorem Mk.step (h : Mk tag lt M N a d dk) (hM : 0 < M) (hs : d.size = N) (hab : a ≤ b) (hb : b ≤ a + M) (hbN : b ≤ N) (p : PermIn a b dk d') (s : Asc lt a b d') :
 PermIn 0 N d d' ∧ (∀ x, x < N → tag (D d' x) / M = x / M) ∧ ∀ x y, x < y → y < b → x / M = y / M → lt (D d' x) (D d' y) := by
 have hk : dk.size = N := h.perm.1.trans hs
 refine ⟨permIn_trans _ _ _ _ _ h.perm (permIn_mono _ _ _ _ _ _ (Nat.zero_le _) hbN (by omega) p), fun x hx => ?_, fun x y hxy hy e => ?_⟩
 ·by_cases c : a ≤ x ∧ x < b
  ·have k := permIn_all dk d' a b (fun u => tag u / M = a / M) (by omega) p (fun i h1 h2 => (h.tags i (by omega)).trans (div_same h.ha h1 (by omega))) x c.1 c.2
   exact k.trans (div_same h.ha c.1 (by omega)).symm
  ·rw [show D d' x = D dk x from p.2.1 x (by omega)]; exact h.tags x hx
 ·by_cases c : y < a
  ·rw [show D d' x = D dk x from p.2.1 x (by omega), show D d' y = D dk y from p.2.1 y (by omega)]; exact h.srt x y hxy c e
  ·exact s x y (div_lower hM h.ha (by omega) e) hxy hy
theorem Mk.next (h : Mk tag lt M N a d dk) (hM : 0 < M) (hs : d.size = N) (hb : a + M ≤ N) (p : PermIn a (a + M) dk d') (s : Asc lt a (a + M) d') : Mk tag lt M N (a + M) d d' := by
 obtain ⟨k1, k2, k3⟩ := h.step hM hs (by omega) (Nat.le_refl _) hb p s
 exact ⟨k1, k2, k3, by rw [Nat.add_mod_right]; exact h.ha, hb⟩
theorem Mk.fin (h : Mk tag lt M N a d dk) (hM : 0 < M) (hs : d.size = N) (hb : N ≤ a + M) (p : PermIn a N dk d') (s : Asc lt a N d') : Bl tag lt M N d d' := by
 obtain ⟨k1, k2, k3⟩ := h.step hM hs h.hN hb (Nat.le_refl _) p s
 exact ⟨k1, k2, k3⟩
structure Old (tag : α → Nat) (lt : α → α → Prop) (bs N a : Nat) (dk : Array α) : Prop where
 tags : ∀ x, a ≤ x → x < N → tag (D dk x) / bs = x / bs
 srt : ∀ x y, a ≤ x → x < y → y < N → x / bs = y / bs → lt (D dk x) (D dk y)
theorem Old.next {bs : Nat} (h : Old tag lt bs N a dk) (hab : a ≤ b) (p : PermIn a b dk d') : Old tag lt bs N b d' :=
 ⟨fun x h1 h2 => by rw [show D d' x = D dk x from p.2.1 x (.inr h1)]; exact h.tags x (by omega) h2,
  fun x y h1 h2 h3 e => by rw [show D d' x = D dk x from p.2.1 x (.inr h1), show D d' y = D dk y from p.2.1 y (.inr (by omega))]; exact h.srt x y (by omega) h2 h3 e⟩
theorem mod_half {a bs : Nat} (h : a % (2 * bs) = 0) : a % bs = 0 := by
 have := Nat.mod_mul_left_mod a 2 bs
 rw [← this, h, Nat.zero_mod]
theorem Old.pre {bs : Nat} {ltc : α → α → Bool} (hT : ∀ u v, tag u < tag v → Told ltc lt u v) (h : Old tag lt bs N a dk) (hbs : 0 < bs) (ha : a % (2 * bs) = 0) (h1 : a + bs < b) (h2 : b ≤ a + 2 * bs) (h3 : b ≤ N) :
 Asc lt a (a + bs) dk ∧ Asc lt (a + bs) b dk ∧ Cross ltc lt a (a + bs) b dk := by
 have hm := mod_half ha
 have hm2 : (a + bs) % bs = 0 := by rw [Nat.add_mod_right]; exact hm
 refine ⟨fun x y k1 k2 k3 => h.srt x y k1 k2 (by omega) ?_, fun x y k1 k2 k3 => h.srt x y (by omega) k2 (by omega) ?_, fun x y k1 k2 k3 k4 => hT _ _ ?_⟩
 ·rw [div_same (x := x) hm k1 (by omega), div_same (x := y) hm (by omega) k3]
 ·rw [div_same (x := x) hm2 k1 (by omega), div_same (x := y) hm2 (by omega) (by omega)]
 ·have e1 := h.tags x k1 (by omega)
  have e2 := h.tags y (by omega) (by omega)
  rw [div_same hm k1 (by omega)] at e1
  rw [div_same hm2 k3 (by omega), Nat.add_div_right _ hbs] at e2
  refine Nat.lt_of_not_le fun hle => ?_
  have := Nat.div_le_div_right (c := bs) hle
  omega
theorem Bl.begin {bs : Nat} (h : Bl tag lt bs N d dk) : Mk tag lt (2 * bs) N 0 d dk ∧ Old tag lt bs N 0 dk := by
 refine ⟨⟨h.perm, fun x hx => ?_, fun x y h1 h2 => by omega, by simp, by omega⟩, ⟨fun x _ hx => h.tags x hx, fun x y _ h1 h2 e => h.srt x y h1 h2 e⟩⟩
 have e : ∀ z : Nat, z / (2 * bs) = z / bs / 2 := fun z => by rw [Nat.div_div_eq_div_mul, Nat.mul_comm]
 rw [e, e, h.tags x hx]
theorem Mk.alone {bs : Nat} (h : Mk tag lt (2 * bs) N a d dk) (o : Old tag lt bs N a dk) (hbs : 0 < bs) (hb : N ≤ a + bs) : Bl tag lt (2 * bs) N d dk := by
 have hm := mod_half h.ha
 refine ⟨h.perm, h.tags, fun x y h1 h2 e => ?_⟩
 by_cases c : y < a
 ·exact h.srt x y h1 c e
 ·have hx := div_lower (by omega) h.ha (by omega) e
  exact o.srt x y hx h1 h2 (by rw [div_same (x := x) hm hx (by omega), div_same (x := y) hm (by omega) (by omega)])
theorem Bl.whole {bs : Nat} (h : Bl tag lt bs N d dk) (hb : N ≤ bs) : Asc lt 0 N dk := fun x y _ h1 h2 => h.srt x y h1 h2 (by rw [Nat.div_eq_of_lt (by omega), Nat.div_eq_of_lt (by omega)])
end
set_option maxHeartbeats 4000000 in
set_option maxRecDepth 1000000 in
theorem stable {enc : α → List Value} {g m : Nat} {w0 w : World} {d : Array α} {N cap fg : Nat} {cb : Array Value} {cf : α → α → Int} {lt : α → α → Prop} (tag : α → Nat) (ht : ∀ u v w, lt u v → lt v w → lt u w) (hT : ∀ u v, tag u < tag v → Told (lto cf) lt u v) (eg : ∀ args w, (callFunc fg args).run Tryz.prog w = .ok (.enter fg args) w) (hC : Cmp enc fg cb cf g w0)
 (hN : d.size = N) (hM : N < 1000000) (hd : ∀ x, x < N → tag (D d x) = x) (H : St enc 44 38 g m w0 d w) :
 Calls Tryz.prog 75 #[.slice (some ⟨g, 0, none⟩) N cap, .int .i64 N, .func (.func fg) #[] cb] w fun e' w' => e' = .returned (.tuple #[]) ∧
  ∃ d', d'.size = N ∧ Asc lt 0 N d' ∧ PermIn 0 N d d' ∧ St enc 44 38 g m w0 d' w' := by
 have S0 := Ak H
 have HN := Ak hN
 have HC := Ak hC
 have HT := Ak hT
 have HD := Ak hd
 clear H hN hC hT hd
 go_enter Tryz.func75, Tryz.ntmps75
 go_wp2
 go_loopg [7, 8] N (fun kq va vb wr => ∃ (a : Nat) (dk : Array α), va = .int .i64 a ∧ vb = .int .i64 ((a : Int) + 20) ∧ a ≤ N ∧ N - a ≤ kq ∧ Aside0 (dk.size = N) ∧ Aside0 (Mk tag lt 20 N a d dk) ∧ Aside0 (∀ x, a ≤ x → D dk x = D d x) ∧ Aside0 (St enc 44 38 g m w0 dk wr))
 case atStart => exact ⟨0, d, rfl, by first | rfl | go_num, by omega, by omega, HN, ⟨⟨permIn_refl _ _ _, fun x hx => by rw [HD.1 x hx], fun x y h1 h2 => by omega, rfl, by omega⟩⟩, ⟨fun _ _ => rfl⟩, S0⟩
 case round =>
  clear S0
  obtain ⟨a, dk, rfl, rfl, haN, hkq, HS, HM, HE, S1⟩ := hrel
  have hins : ∀ b, a ≤ b → b ≤ N → ∀ x y, a ≤ x → x < y → y < b → Told (lto cf) lt (D dk x) (D dk y) := fun b _ hb x y h1 h2 h3 => by
   rw [HE.out x h1, HE.out y (by omega)]
   exact HT.1 _ _ (by rw [HD.1 x (by omega), HD.1 y (by omega)]; exact h2)
  have HI := Ak hins
  clear hins
  by_cases hlt : a + 20 ≤ N
  ·have hz : (a : Int) + 20 ≤ (N : Int) := by omega
   have IC := Ak (insSort (a := a) (b := a + 20) (N := N) (cap := cap) ht eg HC.1 HS.out hM (by omega) hlt (HI.1 _ (by omega) hlt) S1.out)
   have e20 : ((a + 20 : Nat) : Int) = (a : Int) + 20 := by omega
   rw [e20] at IC
   go_wp2_with (go_at_call 89; refine IC.1.mono ?_; rintro e w' ⟨rfl, d', k1, k2, k3, k4⟩; have K := Ak (And.intro k1 (And.intro k2 (And.intro k3 k4))); clear k1 k2 k3 k4)
   go_roundg (N - (a + 20))
   case measure => omega
   case rel =>
    obtain ⟨k1, k2, k3, k4⟩ := K.1
    exact ⟨a + 20, d', by go_num, by go_num, hlt, Nat.le_refl _, ⟨k1⟩, ⟨HM.out.next (by omega) HN.1 hlt k3 k2⟩, ⟨fun x hx => (k3.2.1 x (.inr hx)).trans (HE.out x (by omega))⟩, ⟨k4⟩⟩
  ·have hz : ¬ (a : Int) + 20 ≤ (N : Int) := by omega
   have IC := Ak (insSort (a := a) (b := N) (N := N) (cap := cap) ht eg HC.1 HS.out hM haN (Nat.le_refl _) (HI.1 _ haN (Nat.le_refl _)) S1.out)
   go_wp2_with (go_at_call 89; refine IC.1.mono ?_; rintro e w' ⟨rfl, d', k1, k2, k3, k4⟩; have B := Ak (And.intro k1 (And.intro (HM.out.fin (by omega) HN.1 (by omega) k3 k2) k4)); clear k1 k2 k3 k4)
   clear IC HI HE HM HS S1 hlt hz
   go_loopg [6] N (fun kq vs wr => ∃ (bs : Nat) (dk : Array α), vs = .int .i64 bs ∧ 0 < bs ∧ bs < 2000000 ∧ N - bs ≤ kq ∧ Aside0 (dk.size = N) ∧ Aside0 (Bl tag lt bs N d dk) ∧ Aside0 (St enc 44 38 g m w0 dk wr))
   case atStart => exact ⟨20, d', rfl, by omega, by omega, by omega, ⟨B.1.1⟩, ⟨B.1.2.1⟩, ⟨B.1.2.2⟩⟩
   case round =>
    clear B
    obtain ⟨bs, dk, rfl, hbs, hbs2, hkq2, HS, HB, S1⟩ := hrel
    by_cases hlt : bs < N
    ·have hz : (bs : Int) < (N : Int) := by omega
     obtain ⟨M, hM2⟩ : ∃ M, M = 2 * bs := ⟨_, rfl⟩
     have BG : Aside0 (Mk tag lt M N 0 d dk ∧ Old tag lt bs N 0 dk) := ⟨by rw [hM2]; exact HB.out.begin⟩
     have hMz : 2 * (bs : Int) = (M : Int) := by omega
     have hMz2 : (bs : Int) * 2 = (M : Int) := by omega
     have hM3 : M ≤ 2 * bs := by omega
     have hM4 : 2 * bs ≤ M := by omega
     have HM2 := Ak hM2
     clear hM2
     go_wp2
     go_loopg [7, 8] N (fun kq3 va vb wr => ∃ (a b : Nat) (dj : Array α), va = .int .i64 a ∧ vb = .int .i64 b ∧ b ≤ a + M ∧ a + M ≤ b ∧ a ≤ N ∧ N - a ≤ kq3 ∧ Aside0 (dj.size = N) ∧ Aside0 (Mk tag lt M N a d dj) ∧ Aside0 (Old tag lt bs N a dj) ∧ Aside0 (St enc 44 38 g m w0 dj wr))
     case atStart => exact ⟨0, M, dk, rfl, rfl, by omega, by omega, by omega, by omega, HS, ⟨BG.1.1⟩, ⟨BG.1.2⟩, S1⟩
     case round =>
      clear S1 BG HS HB
      obtain ⟨a, b, dj, rfl, rfl, hb1, hb2, haN, hkq3, HS, HM, HO, S1⟩ := hrel
      have hmod : Aside0 (a % (2 * bs) = 0) := ⟨by rw [← HM2.1]; exact HM.out.ha⟩
      have eab : ((a + bs : Nat) : Int) = (a : Int) + (bs : Int) := by omega
      by_cases hbn : b ≤ N
      ·have hbz : (b : Int) ≤ (N : Int) := by omega
       have PR := HO.out.pre HT.1 hbs hmod.1 (b := b) (by omega) (by omega) hbn
       have SM := Ak (symMerge (a := a) (m := a + bs) (b := b) (N := N) (cap := cap) ht eg HC.1 HS.out hM (by omega) (by omega) hbn PR.1 PR.2.1 PR.2.2 S1.out)
       rw [eab] at SM
       clear PR eab
       go_wp2_with (go_at_call 90; refine SM.1.mono ?_; rintro e w' ⟨rfl, d', k1, k2, k3, k4⟩; have K := Ak (And.intro k1 (And.intro k2 (And.intro k3 k4))); clear k1 k2 k3 k4)
       go_roundg (N - b)
       case measure => omega
       case rel =>
        obtain ⟨k1, k2, k3, k4⟩ := K.1
        obtain rfl : b = a + M := by omega
        exact ⟨a + M, a + M + M, d', rfl, by go_num, by omega, by omega, hbn, Nat.le_refl _, ⟨k1⟩, ⟨HM.out.next (by omega) HN.1 hbn k3 k2⟩, ⟨HO.out.next (by omega) k3⟩, ⟨k4⟩⟩
      ·have hbz : ¬ (b : Int) ≤ (N : Int) := by omega
       by_cases hmn : a + bs < N
       ·have hmz : (a : Int) + (bs : Int) < (N : Int) := by omega
        have PR := HO.out.pre HT.1 hbs hmod.1 (b := N) (by omega) (by omega) (Nat.le_refl _)
        have SM := Ak (symMerge (a := a) (m := a + bs) (b := N) (N := N) (cap := cap) ht eg HC.1 HS.out hM (by omega) (by omega) (Nat.le_refl _) PR.1 PR.2.1 PR.2.2 S1.out)
        rw [eab] at SM
        clear PR eab
        go_wp2_with (go_at_call 90; refine SM.1.mono ?_; rintro e w' ⟨rfl, d', k1, k2, k3, k4⟩; have K := Ak (And.intro k1 (And.intro k2 (And.intro k3 k4))); clear k1 k2 k3 k4)
        go_roundg (N - M)
        case measure => omega
        case rel =>
         obtain ⟨k1, k2, k3, k4⟩ := K.1
         exact ⟨M, d', rfl, by omega, by omega, Nat.le_refl _, ⟨k1⟩, ⟨HM.out.fin (by omega) HN.1 (by omega) k3 k2⟩, ⟨k4⟩⟩
       ·have hmz : ¬ (a : Int) + (bs : Int) < (N : Int) := by omega
        clear eab
        go_wp2
        go_roundg (N - M)
        case measure => omega
        case rel =>
         exact ⟨M, dj, rfl, by omega, by omega, Nat.le_refl _, HS, ⟨by
          have h1 := HM.out
          rw [HM2.1] at h1 ⊢
          exact h1.alone HO.out hbs (by omega)⟩, S1⟩
    ·have hz : ¬ (bs : Int) < (N : Int) := by omega
     go_wp2
     go_end0
     exact ⟨rfl, dk, HS.out, HB.out.whole (by omega), HB.out.perm, S1.out⟩
set_option maxHeartbeats 4000000 in
set_option maxRecDepth 1000000 in
theorem sortStable {enc : α → List Value} {g m : Nat} {w0 w : World} {d : Array α} {N cap fg : Nat} {cb : Array Value} {cf : α → α → Int} {lt : α → α → Prop} (tag : α → Nat) (ht : ∀ u v w, lt u v → lt v w → lt u w) (hT : ∀ u v, tag u < tag v → Told (lto cf) lt u v) (eg : ∀ args w, (callFunc fg args).run Tryz.prog w = .ok (.enter fg args) w) (hC : Cmp enc fg cb cf g w0)
 (hN : d.size = N) (hM : N < 1000000) (hd : ∀ x, x < N → tag (D d x) = x) (H : St enc 44 38 g m w0 d w) :
 Calls Tryz.prog 47 #[.slice (some ⟨g, 0, none⟩) N cap, .func (.func fg) #[] cb] w fun e' w' => e' = .returned (.tuple #[]) ∧
  ∃ d', d'.size = N ∧ Asc lt 0 N d' ∧ PermIn 0 N d d' ∧ St enc 44 38 g m w0 d' w' := by
 have C := Ak (stable (cap := cap) tag ht hT eg hC hN hM hd H)
 clear hT hC hN hd H
 go_enter Tryz.func47, Tryz.ntmps47
 go_wp2_with (go_at_call 75; refine C.1.mono ?_; rintro e w' ⟨rfl, k⟩; have K := Ak k; clear k)
 go_end0
 exact ⟨rfl, K.1⟩
end Go.Proofs.YtiodebjjbgcbhaaGreat.Stb
