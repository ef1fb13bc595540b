import Derived.Shelf.SlicesQ.IndexFunc
import Derived.Test.YtiodebjjbgcbhaaGreatWWords
namespace Go.Proofs.YtiodebjjbgcbhaaGreat.FindQ
open Go.Proofs Go.Shelf Go.RowKit Go.Lib Go.Proofs YtiodebjjbgcbhaaGreatW.PrintWords
def firstOf {α : Type} (p : α → Bool) (l : List α) : Int := match l.findIdx? p with | some i => (i : Int) | none => -1
theorem firstOf_hit {α : Type} (p : α → Bool) (l : List α) (i : Nat) (hi : i < l.length) (h : p l[i] = true) (hb : ∀ j (hj : j < l.length), j < i → p l[j] = false) : firstOf p l = i := by
 have e : l.findIdx? p = some i := by
  rw [List.findIdx?_eq_some_iff_getElem]
  exact ⟨hi, h, fun j hj => by simpa using hb j (by omega) hj⟩
 simp [firstOf, e]
theorem firstOf_miss {α : Type} (p : α → Bool) (l : List α) (hb : ∀ j (hj : j < l.length), p l[j] = false) : firstOf p l = -1 := by
 have e : l.findIdx? p = none := by
  rw [List.findIdx?_eq_none_iff]
  intro x hx
  obtain ⟨j, hj, rfl⟩ := List.mem_iff_getElem.mp hx
  exact hb j hj
 simp [firstOf, e]
theorem firstOf_nonneg {α : Type} (p : α → Bool) (l : List α) : l.any p = decide (0 ≤ firstOf p l) := by
 unfold firstOf
 cases h : l.findIdx? p with
 | none =>
  rw [List.findIdx?_eq_none_iff] at h
  have : l.any p = false := by rw [List.any_eq_false]; intro x hx; simpa using h x hx
  rw [this]; rfl
 | some i =>
  rw [List.findIdx?_eq_some_iff_getElem] at h
  obtain ⟨hi, hp, _⟩ := h
  have : l.any p = true := List.any_eq_true.mpr ⟨_, List.getElem_mem hi, hp⟩
  rw [this]
  simp
variable {P : Program} {ρ : Ren} {α : Type}
set_option maxHeartbeats 2000000 in
theorem index_row (L : SlLaysH0.n6 P ρ) (k : Nat) (aE : ∀ w, (isAgg (ρ.t 23)).run P w = .ok true w) (zE : ∀ w, (Go.sizeOf (ρ.t 23)).run P w = .ok k w) (enc : α → List Value) (hk : ∀ x, (enc x).length = k)
 (p : α → Bool) (g : Nat) (lb : Array Value) (eg : ∀ args w, (callFunc g args).run P w = .ok (.enter g args) w) (A : Option Addr) (c : Nat) (l : List α) (w : World)
 (hp : PredBelow P g lb (fun x => .agg (enc x).toArray) p w) (hR : ReadsRow (fun x c => c = enc x) k w A l.length l) :
 Calls P (ρ.f 6) #[.slice A l.length c, .func (.func g) #[] lb] w fun e w' => e = .returned (.int .i64 (firstOf p l)) ∧ Below w.heap.size w w' := by
 have mixed := L.mixed; have t0 := L.t0; have a0 := L.a0; have z0 := L.z0; have v0 := L.v0; have t3 := L.t3; have a3 := L.a3; have z3 := L.z3; have v3 := L.v3; have t4 := L.t4; have a4 := L.a4; have z4 := L.z4; have v4 := L.v4; have t22 := L.t22; have a22 := L.a22; have z22 := L.z22; have v22 := L.v22; have t25 := L.t25; have a25 := L.a25; have z25 := L.z25; have v25 := L.v25
 obtain ⟨_, hbig, hc⟩ := hR
 generalize hn : l.length = n at hbig hc ⊢
 have HN := Ak hn
 clear hn
 obtain ⟨_, _, FG⟩ := L.f6
 cases n with
 | zero =>
  have hnil : l = [] := List.length_eq_zero_iff.mp HN.1
  subst hnil
  clear hc hp
  go_enter FG, SlBodyH.n6_ntmps ρ
  go_wp2
  go_loopg [5, 8] 0 (fun _ _ s8 wr => s8 = .int .i64 0 ∧ wr = w)
  case atStart => exact ⟨rfl, rfl⟩
  case round =>
   obtain ⟨rfl, rfl⟩ := hrel
   go_wp2
   go_ret
   exact ⟨rfl, Below.refl _ _⟩
 | succ n0 =>
  generalize hn : n0 + 1 = n at hbig hc HN ⊢
  obtain ⟨ad, rfl, hcc⟩ := hc (by omega)
  clear hc
  have hrow : ∀ (W : World), Below w.heap.size w W → ∀ j (hj : j < l.length), Sem.run P (loadCellsFrom (ad.add (j * k)) 0 k #[]) W = .ok (enc l[j]).toArray W := fun W hW j hj =>
   run_loadCellsFrom_list P _ _ (enc l[j]) k (hk _) (fun i v hi => by
    obtain ⟨c, _, rfl, h3⟩ := hcc j _ (List.getElem?_eq_getElem hj)
    have h4 := h3 i v hi
    have e : (ad.add (j * k)).add i = ad.add (j * k + i) := by
     unfold Addr.add
     split <;> rename_i h1
     ·subst h1; simp
     ·split <;> rename_i h2
      ·split <;> rename_i h5
       ·exact absurd h5 (by omega)
       ·simp
      ·split <;> rename_i h5
       ·exact absurd h5 (by omega)
       ·simp [Nat.add_assoc]
    rw [e]
    exact (hW.cell (World.block_lt_of_cell? w _ h4)).trans h4)
  clear hcc
  go_enter FG, SlBodyH.n6_ntmps ρ
  go_wp2
  go_loopg [5, 8] n (fun gg _ s8 wr => ∃ kk : Nat, kk ≤ n ∧ n - kk ≤ gg ∧ s8 = .int .i64 kk ∧ Aside (Below w.heap.size w wr) ∧ Aside (∀ j (hj : j < l.length), j < kk → p l[j] = false))
  case atStart => exact ⟨0, Nat.zero_le _, by omega, rfl, Below.refl _ w, fun j _ hj => absurd hj (Nat.not_lt_zero _)⟩
  case round =>
   obtain ⟨kk, hkk, hg, rfl, BW, A⟩ := hrel
   by_cases hlt : kk < n
   ·have hltz : (kk : Int) < (n : Int) := by omega
    have hkl : kk < l.length := by have := HN.1; omega
    have l2 := hrow wr BW.out kk hkl
    have hcall := hp wr l[kk] BW.out
    clear hrow hp
    generalize hy : l[kk] = y at l2 hcall
    have B : Aside (l[kk] = y) := hy
    clear hy
    cases hq : p y with
    | true =>
     rw [hq] at hcall
     go_wp2_with (go_at_fn g; refine hcall.mono ?_; rintro e w' ⟨rfl, hb'⟩)
     go_ret
     refine ⟨?_, hb'⟩
     rw [firstOf_hit p l kk hkl (by rw [B.out]; exact hq) A.out]
     rfl
    | false =>
     rw [hq] at hcall
     go_wp2_with (go_at_fn g; refine hcall.mono ?_; rintro e w' ⟨rfl, hb'⟩)
     go_roundg (n - (kk + 1))
     case measure => omega
     case rel =>
      refine ⟨kk + 1, by omega, by omega, by go_num, hb', (show Aside _ from fun j hj hj2 => ?_)⟩
      by_cases e : j = kk
      ·subst e
       rw [B.out]; exact hq
      ·exact A.out j hj (by omega)
   ·have hltz : ¬ (kk : Int) < (n : Int) := by omega
    have : kk = n := by omega
    subst this
    go_wp2
    go_ret
    refine ⟨?_, BW.out⟩
    rw [firstOf_miss p l (fun j hj => A.out j hj (by have := HN.1; omega))]
    rfl
end Go.Proofs.YtiodebjjbgcbhaaGreat.FindQ
