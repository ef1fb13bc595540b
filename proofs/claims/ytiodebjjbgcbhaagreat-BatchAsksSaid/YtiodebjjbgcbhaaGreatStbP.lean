import Derived.Sort.LotA
namespace Go.Proofs.YtiodebjjbgcbhaaGreat.Stb
open Go.Sort
set_option linter.unusedVariables false
variable {α : Type} [Inhabited α]
def D (d : Array α) (x : Nat) : α := d[x]!
def R (a m b : Nat) (f : Nat → α) (x : Nat) : α := if a ≤ x ∧ x < a + (b - m) then f (x + (m - a)) else if a + (b - m) ≤ x ∧ x < b then f (x - (b - m)) else f x
def S (a b n : Nat) (f : Nat → α) (x : Nat) : α := if a ≤ x ∧ x < a + n then f (x + (b - a)) else if b ≤ x ∧ x < b + n then f (x - (b - a)) else f x
theorem D_swp (d : Array α) {i j : Nat} (hi : i < d.size) (hj : j < d.size) (x : Nat) : D (swp d i j) x = if x = j then D d i else if x = i then D d j else D d x := swp_get d hi hj x
omit [Inhabited α] in
theorem S_zero (a b : Nat) (f : Nat → α) (x : Nat) : S a b 0 f x = f x := by
 unfold S; rw [if_neg (by omega), if_neg (by omega)]
theorem S_step {a b n i : Nat} {f : Nat → α} {d : Array α} (h : ∀ x, D d x = S a b i f x) (hi : i < n) (hab : a + n ≤ b) (hb : b + n ≤ d.size) (x : Nat) : D (swp d (a + i) (b + i)) x = S a b (i + 1) f x := by
 have k : ∀ u v : Nat, u = v → f u = f v := fun u v e => by rw [e]
 rw [D_swp d (by omega) (by omega), h, h, h]
 unfold S
 by_cases c1 : x = b + i
 ·rw [if_pos c1, if_neg (by omega), if_neg (by omega), if_neg (by omega), if_pos (by omega)]
  exact k _ _ (by omega)
 ·rw [if_neg c1]
  by_cases c2 : x = a + i
  ·rw [if_pos c2, if_neg (by omega), if_neg (by omega), if_pos (by omega)]
   exact k _ _ (by omega)
  ·rw [if_neg c2]
   by_cases c3 : a ≤ x ∧ x < a + i
   ·rw [if_pos c3, if_pos (by omega)]
   ·rw [if_neg c3]
    by_cases c4 : b ≤ x ∧ x < b + i
    ·rw [if_pos c4, if_neg (by omega), if_pos (by omega)]
    ·rw [if_neg c4, if_neg (by omega), if_neg (by omega)]
omit [Inhabited α] in
theorem R_eq_S {a m b : Nat} {f : Nat → α} (h1 : m - a = b - m) (h2 : a ≤ m) (h3 : m ≤ b) (x : Nat) : R a m b f x = S a m (m - a) f x := by
 unfold R S
 by_cases c1 : a ≤ x ∧ x < a + (m - a)
 ·rw [if_pos (by omega), if_pos c1]
 ·rw [if_neg (by omega), if_neg c1]
  by_cases c2 : m ≤ x ∧ x < m + (m - a)
  ·rw [if_pos (by omega), if_pos c2, h1]
  ·rw [if_neg (by omega), if_neg c2]
omit [Inhabited α] in
theorem R_big {m i j : Nat} {f g : Nat → α} (hj : j < i) (hi : i ≤ m) (h0 : 0 < j) (h : ∀ x, g x = S (m - i) m j f x) (x : Nat) : R (m - (i - j)) m (m + j) g x = R (m - i) m (m + j) f x := by
 have k : ∀ u v : Nat, u = v → f u = f v := fun u v e => by rw [e]
 unfold R
 simp only [h]
 unfold S
 by_cases c1 : m - i ≤ x ∧ x < m - i + (m + j - m)
 ·rw [if_neg (by omega), if_neg (by omega), if_pos c1, if_pos (by omega)]
 ·rw [if_neg c1]
  by_cases c2 : m - (i - j) ≤ x ∧ x < m - (i - j) + (m + j - m)
  ·rw [if_pos c2, if_neg (by omega), if_pos (by omega), if_pos (by omega)]
   exact k _ _ (by omega)
  ·rw [if_neg c2]
   by_cases c3 : m - (i - j) + (m + j - m) ≤ x ∧ x < m + j
   ·rw [if_pos c3, if_neg (show ¬ (m - i ≤ x - (m + j - m) ∧ x - (m + j - m) < m - i + j) by omega), if_neg (show ¬ (m ≤ x - (m + j - m) ∧ x - (m + j - m) < m + j) by omega), if_pos (show m - i + (m + j - m) ≤ x ∧ x < m + j by omega)]
   ·rw [if_neg c3, if_neg (show ¬ (m - i ≤ x ∧ x < m - i + j) by omega), if_neg (show ¬ (m ≤ x ∧ x < m + j) by omega), if_neg (show ¬ (m - i + (m + j - m) ≤ x ∧ x < m + j) by omega)]
omit [Inhabited α] in
theorem R_small {m i j : Nat} {f g : Nat → α} (hj : i < j) (hi : i ≤ m) (h0 : 0 < i) (h : ∀ x, g x = S (m - i) (m + j - i) i f x) (x : Nat) : R (m - i) m (m + (j - i)) g x = R (m - i) m (m + j) f x := by
 have k : ∀ u v : Nat, u = v → f u = f v := fun u v e => by rw [e]
 unfold R
 simp only [h]
 unfold S
 by_cases c1 : m - i ≤ x ∧ x < m - i + (m + (j - i) - m)
 ·rw [if_pos c1, if_pos (show m - i ≤ x ∧ x < m - i + (m + j - m) by omega)]
  by_cases c2 : m + j - i ≤ x + (m - (m - i)) ∧ x + (m - (m - i)) < m + j - i + i
  ·omega
  ·rw [if_neg (by omega), if_neg c2]
 ·rw [if_neg c1]
  by_cases c3 : m - i + (m + (j - i) - m) ≤ x ∧ x < m + (j - i)
  ·rw [if_pos c3]
   by_cases c5 : m - i ≤ x - (m + (j - i) - m) ∧ x - (m + (j - i) - m) < m - i + i
   ·rw [if_pos c5]
    by_cases c4 : m - i ≤ x ∧ x < m - i + (m + j - m)
    ·rw [if_pos c4]; exact k _ _ (by omega)
    ·omega
   ·omega
  ·rw [if_neg c3]
   by_cases c4 : m - i ≤ x ∧ x < m - i + (m + j - m)
   ·omega
   ·rw [if_neg c4]
    by_cases c6 : m - i + (m + j - m) ≤ x ∧ x < m + j
    ·rw [if_pos c6, if_neg (by omega), if_pos (by omega)]
     exact k _ _ (by omega)
    ·rw [if_neg c6, if_neg (by omega), if_neg (by omega)]
omit [Inhabited α] in
theorem R_none_l {a b : Nat} {f : Nat → α} (x : Nat) : R a a b f x = f x := by
 unfold R
 by_cases c : a ≤ x ∧ x < a + (b - a)
 ·rw [if_pos c]; congr 1; omega
 ·rw [if_neg c, if_neg (by omega)]
omit [Inhabited α] in
theorem R_none_r {a m : Nat} {f : Nat → α} (x : Nat) : R a m m f x = f x := by
 unfold R
 by_cases c : a ≤ x ∧ x < a + (m - m)
 ·omega
 ·rw [if_neg c]
  by_cases c2 : a + (m - m) ≤ x ∧ x < m
  ·rw [if_pos c2]; congr 1; omega
  ·rw [if_neg c2]
theorem R_down {m k : Nat} {f : Nat → α} {d : Array α} (h : ∀ x, D d x = R (k + 1) m (m + 1) f x) (hk : k < m) (hm : m < d.size) (x : Nat) : D (swp d (k + 1) k) x = R k m (m + 1) f x := by
 have q : ∀ u v : Nat, u = v → f u = f v := fun u v e => by rw [e]
 rw [D_swp d (by omega) (by omega), h, h, h]
 unfold R
 by_cases c1 : x = k
 ·rw [if_pos c1, if_pos (by omega), if_pos (by omega)]; exact q _ _ (by omega)
 ·rw [if_neg c1]
  by_cases c2 : x = k + 1
  ·rw [if_pos c2, if_neg (by omega), if_neg (by omega), if_neg (by omega), if_pos (by omega)]; exact q _ _ (by omega)
  ·rw [if_neg c2]
   by_cases c3 : k + 1 + (m + 1 - m) ≤ x ∧ x < m + 1
   ·rw [if_neg (by omega), if_pos c3, if_neg (by omega), if_pos (by omega)]
   ·rw [if_neg (by omega), if_neg c3, if_neg (by omega), if_neg (by omega)]
theorem R_up {a k : Nat} {f : Nat → α} {d : Array α} (h : ∀ x, D d x = R a (a + 1) (k + 1) f x) (hk : a ≤ k) (hm : k + 1 < d.size) (x : Nat) : D (swp d k (k + 1)) x = R a (a + 1) (k + 2) f x := by
 have q : ∀ u v : Nat, u = v → f u = f v := fun u v e => by rw [e]
 rw [D_swp d (by omega) (by omega), h, h, h]
 unfold R
 by_cases c1 : x = k + 1
 ·rw [if_pos c1, if_neg (by omega), if_pos (by omega), if_neg (by omega), if_pos (by omega)]; exact q _ _ (by omega)
 ·rw [if_neg c1]
  by_cases c2 : x = k
  ·rw [if_pos c2, if_neg (by omega), if_neg (by omega), if_pos (by omega)]; exact q _ _ (by omega)
  ·rw [if_neg c2]
   by_cases c3 : a ≤ x ∧ x < a + (k + 1 - (a + 1))
   ·rw [if_pos c3, if_pos (by omega)]
   ·rw [if_neg c3, if_neg (by omega), if_neg (by omega), if_neg (by omega)]
section
variable (ltc : α → α → Bool) (lt : α → α → Prop)
def Told (u v : α) : Prop := (ltc v u = true → lt v u) ∧ (ltc v u = false → lt u v)
def Asc (a b : Nat) (d : Array α) : Prop := ∀ x y, a ≤ x → x < y → y < b → lt (D d x) (D d y)
def Cross (a m b : Nat) (d : Array α) : Prop := ∀ x y, a ≤ x → x < m → m ≤ y → y < b → Told ltc lt (D d x) (D d y)
variable {ltc lt} (ht : ∀ u v w, lt u v → lt v w → lt u w)
include ht
theorem asc_down {a i m : Nat} {d d' : Array α} (h1 : Asc lt a m d) (hR : ∀ x, D d' x = R i m (m + 1) (D d) x) (hai : a ≤ i) (him : i ≤ m) (hl : a < i → lt (D d (i - 1)) (D d m)) (hr : i < m → lt (D d m) (D d i)) : Asc lt a (m + 1) d' := by
 intro x y hx hxy hy
 rw [hR, hR]
 unfold R
 have e : ∀ {u v : Nat}, u = v → D d u = D d v := fun e => by rw [e]
 have left : ∀ u, a ≤ u → u < i → lt (D d u) (D d m) := fun u h2 h3 => by
  by_cases c : u = i - 1
  ·rw [c]; exact hl (by omega)
  ·exact ht _ _ _ (h1 u (i - 1) h2 (by omega) (by omega)) (hl (by omega))
 have right : ∀ u, i ≤ u → u < m → lt (D d m) (D d u) := fun u h2 h3 => by
  by_cases c : u = i
  ·rw [c]; exact hr (by omega)
  ·exact ht _ _ _ (hr (by omega)) (h1 i u hai (by omega) (by omega))
 by_cases c1 : x < i
 ·rw [if_neg (by omega), if_neg (by omega)]
  by_cases c2 : y < i
  ·rw [if_neg (by omega), if_neg (by omega)]; exact h1 x y hx hxy (by omega)
  ·by_cases c3 : y = i
   ·rw [if_pos (by omega), e (show y + (m - i) = m by omega)]; exact left x hx c1
   ·rw [if_neg (by omega), if_pos (by omega)]; exact h1 x _ hx (by omega) (by omega)
 ·by_cases c3 : x = i
  ·rw [if_pos (by omega), if_neg (by omega), if_pos (by omega), e (show x + (m - i) = m by omega)]; exact right _ (by omega) (by omega)
  ·rw [if_neg (by omega), if_pos (by omega), if_neg (by omega), if_pos (by omega)]; exact h1 _ _ (by omega) (by omega) (by omega)
theorem asc_up {a i b : Nat} {d d' : Array α} (h1 : Asc lt (a + 1) b d) (hR : ∀ x, D d' x = R a (a + 1) i (D d) x) (hai : a < i) (hib : i ≤ b) (hl : a + 1 < i → lt (D d (i - 1)) (D d a)) (hr : i < b → lt (D d a) (D d i)) : Asc lt a b d' := by
 intro x y hx hxy hy
 rw [hR, hR]
 unfold R
 have e : ∀ {u v : Nat}, u = v → D d u = D d v := fun e => by rw [e]
 have left : ∀ u, a < u → u < i → lt (D d u) (D d a) := fun u h2 h3 => by
  by_cases c : u = i - 1
  ·rw [c]; exact hl (by omega)
  ·exact ht _ _ _ (h1 u (i - 1) h2 (by omega) (by omega)) (hl (by omega))
 have right : ∀ u, i ≤ u → u < b → lt (D d a) (D d u) := fun u h2 h3 => by
  by_cases c : u = i
  ·rw [c]; exact hr (by omega)
  ·exact ht _ _ _ (hr (by omega)) (h1 i u (by omega) (by omega) (by omega))
 by_cases c1 : x + 1 < i
 ·rw [if_pos (by omega)]
  by_cases c2 : y + 1 < i
  ·rw [if_pos (by omega)]; exact h1 _ _ (by omega) (by omega) (by omega)
  ·by_cases c3 : y + 1 = i
   ·rw [if_neg (by omega), if_pos (by omega), e (show y - (i - (a + 1)) = a by omega)]; exact left _ (by omega) (by omega)
   ·rw [if_neg (by omega), if_neg (by omega)]; exact h1 _ _ (by omega) (by omega) (by omega)
 ·by_cases c3 : x + 1 = i
  ·rw [if_neg (by omega), if_pos (by omega), if_neg (by omega), if_neg (by omega), e (show x - (i - (a + 1)) = a by omega)]; exact right _ (by omega) (by omega)
  ·rw [if_neg (by omega), if_neg (by omega), if_neg (by omega), if_neg (by omega)]; exact h1 _ _ (by omega) (by omega) (by omega)
theorem cut_cross {a m b mid s q r0 s0 : Nat} {d d1 : Array α} (hmid : mid = (a + b) / 2) (ham : a < m) (hmb : m < b) (hA : Asc lt a m d) (hB : Asc lt m b d)
 (hs0 : s0 ≤ s) (hsr : s ≤ r0) (hq : q = mid + m - s) (h0 : if mid < m then s0 = mid + m - b ∧ r0 = mid else s0 = a ∧ r0 = m)
 (hl : s0 < s → lt (D d (s - 1)) (D d (mid + m - s))) (hr : s < r0 → lt (D d (mid + m - 1 - s)) (D d s)) (hR : ∀ x, D d1 x = R s m q (D d) x) (x y : Nat) (hx : a ≤ x) (hxm : x < mid) (hy : mid ≤ y) (hyb : y < b) : lt (D d1 x) (D d1 y) := by
 have hsm : s ≤ m := by split at h0 <;> omega
 have hsmid : s ≤ mid := by split at h0 <;> omega
 have has : a ≤ s := by split at h0 <;> omega
 have hqb : q ≤ b := by split at h0 <;> omega
 have hmq : m ≤ q := by split at h0 <;> omega
 have e : ∀ {u v : Nat}, u = v → D d u = D d v := fun e => by rw [e]
 have lr : ∀ u v, a ≤ u → u < s → q ≤ v → v < b → lt (D d u) (D d v) := fun u v h1 h2 h3 h4 => by
  have hs : s0 < s := by split at h0 <;> omega
  have k := hl hs
  have k1 : lt (D d u) (D d (mid + m - s)) := by
   by_cases c : u = s - 1
   ·rw [c]; exact k
   ·exact ht _ _ _ (hA u (s - 1) h1 (by omega) (by omega)) k
  by_cases c : v = mid + m - s
  ·rw [c]; exact k1
  ·exact ht _ _ _ k1 (hB _ v (by omega) (by omega) h4)
 have rl : ∀ u v, m ≤ u → u < q → s ≤ v → v < m → lt (D d u) (D d v) := fun u v h1 h2 h3 h4 => by
  have hs : s < r0 := by split at h0 <;> omega
  have k := hr hs
  have k1 : lt (D d u) (D d s) := by
   by_cases c : u = mid + m - 1 - s
   ·rw [c]; exact k
   ·exact ht _ _ _ (hB u _ h1 (by omega) (by omega)) k
  by_cases c : v = s
  ·rw [c]; exact k1
  ·exact ht _ _ _ k1 (hA s v has (by omega) h4)
 rw [hR, hR]
 unfold R
 by_cases c1 : x < s
 ·rw [if_neg (by omega), if_neg (by omega), if_neg (by omega)]
  by_cases c2 : y < q
  ·rw [if_pos (by omega)]; exact hA x _ hx (by omega) (by omega)
  ·rw [if_neg (by omega)]; exact lr x y hx c1 (by omega) hyb
 ·rw [if_pos (by omega), if_neg (by omega)]
  by_cases c2 : y < q
  ·rw [if_pos (by omega)]; exact rl _ _ (by omega) (by omega) (by omega) (by omega)
  ·rw [if_neg (by omega)]; exact hB _ y (by omega) (by omega) hyb
omit ht in
theorem cut_left {a m b s q : Nat} {d d1 : Array α} (hA : Asc lt a m d) (hB : Asc lt m b d) (hC : Cross ltc lt a m b d) (hR : ∀ x, D d1 x = R s m q (D d) x) (has : a ≤ s) (hsm : s ≤ m) (hmq : m ≤ q) (hqb : q ≤ b) :
 Asc lt a s d1 ∧ Asc lt s (s + (q - m)) d1 ∧ Cross ltc lt a s (s + (q - m)) d1 := by
 refine ⟨fun x y hx hxy hy => ?_, fun x y hx hxy hy => ?_, fun x y hx hxs hy hyb => ?_⟩ <;> rw [hR, hR] <;> unfold R
 ·rw [if_neg (by omega), if_neg (by omega), if_neg (by omega), if_neg (by omega)]; exact hA x y hx hxy (by omega)
 ·rw [if_pos (by omega), if_pos (by omega)]; exact hB _ _ (by omega) (by omega) (by omega)
 ·rw [if_neg (by omega), if_neg (by omega), if_pos (by omega)]; exact hC _ _ hx (by omega) (by omega) (by omega)
omit ht in
theorem cut_right {a m b s q : Nat} {d d1 : Array α} (hA : Asc lt a m d) (hB : Asc lt m b d) (hC : Cross ltc lt a m b d) (hR : ∀ x, D d1 x = R s m q (D d) x) (has : a ≤ s) (hsm : s ≤ m) (hmq : m ≤ q) (hqb : q ≤ b) :
 Asc lt (s + (q - m)) q d1 ∧ Asc lt q b d1 ∧ Cross ltc lt (s + (q - m)) q b d1 := by
 refine ⟨fun x y hx hxy hy => ?_, fun x y hx hxy hy => ?_, fun x y hx hxs hy hyb => ?_⟩ <;> rw [hR, hR] <;> unfold R
 ·rw [if_neg (by omega), if_pos (by omega), if_neg (by omega), if_pos (by omega)]; exact hA _ _ (by omega) (by omega) (by omega)
 ·rw [if_neg (by omega), if_neg (by omega), if_neg (by omega), if_neg (by omega)]; exact hB _ _ (by omega) (by omega) (by omega)
 ·rw [if_neg (by omega), if_pos (by omega), if_neg (by omega), if_neg (by omega)]; exact hC _ _ (by omega) (by omega) (by omega) (by omega)
omit ht in
theorem asc_join {a mid b : Nat} {d1 d2 d3 : Array α} (hb : b ≤ d1.size) (ham : a ≤ mid) (hmb : mid ≤ b) (hX : ∀ x y, a ≤ x → x < mid → mid ≤ y → y < b → lt (D d1 x) (D d1 y)) (p2 : PermIn a mid d1 d2) (p3 : PermIn mid b d2 d3) (h2 : Asc lt a mid d2) (h3 : Asc lt mid b d3) : Asc lt a b d3 := by
 have s2 : d2.size = d1.size := p2.1
 have same : ∀ x, x < mid → D d3 x = D d2 x := fun x h => p3.2.1 x (.inl h)
 have k1 : ∀ x, a ≤ x → x < mid → ∀ y, mid ≤ y → y < b → lt (D d2 x) (D d1 y) := fun x h1 h2 y h3 h4 =>
  permIn_all d1 d2 a mid (fun u => lt u (D d1 y)) (by omega) p2 (fun i hi1 hi2 => hX i y hi1 hi2 h3 h4) x h1 h2
 have k2 : ∀ x, a ≤ x → x < mid → ∀ y, mid ≤ y → y < b → lt (D d2 x) (D d3 y) := fun x h1 h2 y h3 h4 =>
  permIn_all d2 d3 mid b (fun u => lt (D d2 x) u) (by omega) p3 (fun i hi1 hi2 => by
   rw [show d2[i]! = d1[i]! from p2.2.1 i (.inr hi1)]; exact k1 x h1 h2 i hi1 hi2) y h3 h4
 intro x y hx hxy hy
 by_cases c1 : y < mid
 ·rw [same x (by omega), same y c1]; exact h2 x y hx hxy c1
 ·by_cases c2 : x < mid
  ·rw [same x c2]; exact k2 x hx c2 y (by omega) hy
  ·exact h3 x y (by omega) hxy hy
end
structure Cut (ltc : α → α → Bool) (lt : α → α → Prop) (a m b mid s q : Nat) (d d1 : Array α) : Prop where
 hA : Asc lt a m d
 hB : Asc lt m b d
 hX : Cross ltc lt a m b d
 hR : ∀ x, D d1 x = R s m q (D d) x
 hP : PermIn a b d d1
 hb : b ≤ d.size
 has : a ≤ s
 hsm : s ≤ m
 hsd : s ≤ mid
 hmq : m ≤ q
 hqb : q ≤ b
 he : s + (q - m) = mid
 hmd : mid ≤ q
 hab : mid ≤ b
 hC : ∀ x y, a ≤ x → x < mid → mid ≤ y → y < b → lt (D d1 x) (D d1 y)
section
variable {ltc : α → α → Bool} {lt : α → α → Prop} {a m b mid s q : Nat} {d d1 d2 d3 : Array α}
theorem Cut.left (h : Cut ltc lt a m b mid s q d d1) : Asc lt a s d1 ∧ Asc lt s mid d1 ∧ Cross ltc lt a s mid d1 := by
 have := cut_left h.hA h.hB h.hX h.hR h.has h.hsm h.hmq h.hqb
 rwa [h.he] at this
theorem asc_same (h : Asc lt mid b d1) (p : PermIn a mid d1 d2) : Asc lt mid b d2 := fun x y h1 h2 h3 => by
 rw [show D d2 x = D d1 x from p.2.1 x (.inr h1), show D d2 y = D d1 y from p.2.1 y (.inr (by omega))]; exact h x y h1 h2 h3
theorem Cut.right (h : Cut ltc lt a m b mid s q d d1) (p : PermIn a mid d1 d2) : Asc lt mid q d2 ∧ Asc lt q b d2 ∧ Cross ltc lt mid q b d2 := by
 have := cut_right h.hA h.hB h.hX h.hR h.has h.hsm h.hmq h.hqb
 rw [h.he] at this
 have hq := h.hmd
 refine ⟨asc_same this.1 p, fun x y h1 h2 h3 => ?_, fun x y h1 h2 h3 h4 => ?_⟩
 ·rw [show D d2 x = D d1 x from p.2.1 x (.inr (by omega)), show D d2 y = D d1 y from p.2.1 y (.inr (by omega))]; exact this.2.1 x y h1 h2 h3
 ·rw [show D d2 x = D d1 x from p.2.1 x (.inr (by omega)), show D d2 y = D d1 y from p.2.1 y (.inr (by omega))]; exact this.2.2 x y h1 h2 h3 h4
theorem Cut.left_none (h : Cut ltc lt a m b mid s q d d1) (hn : ¬ (a < s ∧ s < mid)) : Asc lt a mid d1 := by
 have k := h.left
 have h1 := h.has; have h2 := h.hsd
 by_cases c : a = s
 ·rw [c]; exact k.2.1
 ·have : s = mid := by omega
  rw [← this]; exact k.1
theorem Cut.right_none (h : Cut ltc lt a m b mid s q d d1) (p : PermIn a mid d1 d2) (hn : ¬ (mid < q ∧ q < b)) : Asc lt mid b d2 := by
 have k := h.right p
 have h1 := h.hmd; have h2 := h.hqb
 by_cases c : mid = q
 ·have e := k.2.1; rw [← c] at e; exact e
 ·have : q = b := by omega
  rw [← this]; exact k.1
theorem Cut.end (h : Cut ltc lt a m b mid s q d d1) (p2 : PermIn a mid d1 d2) (p3 : PermIn mid b d2 d3) (h2 : Asc lt a mid d2) (h3 : Asc lt mid b d3) : Asc lt a b d3 ∧ PermIn a b d d3 := by
 have s1 : d1.size = d.size := h.hP.1
 have s2 : d2.size = d1.size := p2.1
 have hb := h.hb; have hs := h.has; have hd := h.hsd
 exact ⟨asc_join (by omega) (by omega) h.hab h.hC p2 p3 h2 h3, permIn_trans _ _ _ _ _ h.hP (permIn_trans _ _ _ _ _ (permIn_mono _ _ _ _ _ _ (Nat.le_refl _) h.hab (by omega) p2) (permIn_mono _ _ _ _ _ _ (by omega) (Nat.le_refl _) (by omega) p3))⟩
end
end Go.Proofs.YtiodebjjbgcbhaaGreat.Stb
