import Derived.OpenShut
import Derived.Deep.Slices
import Derived.Test.YtiodebjjbgcbhaaGreatPurBatC
namespace Go.Proofs.YtiodebjjbgcbhaaGreat.OpenI
open Go.RowKit Go.Proofs YtiodebjjbgcbhaaGreatW.PrintWords YtiodebjjbgcbhaaGreat QLef Inp
open Go.ChangeShapes Go.WideShapes Go.Deep
variable {H : Type} {enc : TypeId × Value → H} {w : World} {base : Nat} {spare : Nat → Bool} {held : Bool}
def In64 (n : Int) : Prop := -9223372036854775808 ≤ n ∧ n ≤ 9223372036854775807
theorem c32 : Tryz.prog.cellsOf 30 = 32 := by kernel_rfl
theorem c34 : Tryz.prog.cellsOf 32 = 33 := by kernel_rfl
theorem c36 : Tryz.prog.cellsOf 34 = 3 := by kernel_rfl
theorem c66 : Tryz.prog.cellsOf 40 = 6 := by kernel_rfl
theorem c68 : Tryz.prog.cellsOf 42 = 44 := by kernel_rfl
theorem c5 : Tryz.prog.cellsOf 5 = 1 := by kernel_rfl
theorem c3 : Tryz.prog.cellsOf 3 = 1 := by kernel_rfl
theorem c9 : Tryz.prog.cellsOf 9 = 1 := by kernel_rfl
theorem dt (cs : List Value) (a b i : Nat) (h : i < b) : ((cs.drop a).take b)[i]? = cs[a + i]? := by
 rw [List.getElem?_take_of_lt h, List.getElem?_drop]
theorem int1 {fuel : Nat} {cs : List Value} {x : DataW H × List MemPlace} (h : DataW.trod enc Tryz.prog w base spare held fuel 3 cs = some x) : ∃ n, cs[0]? = some (.int .i64 n) ∧ In64 n := by
 obtain ⟨n, e, _, wf⟩ := DataW.trod_int Tryz.underlying3 h
 have wf1 : IntKind.i64.min ≤ n ∧ n ≤ IntKind.i64.max := by simpa [Lit.wf] using wf
 exact ⟨n, by rw [e]; rfl, wf1⟩
theorem str1 {fuel : Nat} {cs : List Value} {x : DataW H × List MemPlace} (h : DataW.trod enc Tryz.prog w base spare held fuel 9 cs = some x) : ∃ s : ByteArray, cs[0]? = some (.string s) ∧ s.size ≤ maxLen := by
 obtain ⟨s, e, _, hs⟩ := DataW.trod_string Tryz.underlying9 h
 exact ⟨s, by rw [e]; rfl, hs⟩
theorem outpoint {fuel : Nat} {cs : List Value} {x : DataW H × List MemPlace} (h : DataW.trod enc Tryz.prog w base spare held fuel 32 cs = some x) : (∀ i, i < 32 → ∃ k, cs[i]? = some (.int .u8 k) ∧ 0 ≤ k ∧ k ≤ 255) ∧ ∃ n, cs[32]? = some (.int .i64 n) ∧ In64 n := by
 obtain ⟨xs, n, _, _, hl, hlen, hf⟩ := DataW.trod_struct Tryz.underlying32 h
 match xs, hlen with
 | [y0, y1], _ =>
  have h0 : DataW.trod enc Tryz.prog w base spare held n 30 ((cs.drop 0).take (Tryz.prog.cellsOf 30)) = some y0 := hf 0 _ rfl
  have h1 : DataW.trod enc Tryz.prog w base spare held n 3 ((cs.drop 32).take (Tryz.prog.cellsOf 3)) = some y1 := hf 1 _ rfl
  obtain ⟨xs, m, _, _, _, hx, he⟩ := DataW.trod_array Tryz.underlying30 h0
  obtain ⟨n1, e1, w1⟩ := int1 h1
  refine ⟨fun i hi => ?_, n1, ?_, w1⟩
  ·have h2 := he i hi
   rw [c5, Nat.mul_one, List.getElem?_eq_getElem (by omega)] at h2
   obtain ⟨k, e2, _, wf⟩ := DataW.trod_int Tryz.underlying5 h2
   have wf1 : IntKind.u8.min ≤ k ∧ k ≤ IntKind.u8.max := by simpa [Lit.wf] using wf
   have wf2 : 0 ≤ k ∧ k ≤ 255 := wf1
   refine ⟨k, ?_, wf2⟩
   have h3 := congrArg (fun l : List Value => l[0]?) e2
   rw [dt _ _ _ _ (by omega), c32, List.drop_zero, List.getElem?_take_of_lt (by omega)] at h3
   exact h3
  ·rw [c3, dt _ _ _ _ (by omega)] at e1
   exact e1
theorem input {fuel : Nat} {cs : List Value} {x : DataW H × List MemPlace} (h : DataW.trod enc Tryz.prog w base spare held fuel 42 cs = some x) : cs.length = 44 ∧ ∃ y : S42, cs = J68.enc y ∧ ((I90.bs (to90 y)).all (fun n => decide (0 ≤ n) && decide (n ≤ 255)) = true ∧ y.f2.f0.f2.size ≤ maxLen) ∧ In64 y.f0.f1 ∧ In64 y.f1 ∧ In64 y.f2.f0.f0 ∧ In64 y.f2.f0.f1 ∧ In64 y.f2.f1 ∧ In64 y.f2.f2 ∧ In64 y.f2.f3 ∧ In64 y.f3 ∧ In64 y.f4 ∧ In64 y.f5 ∧ In64 y.f6 := by
 obtain ⟨xs, n, _, _, hl, hlen, hf⟩ := DataW.trod_struct Tryz.underlying42 h
 rw [c68] at hl
 refine ⟨hl, ?_⟩
 match xs, hlen with
 | [y0, y1, y2, y3, y4, y5, y6], _ =>
  have h0 : DataW.trod enc Tryz.prog w base spare held n 32 ((cs.drop 0).take (Tryz.prog.cellsOf 32)) = some y0 := hf 0 _ rfl
  have h1 : DataW.trod enc Tryz.prog w base spare held n 3 ((cs.drop 33).take (Tryz.prog.cellsOf 3)) = some y1 := hf 1 _ rfl
  have h2 : DataW.trod enc Tryz.prog w base spare held n 40 ((cs.drop 34).take (Tryz.prog.cellsOf 40)) = some y2 := hf 2 _ rfl
  have h3 : DataW.trod enc Tryz.prog w base spare held n 3 ((cs.drop 40).take (Tryz.prog.cellsOf 3)) = some y3 := hf 3 _ rfl
  have h4 : DataW.trod enc Tryz.prog w base spare held n 3 ((cs.drop 41).take (Tryz.prog.cellsOf 3)) = some y4 := hf 4 _ rfl
  have h5 : DataW.trod enc Tryz.prog w base spare held n 3 ((cs.drop 42).take (Tryz.prog.cellsOf 3)) = some y5 := hf 5 _ rfl
  have h6 : DataW.trod enc Tryz.prog w base spare held n 3 ((cs.drop 43).take (Tryz.prog.cellsOf 3)) = some y6 := hf 6 _ rfl
  obtain ⟨hb, n32, e32, w32⟩ := outpoint h0
  obtain ⟨n33, e33, w33⟩ := int1 h1
  obtain ⟨n40, e40, w40⟩ := int1 h3
  obtain ⟨n41, e41, w41⟩ := int1 h4
  obtain ⟨n42, e42, w42⟩ := int1 h5
  obtain ⟨n43, e43, w43⟩ := int1 h6
  obtain ⟨us, m, _, _, _, hlen2, hg⟩ := DataW.trod_struct Tryz.underlying40 h2
  match us, hlen2 with
  | [u0, u1, u2, u3], _ =>
   have g0 : DataW.trod enc Tryz.prog w base spare held m 34 ((((cs.drop 34).take (Tryz.prog.cellsOf 40)).drop 0).take (Tryz.prog.cellsOf 34)) = some u0 := hg 0 _ rfl
   have g1 : DataW.trod enc Tryz.prog w base spare held m 3 ((((cs.drop 34).take (Tryz.prog.cellsOf 40)).drop 3).take (Tryz.prog.cellsOf 3)) = some u1 := hg 1 _ rfl
   have g2 : DataW.trod enc Tryz.prog w base spare held m 3 ((((cs.drop 34).take (Tryz.prog.cellsOf 40)).drop 4).take (Tryz.prog.cellsOf 3)) = some u2 := hg 2 _ rfl
   have g3 : DataW.trod enc Tryz.prog w base spare held m 3 ((((cs.drop 34).take (Tryz.prog.cellsOf 40)).drop 5).take (Tryz.prog.cellsOf 3)) = some u3 := hg 3 _ rfl
   obtain ⟨n37, e37, w37⟩ := int1 g1
   obtain ⟨n38, e38, w38⟩ := int1 g2
   obtain ⟨n39, e39, w39⟩ := int1 g3
   obtain ⟨vs, p, _, _, _, hlen3, hk⟩ := DataW.trod_struct Tryz.underlying34 g0
   match vs, hlen3 with
   | [v0, v1, v2], _ =>
    have k0 : DataW.trod enc Tryz.prog w base spare held p 3 ((((((cs.drop 34).take (Tryz.prog.cellsOf 40)).drop 0).take (Tryz.prog.cellsOf 34)).drop 0).take (Tryz.prog.cellsOf 3)) = some v0 := hk 0 _ rfl
    have k1 : DataW.trod enc Tryz.prog w base spare held p 3 ((((((cs.drop 34).take (Tryz.prog.cellsOf 40)).drop 0).take (Tryz.prog.cellsOf 34)).drop 1).take (Tryz.prog.cellsOf 3)) = some v1 := hk 1 _ rfl
    have k2 : DataW.trod enc Tryz.prog w base spare held p 9 ((((((cs.drop 34).take (Tryz.prog.cellsOf 40)).drop 0).take (Tryz.prog.cellsOf 34)).drop 2).take (Tryz.prog.cellsOf 9)) = some v2 := hk 2 _ rfl
    obtain ⟨n34, e34, w34⟩ := int1 k0
    obtain ⟨n35, e35, w35⟩ := int1 k1
    obtain ⟨s36, e36, w36⟩ := str1 k2
    have r (a b i : Nat) (h : i < b) : ((cs.drop a).take b)[i]? = cs[a + i]? := dt cs a b i h
    rw [c34] at hb e32
    rw [c3] at e33 e37 e38 e39 e40 e41 e42 e43 e34 e35
    rw [c9] at e36
    rw [c66] at e34 e35 e36 e37 e38 e39
    rw [c36] at e34 e35 e36
    simp only [dt _ _ 1 0 (by decide), dt _ _ 33 32 (by decide), dt _ _ 6 3 (by decide), dt _ _ 6 4 (by decide), dt _ _ 6 5 (by decide), dt _ _ 6 0 (by decide), dt _ _ 6 1 (by decide), dt _ _ 6 2 (by decide), dt _ _ 3 0 (by decide), dt _ _ 3 1 (by decide), dt _ _ 3 2 (by decide), Nat.add_zero, Nat.zero_add, Nat.reduceAdd] at e32 e33 e34 e35 e36 e37 e38 e39 e40 e41 e42 e43
    replace hb : ∀ i, i < 32 → ∃ k, cs[i]? = some (.int .u8 k) ∧ 0 ≤ k ∧ k ≤ 255 := fun i hi => by
     have h9 := hb i hi
     rwa [dt _ _ _ _ (by omega), Nat.zero_add] at h9
    clear r h h0 h1 h2 h3 h4 h5 h6 g0 g1 g2 g3 k0 k1 k2 hf hg hk hlen hlen2 hlen3
    obtain ⟨q0, q1, q2, q3, q4, q5, q6, q7, q8, q9, q10, q11, q12, q13, q14, q15, q16, q17, q18, q19, q20, q21, q22, q23, q24, q25, q26, q27, q28, q29, q30, q31, q32, q33, q34, q35, q36, q37, q38, q39, q40, q41, q42, q43, rfl⟩ := list44 hl
    obtain ⟨n0, e0, b0⟩ := hb 0 (by decide)
    obtain ⟨n1, e1, b1⟩ := hb 1 (by decide)
    obtain ⟨n2, e2, b2⟩ := hb 2 (by decide)
    obtain ⟨n3, e3, b3⟩ := hb 3 (by decide)
    obtain ⟨n4, e4, b4⟩ := hb 4 (by decide)
    obtain ⟨n5, e5, b5⟩ := hb 5 (by decide)
    obtain ⟨n6, e6, b6⟩ := hb 6 (by decide)
    obtain ⟨n7, e7, b7⟩ := hb 7 (by decide)
    obtain ⟨n8, e8, b8⟩ := hb 8 (by decide)
    obtain ⟨n9, e9, b9⟩ := hb 9 (by decide)
    obtain ⟨n10, e10, b10⟩ := hb 10 (by decide)
    obtain ⟨n11, e11, b11⟩ := hb 11 (by decide)
    obtain ⟨n12, e12, b12⟩ := hb 12 (by decide)
    obtain ⟨n13, e13, b13⟩ := hb 13 (by decide)
    obtain ⟨n14, e14, b14⟩ := hb 14 (by decide)
    obtain ⟨n15, e15, b15⟩ := hb 15 (by decide)
    obtain ⟨n16, e16, b16⟩ := hb 16 (by decide)
    obtain ⟨n17, e17, b17⟩ := hb 17 (by decide)
    obtain ⟨n18, e18, b18⟩ := hb 18 (by decide)
    obtain ⟨n19, e19, b19⟩ := hb 19 (by decide)
    obtain ⟨n20, e20, b20⟩ := hb 20 (by decide)
    obtain ⟨n21, e21, b21⟩ := hb 21 (by decide)
    obtain ⟨n22, e22, b22⟩ := hb 22 (by decide)
    obtain ⟨n23, e23, b23⟩ := hb 23 (by decide)
    obtain ⟨n24, e24, b24⟩ := hb 24 (by decide)
    obtain ⟨n25, e25, b25⟩ := hb 25 (by decide)
    obtain ⟨n26, e26, b26⟩ := hb 26 (by decide)
    obtain ⟨n27, e27, b27⟩ := hb 27 (by decide)
    obtain ⟨n28, e28, b28⟩ := hb 28 (by decide)
    obtain ⟨n29, e29, b29⟩ := hb 29 (by decide)
    obtain ⟨n30, e30, b30⟩ := hb 30 (by decide)
    obtain ⟨n31, e31, b31⟩ := hb 31 (by decide)
    obtain rfl : q0 = .int .u8 n0 := Option.some.inj e0
    obtain rfl : q1 = .int .u8 n1 := Option.some.inj e1
    obtain rfl : q2 = .int .u8 n2 := Option.some.inj e2
    obtain rfl : q3 = .int .u8 n3 := Option.some.inj e3
    obtain rfl : q4 = .int .u8 n4 := Option.some.inj e4
    obtain rfl : q5 = .int .u8 n5 := Option.some.inj e5
    obtain rfl : q6 = .int .u8 n6 := Option.some.inj e6
    obtain rfl : q7 = .int .u8 n7 := Option.some.inj e7
    obtain rfl : q8 = .int .u8 n8 := Option.some.inj e8
    obtain rfl : q9 = .int .u8 n9 := Option.some.inj e9
    obtain rfl : q10 = .int .u8 n10 := Option.some.inj e10
    obtain rfl : q11 = .int .u8 n11 := Option.some.inj e11
    obtain rfl : q12 = .int .u8 n12 := Option.some.inj e12
    obtain rfl : q13 = .int .u8 n13 := Option.some.inj e13
    obtain rfl : q14 = .int .u8 n14 := Option.some.inj e14
    obtain rfl : q15 = .int .u8 n15 := Option.some.inj e15
    obtain rfl : q16 = .int .u8 n16 := Option.some.inj e16
    obtain rfl : q17 = .int .u8 n17 := Option.some.inj e17
    obtain rfl : q18 = .int .u8 n18 := Option.some.inj e18
    obtain rfl : q19 = .int .u8 n19 := Option.some.inj e19
    obtain rfl : q20 = .int .u8 n20 := Option.some.inj e20
    obtain rfl : q21 = .int .u8 n21 := Option.some.inj e21
    obtain rfl : q22 = .int .u8 n22 := Option.some.inj e22
    obtain rfl : q23 = .int .u8 n23 := Option.some.inj e23
    obtain rfl : q24 = .int .u8 n24 := Option.some.inj e24
    obtain rfl : q25 = .int .u8 n25 := Option.some.inj e25
    obtain rfl : q26 = .int .u8 n26 := Option.some.inj e26
    obtain rfl : q27 = .int .u8 n27 := Option.some.inj e27
    obtain rfl : q28 = .int .u8 n28 := Option.some.inj e28
    obtain rfl : q29 = .int .u8 n29 := Option.some.inj e29
    obtain rfl : q30 = .int .u8 n30 := Option.some.inj e30
    obtain rfl : q31 = .int .u8 n31 := Option.some.inj e31
    obtain rfl : q32 = .int .i64 n32 := Option.some.inj e32
    obtain rfl : q33 = .int .i64 n33 := Option.some.inj e33
    obtain rfl : q34 = .int .i64 n34 := Option.some.inj e34
    obtain rfl : q35 = .int .i64 n35 := Option.some.inj e35
    obtain rfl : q36 = .string s36 := Option.some.inj e36
    obtain rfl : q37 = .int .i64 n37 := Option.some.inj e37
    obtain rfl : q38 = .int .i64 n38 := Option.some.inj e38
    obtain rfl : q39 = .int .i64 n39 := Option.some.inj e39
    obtain rfl : q40 = .int .i64 n40 := Option.some.inj e40
    obtain rfl : q41 = .int .i64 n41 := Option.some.inj e41
    obtain rfl : q42 = .int .i64 n42 := Option.some.inj e42
    obtain rfl : q43 = .int .i64 n43 := Option.some.inj e43
    refine ⟨⟨⟨⟨n0, n1, n2, n3, n4, n5, n6, n7, n8, n9, n10, n11, n12, n13, n14, n15, n16, n17, n18, n19, n20, n21, n22, n23, n24, n25, n26, n27, n28, n29, n30, n31⟩, n32⟩, n33, ⟨⟨n34, n35, s36⟩, n37, n38, n39⟩, n40, n41, n42, n43⟩, rfl, ⟨?_, w36⟩, w32, w33, w34, w35, w37, w38, w39, w40, w41, w42, w43⟩
    show ([n0, n1, n2, n3, n4, n5, n6, n7, n8, n9, n10, n11, n12, n13, n14, n15, n16, n17, n18, n19, n20, n21, n22, n23, n24, n25, n26, n27, n28, n29, n30, n31] : List Int).all _ = true
    simp only [List.all_cons, List.all_nil, b0.1, b0.2, b1.1, b1.2, b2.1, b2.2, b3.1, b3.2, b4.1, b4.2, b5.1, b5.2, b6.1, b6.2, b7.1, b7.2, b8.1, b8.2, b9.1, b9.2, b10.1, b10.2, b11.1, b11.2, b12.1, b12.2, b13.1, b13.2, b14.1, b14.2, b15.1, b15.2, b16.1, b16.2, b17.1, b17.2, b18.1, b18.2, b19.1, b19.2, b20.1, b20.2, b21.1, b21.2, b22.1, b22.2, b23.1, b23.2, b24.1, b24.2, b25.1, b25.2, b26.1, b26.2, b27.1, b27.2, b28.1, b28.2, b29.1, b29.2, b30.1, b30.2, b31.1, b31.2, decide_true, Bool.and_self]
def Wf (y : S42) : Prop := ((I90.bs (to90 y)).all (fun n => decide (0 ≤ n) && decide (n ≤ 255)) = true ∧ y.f2.f0.f2.size ≤ maxLen) ∧ In64 y.f0.f1 ∧ In64 y.f1 ∧ In64 y.f2.f0.f0 ∧ In64 y.f2.f0.f1 ∧ In64 y.f2.f1 ∧ In64 y.f2.f2 ∧ In64 y.f2.f3 ∧ In64 y.f3 ∧ In64 y.f4 ∧ In64 y.f5 ∧ In64 y.f6
theorem Wf.key {y : S42} (h : Wf y) : keyB (to90 y) = true := by
 unfold keyB
 rw [h.1.1, Bool.true_and, Bool.and_eq_true, decide_eq_true_eq, decide_eq_true_eq]
 exact h.2.1
theorem row {a0 : Option Addr} {len0 cap0 : Nat} {d : DataW H} {p : List MemPlace} (h : DataW.Trod enc Tryz.prog w 0 (fun _ => true) true 22 (.slice a0 len0 cap0) d p) : len0 ≤ cap0 ∧ ∃ xs : List S42, xs.length = len0 ∧ ReadsRow (fun x c => c = J68.enc x) 44 w a0 len0 xs ∧ ∀ x ∈ xs, Wf x := by
 obtain ⟨fuel, hf⟩ := h
 rcases open_slice Tryz.underlying22 hf with ⟨hcs, _⟩ | ⟨a, len, cap, m, n, D, Pl, hcs, _, hl, hm, hmm, _, he⟩
 ·simp [Value.cells] at hcs
  obtain ⟨rfl, rfl, rfl⟩ := hcs
  exact ⟨Nat.le_refl _, [], rfl, ⟨rfl, by omega, fun hh => by omega⟩, fun x hx => by cases hx⟩
 ·simp [Value.cells] at hcs
  obtain ⟨rfl, rfl, rfl⟩ := hcs
  refine ⟨hl, ?_⟩
  have hm2 : m = cap0 := by simpa using hmm
  have hex : ∀ i, ∃ y : S42, i < len0 → ∃ c, c.length = 44 ∧ c = J68.enc y ∧ Wf y ∧ ∀ j u, c[j]? = some u → w.cell? (a.add (i * 44 + j)) = some u := by
   intro i
   by_cases hi : i < len0
   ·obtain ⟨cs', hc, ht⟩ := he i (by omega)
    rw [c68] at hc
    obtain ⟨_, _, hc3⟩ := World.cells?_some hc
    obtain ⟨h44, y, hy, hwf⟩ := input ht
    refine ⟨y, fun _ => ⟨cs', h44, hy, hwf, fun j u hu => ?_⟩⟩
    have hj : j < 44 := by
     have := (List.getElem?_eq_some_iff.1 hu).1
     omega
    rw [← Addr.add_add, hc3 j hj, hu]
   ·exact ⟨z42, fun hh => absurd hh hi⟩
  obtain ⟨f, hf2⟩ := Classical.skolem.1 hex
  refine ⟨(List.range len0).map f, by simp, ⟨by simp, ?_, fun _ => ⟨a, rfl, fun j q hj => ?_⟩⟩, fun x hx => ?_⟩
  ·unfold maxLen at hm
   omega
  ·have hj2 : j < len0 := by
    have := (List.getElem?_eq_some_iff.1 hj).1
    simpa using this
   have e2 : f j = q := by simpa [hj2] using hj
   subst e2
   obtain ⟨c, q1, q2, _, q3⟩ := hf2 j hj2
   exact ⟨c, q1, q2, q3⟩
  ·obtain ⟨j, hj, rfl⟩ := List.mem_map.1 hx
   obtain ⟨c, _, _, q, _⟩ := hf2 j (List.mem_range.1 hj)
   exact q
end Go.Proofs.YtiodebjjbgcbhaaGreat.OpenI
