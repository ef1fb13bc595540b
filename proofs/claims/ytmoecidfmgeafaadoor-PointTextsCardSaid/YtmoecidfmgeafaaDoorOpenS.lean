/- Arguments that are lists of outpoints, or an outpoint, opened: what is read, and that its bytes are bytes. -/
import Derived.Test.YtmoecidfmgeafaaDoorQPntx4
import Derived.OpenShut
import Derived.Deep.Slices
import Derived.ChangeSame
import Derived.ChangeSlices
namespace Go.Proofs.YtmoecidfmgeafaaDoor.OpenS
open Go.RowKit Go.Proofs.YtmoecidfmgeafaaDoor.QPnt Go.Proofs.YtmoecidfmgeafaaDoorW.PrintWords
open Go.ChangeShapes Go.WideShapes Go.Deep
variable {H : Type} {enc : TypeId × Value → H} {w : World} {base : Nat} {spare : Nat → Bool} {held : Bool}
def num (cs : List Value) (i : Nat) : Int := match cs[i]? with | some (.int _ n) => n | _ => 0
theorem c23 : Tryd.prog.cellsOf 23 = 32 := by kernel_rfl
theorem c25 : Tryd.prog.cellsOf 25 = 33 := by kernel_rfl
theorem c5 : Tryd.prog.cellsOf 5 = 1 := by kernel_rfl
theorem c3 : Tryd.prog.cellsOf 3 = 1 := by kernel_rfl
theorem outpoint {fuel : Nat} {cs : List Value} {x : DataW H × List MemPlace} (h : DataW.trod enc Tryd.prog w base spare held fuel 25 cs = some x) : cs.length = 33 ∧ ∃ y : S25, cs = encO y ∧ ∀ v ∈ bsO y, 0 ≤ v ∧ v < 256 := by
  obtain ⟨y0, y1, n, rfl, hl, h0, h1⟩ := trod_struct2 Tryd.underlying25 h
  rw [c25] at hl
  refine ⟨hl, ?_⟩
  have h0' : DataW.trod enc Tryd.prog w base spare held n 23 (cs.take 32) = some y0 := by
    have := h0
    rw [c23] at this
    exact this
  have h1' : DataW.trod enc Tryd.prog w base spare held n 3 ((cs.drop 32).take 1) = some y1 := by
    have := h1
    rw [c3] at this
    exact this
  obtain ⟨xs, m, rfl, rfl, _, hx, he⟩ := DataW.trod_array Tryd.underlying23 h0'
  obtain ⟨n1, e1, _, _⟩ := DataW.trod_int Tryd.underlying3 h1'
  have hN : cs[32]? = some (.int .i64 n1) := by
    have := congrArg (fun l : List Value => l[0]?) e1
    simpa [List.getElem?_take, List.getElem?_drop] using this
  have hb : ∀ i, i < 32 → ∃ k, cs[i]? = some (.int .u8 k) ∧ 0 ≤ k ∧ k < 256 := by
    intro i hi
    have h2 := he i hi
    rw [c5, Nat.mul_one, List.getElem?_eq_getElem (by omega)] at h2
    obtain ⟨k, e2, _, wf⟩ := DataW.trod_int Tryd.underlying5 h2
    have wf1 : IntKind.u8.min ≤ k ∧ k ≤ IntKind.u8.max := by simpa [Lit.wf] using wf
    have wf2 : 0 ≤ k ∧ k ≤ 255 := wf1
    refine ⟨k, ?_, wf2.1, by omega⟩
    have := congrArg (fun l : List Value => l[0]?) e2
    simpa [List.getElem?_take, List.getElem?_drop, hi] using this
  obtain ⟨f, e, hf⟩ : ∃ f : Nat → Int, cs = (List.range 32).map (fun i => Value.int .u8 (f i)) ++ [.int .i64 (f 32)] ∧ ∀ i, i < 32 → 0 ≤ f i ∧ f i < 256 := by
    refine ⟨num cs, List.ext_getElem? fun i => ?_, fun i hi => by obtain ⟨k, ek, h5⟩ := hb i hi; simpa [num, ek] using h5⟩
    by_cases h3 : i < 32
    · obtain ⟨k, ek, _⟩ := hb i h3
      rw [ek, List.getElem?_append_left (by simpa using h3)]
      simp [h3, num, ek]
    · by_cases h4 : i = 32
      · subst h4
        rw [hN, List.getElem?_append_right (by simp)]
        simp [num, hN]
      · rw [List.getElem?_eq_none (by omega), List.getElem?_eq_none (by simp; omega)]
  subst e
  refine ⟨⟨⟨f 0, f 1, f 2, f 3, f 4, f 5, f 6, f 7, f 8, f 9, f 10, f 11, f 12, f 13, f 14, f 15, f 16, f 17, f 18, f 19, f 20, f 21, f 22, f 23, f 24, f 25, f 26, f 27, f 28, f 29, f 30, f 31⟩, f 32⟩, rfl, fun v hv => ?_⟩
  simp only [bsO, List.mem_cons, List.not_mem_nil, or_false] at hv
  rcases hv with rfl | rfl | rfl | rfl | rfl | rfl | rfl | rfl | rfl | rfl | rfl | rfl | rfl | rfl | rfl | rfl | rfl | rfl | rfl | rfl | rfl | rfl | rfl | rfl | rfl | rfl | rfl | rfl | rfl | rfl | rfl | rfl
  · exact hf 0 (by decide)
  · exact hf 1 (by decide)
  · exact hf 2 (by decide)
  · exact hf 3 (by decide)
  · exact hf 4 (by decide)
  · exact hf 5 (by decide)
  · exact hf 6 (by decide)
  · exact hf 7 (by decide)
  · exact hf 8 (by decide)
  · exact hf 9 (by decide)
  · exact hf 10 (by decide)
  · exact hf 11 (by decide)
  · exact hf 12 (by decide)
  · exact hf 13 (by decide)
  · exact hf 14 (by decide)
  · exact hf 15 (by decide)
  · exact hf 16 (by decide)
  · exact hf 17 (by decide)
  · exact hf 18 (by decide)
  · exact hf 19 (by decide)
  · exact hf 20 (by decide)
  · exact hf 21 (by decide)
  · exact hf 22 (by decide)
  · exact hf 23 (by decide)
  · exact hf 24 (by decide)
  · exact hf 25 (by decide)
  · exact hf 26 (by decide)
  · exact hf 27 (by decide)
  · exact hf 28 (by decide)
  · exact hf 29 (by decide)
  · exact hf 30 (by decide)
  · exact hf 31 (by decide)
theorem row {a0 : Option Addr} {len0 cap0 : Nat} {d : DataW H} {p : List MemPlace} (h : DataW.Trod enc Tryd.prog w 0 (fun _ => true) true 31 (.slice a0 len0 cap0) d p) : len0 ≤ cap0 ∧ ∃ xs : List S25, xs.length = len0 ∧ Kd.C k25 w a0 len0 xs ∧ ∀ x ∈ xs, ∀ v ∈ bsO x, 0 ≤ v ∧ v < 256 := by
  obtain ⟨fuel, hf⟩ := h
  rcases open_slice Tryd.underlying31 hf with ⟨hcs, _⟩ | ⟨a, len, cap, m, n, D, Pl, hcs, _, hl, hm, hmm, _, he⟩
  · simp [Value.cells] at hcs
    obtain ⟨rfl, rfl, rfl⟩ := hcs
    exact ⟨Nat.le_refl _, [], rfl, ⟨rfl, by omega, fun hh => by omega⟩, fun x hx => by cases hx⟩
  · simp [Value.cells] at hcs
    obtain ⟨rfl, rfl, rfl⟩ := hcs
    refine ⟨hl, ?_⟩
    have hm2 : m = cap0 := by simpa using hmm
    have hex : ∀ i, ∃ y : S25, i < len0 → ∃ c, c.length = 33 ∧ k25.K w y c ∧ (∀ v ∈ bsO y, 0 ≤ v ∧ v < 256) ∧ ∀ j u, c[j]? = some u → w.cell? (a.add (i * 33 + j)) = some u := by
      intro i
      by_cases hi : i < len0
      · obtain ⟨cs', hc, ht⟩ := he i (by omega)
        rw [c25] at hc
        obtain ⟨_, _, hc3⟩ := World.cells?_some hc
        obtain ⟨h33, y, hy, hwf⟩ := outpoint ht
        refine ⟨y, fun _ => ⟨cs', h33, by rw [hy]; exact k25_mk w _, hwf, fun j u hu => ?_⟩⟩
        have hj : j < 33 := by
          have := (List.getElem?_eq_some_iff.1 hu).1
          omega
        rw [← Addr.add_add, hc3 j hj, hu]
      · exact ⟨z25, fun hh => absurd hh hi⟩
    obtain ⟨f, hf2⟩ := Classical.skolem.1 hex
    refine ⟨(List.range len0).map f, by simp, ⟨by simp, ?_, fun _ => ⟨a, rfl, fun j q hj => ?_⟩⟩, fun x hx => ?_⟩
    · unfold maxLen at hm
      omega
    · have hj2 : j < len0 := by
        have := (List.getElem?_eq_some_iff.1 hj).1
        simpa using this
      have e2 : f j = q := by simpa [hj2] using hj
      subst e2
      obtain ⟨c, q1, q2, _, q3⟩ := hf2 j hj2
      exact ⟨c, q1, q2, q3⟩
    · obtain ⟨j, hj, rfl⟩ := List.mem_map.1 hx
      obtain ⟨c, _, _, q, _⟩ := hf2 j (List.mem_range.1 hj)
      exact q
/-- The same, and that its bytes are bytes. -/
theorem argW {cs : Array Value} {d : DataW H} {p : List MemPlace} (h : DataW.Trod enc Tryd.prog w 0 (fun _ => true) true 25 (.agg cs) d p) : ∃ y : S25, cs = (encO y).toArray ∧ ∀ v ∈ bsO y, 0 ≤ v ∧ v < 256 := by
  obtain ⟨fuel, hf⟩ := h
  obtain ⟨_, y, hy, hb⟩ := outpoint hf
  exact ⟨y, by rw [← hy]; simp [Value.cells], hb⟩
end Go.Proofs.YtmoecidfmgeafaaDoor.OpenS
