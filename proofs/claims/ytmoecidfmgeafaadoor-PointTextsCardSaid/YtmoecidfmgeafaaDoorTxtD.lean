/- A text as a hash: what the document's Parse answers, at every text. -/
import Derived.Test.YtmoecidfmgeafaaDoorTxtB
import Derived.Test.YtmoecidfmgeafaaDoorQPntx3
import Derived.Shelf.Small.Strs
namespace Go.Proofs.YtmoecidfmgeafaaDoor.Txt
open Go.RowKit Go.Proofs.YtmoecidfmgeafaaDoor.QPnt Go.Proofs.YtmoecidfmgeafaaDoorW.PrintWords Go.Proofs.YtmoecidfmgeafaaDoorW.PrintLast Go.Proofs.YtmoecidfmgeafaaDoorW.PrintMore
attribute [local go_sem] Go.Proofs.YtmoecidfmgeafaaDoor.Wide.cellsAt_drewN Go.Proofs.YtmoecidfmgeafaaDoor.Wide.cellsAt_drew Go.Proofs.YtmoecidfmgeafaaDoor.Wide.lw32 Go.Proofs.YtmoecidfmgeafaaDoor.Wide.lw33
attribute [local go_sem ↓ high] Go.Proofs.YtmoecidfmgeafaaDoor.Wide.hv32 Go.Proofs.YtmoecidfmgeafaaDoor.Wide.hv33
set_option linter.unusedVariables false
set_option linter.unusedSimpArgs false
/-- A digit's value; less than nothing at another sign. -/
def nib (c : UInt8) : Int := Lib.indexByte dgs.data.toList c
theorem nib_lt (c : UInt8) : nib c < 16 := by
  have h : ∀ n : Fin 256, nib (UInt8.ofNat n.val) < 16 := by decide +kernel
  have := h ⟨c.toNat, c.toNat_lt⟩
  simpa using this
/-- The hash of which i signs have been read. -/
def part (l : List UInt8) (i : Nat) : List Int := (List.range 32).map fun k => if 2 * (31 - k) + 1 < i then 16 * nib (l.getD (2 * (31 - k)) 0) + nib (l.getD (2 * (31 - k) + 1) 0) else if 2 * (31 - k) < i then nib (l.getD (2 * (31 - k)) 0) else 0
theorem part_len (l : List UInt8) (i : Nat) : (part l i).length = 32 := by simp [part]
theorem part_get (l : List UInt8) (i k : Nat) (hk : k < 32) : (part l i)[k]'(by rw [part_len]; exact hk) = if 2 * (31 - k) + 1 < i then 16 * nib (l.getD (2 * (31 - k)) 0) + nib (l.getD (2 * (31 - k) + 1) 0) else if 2 * (31 - k) < i then nib (l.getD (2 * (31 - k)) 0) else 0 := by simp [part]
theorem part_zero (l : List UInt8) : part l 0 = List.replicate 32 0 := by
  apply List.ext_getElem
  · rw [part_len, List.length_replicate]
  · intro k h1 h2
    rw [List.getElem_replicate, part_get l 0 k (by rw [part_len] at h1; exact h1), if_neg (by omega), if_neg (by omega)]
theorem size_list (s : ByteArray) : s.data.toList.length = s.size := Array.length_toList
theorem part_step (l : List UInt8) (i : Nat) (hi : i < 64) : part l (i + 1) = (part l i).set (31 - i / 2) (16 * (part l i)[31 - i / 2]'(by rw [part_len]; omega) + nib (l.getD i 0)) := by
  apply List.ext_getElem
  · simp [part_len]
  · intro k h1 h2
    have hk : k < 32 := by rw [part_len] at h1; exact h1
    rw [List.getElem_set, part_get l (i + 1) k hk, part_get l i k hk, part_get l i (31 - i / 2) (by omega)]
    by_cases e : 31 - i / 2 = k
    · rw [if_pos e]
      have e2 : 31 - (31 - i / 2) = i / 2 := by omega
      have e3 : 31 - k = i / 2 := by omega
      rw [e2, e3]
      by_cases ev : i % 2 = 0
      · have e4 : 2 * (i / 2) = i := by omega
        rw [e4, if_neg (by omega), if_pos (by omega), if_neg (by omega), if_neg (by omega)]
        omega
      · have e4 : 2 * (i / 2) + 1 = i := by omega
        rw [e4, if_pos (by omega), if_neg (by omega), if_pos (by omega)]
    · rw [if_neg e]
      by_cases c1 : 2 * (31 - k) + 1 < i
      · rw [if_pos c1, if_pos (by omega)]
      · rw [if_neg c1, if_neg (by omega)]
        by_cases c2 : 2 * (31 - k) < i
        · rw [if_pos c2, if_pos (by omega)]
        · rw [if_neg c2, if_neg (by omega)]
/-- All of them digits so far? -/
def good (l : List UInt8) (i : Nat) : Prop := ∀ j, j < i → 0 ≤ nib (l.getD j 0)
theorem part_bytes (l : List UInt8) (i : Nat) (h : good l i) (k : Nat) (hk : k < 32) : 0 ≤ (part l i)[k]'(by rw [part_len]; exact hk) ∧ (part l i)[k]'(by rw [part_len]; exact hk) < 256 := by
  rw [part_get l i k hk]
  have n1 := nib_lt (l.getD (2 * (31 - k)) 0)
  have n2 := nib_lt (l.getD (2 * (31 - k) + 1) 0)
  by_cases c1 : 2 * (31 - k) + 1 < i
  · rw [if_pos c1]
    have h1 := h _ c1
    have h2 := h (2 * (31 - k)) (by omega)
    omega
  · rw [if_neg c1]
    by_cases c2 : 2 * (31 - k) < i
    · rw [if_pos c2]
      have h2 := h _ c2
      omega
    · rw [if_neg c2]
      omega
open Classical in
/-- A text as a hash. -/
noncomputable def hparse (l : List UInt8) : List Int × Bool := if l.length = 64 ∧ good l 64 then (part l 64, true) else (List.replicate 32 0, false)
theorem sz23 {hs : List Int} (h : hs.length = 32) : (Tryd.prog.info? 23).map (·.size) = some ((hs.map (Value.int .u8)).toArray).size := by
  rw [List.size_toArray, List.length_map, h]
  kernel_rfl
theorem one23 (hs : List Int) : ((hs.map (Value.int .u8)).toArray).all (·.oneCell') = true := by simp [Value.oneCell']
theorem row23 {w : World} {g : Nat} {hs : List Int} (h : hs.length = 32) (hb : w.heap[g]? = some (.cells (hs.map (Value.int .u8)).toArray 23 (0, 0))) : Go.Proofs.YtmoecidfmgeafaaDoor.Wide.cellsAt w ⟨g, 0, none⟩ 32 = some (hs.map (Value.int .u8)) :=
  cells_pre 32 (hs.map (Value.int .u8)) [] (by rw [List.length_map, h]) (by rw [List.append_nil]; exact hb)
theorem part_sz (l : List UInt8) (i : Nat) : 32 = ((part l i).map (Value.int .u8)).toArray.size := by rw [List.size_toArray, List.length_map, part_len]
set_option maxHeartbeats 4000000 in
set_option maxRecDepth 100000 in
theorem sparse (s : ByteArray) (w : World) : Calls Tryd.prog 26 #[.string s] w fun e w' => e = .returned (.tuple #[.agg ((hparse s.data.toList).1.map (Value.int .u8)).toArray, .bool (hparse s.data.toList).2]) ∧ Below w.heap.size w w' := by
  by_cases hs : s.size = 64
  case neg =>
    have hn : ¬ (s.data.toList.length = 64 ∧ good s.data.toList 64) := fun h => hs ((size_list s).symm.trans h.1)
    unfold hparse
    rw [if_neg hn]
    exact sha_Parse.calls s 0 0 0 0 0 0 0 0 0 0 0 0 0 0 0 0 0 0 0 0 0 0 0 0 0 0 0 0 0 0 0 0 false w (by unfold sha_Parse.f; rw [if_neg hs])
  obtain ⟨l, hl⟩ : ∃ l, l = s.data.toList := ⟨_, rfl⟩
  have hll : l.length = 64 := by rw [hl, size_list]; exact hs
  have hget : ∀ (i : Nat) (h : i < s.size), s[i] = l.getD i 0 := fun i h => by
    rw [hl]
    have h' : i < s.data.toList.length := by rw [size_list]; exact h
    rw [List.getD_eq_getElem?_getD, List.getElem?_eq_getElem h', Option.getD_some, Array.getElem_toList]
    rfl
  rw [← hl]
  have HL := Aside0.mk hll
  have HG := Aside0.mk hget
  have HS := Aside0.mk hs
  have HB := Aside0.mk (Below.refl w.heap.size w)
  have h1 : ((s.size : Int) != 64) = false := by rw [hs]; rfl
  have h2 : ((s.size : Int) == 64) = true := by rw [hs]; rfl
  clear hs hl hll hget
  go_enter Tryd.func26, Tryd.ntmps26
  go_wp2_with ((with_reducible refine gate_dst (N := 2) rfl ?_); refine box_event ?hg (N := 2) ?hd (cs := #[.int .u8 0, .int .u8 0, .int .u8 0, .int .u8 0, .int .u8 0, .int .u8 0, .int .u8 0, .int .u8 0, .int .u8 0, .int .u8 0, .int .u8 0, .int .u8 0, .int .u8 0, .int .u8 0, .int .u8 0, .int .u8 0, .int .u8 0, .int .u8 0, .int .u8 0, .int .u8 0, .int .u8 0, .int .u8 0, .int .u8 0, .int .u8 0, .int .u8 0, .int .u8 0, .int .u8 0, .int .u8 0, .int .u8 0, .int .u8 0, .int .u8 0, .int .u8 0]) (t := 23) ?hr ?_; (case hd => rfl); (case hg => rfl); (case hr => first | (go_simp; done) | (go_simp; rfl)); intro g2 hg w3 hbox hb; have HB3 := Aside0.mk (below_step HB.out hb); have HW := Aside0.mk (show w.heap.size ≤ g2 ∧ g2 < w3.heap.size from ⟨by rw [hg]; exact Nat.le_refl _, blk_lt hbox⟩); have BK3 := Aside0.mk hbox; clear HB hbox hb hg)
  have HP0 : Aside0 (w3.heap[g2]? = some (.cells ((part l 0).map (Value.int .u8)).toArray 23 (0, 0))) := ⟨by rw [part_zero]; exact BK3.out⟩
  have z64 : ((s.size : Nat) : Int) = 64 := by rw [HS.out]; rfl
  rw [z64]
  clear BK3
  go_loopg [13] 65 (fun kq v13 w' => ∃ i : Nat, v13 = .int .i64 (i : Int) ∧ Aside0 (i ≤ 64) ∧ Aside0 (kq = 65 - i) ∧ Aside0 (good l i) ∧ Aside0 (w'.heap[g2]? = some (.cells ((part l i).map (Value.int .u8)).toArray 23 (0, 0))) ∧ Aside0 (Below w.heap.size w w'))
  case atStart => exact ⟨0, rfl, ⟨by omega⟩, ⟨rfl⟩, ⟨fun j hj => by omega⟩, HP0, HB3⟩
  case round =>
    clear HP0 HB3
    obtain ⟨i, rfl, HI, HK, HGD, BK, HB⟩ := hrel
    by_cases hi : i < 64
    case neg =>
      obtain rfl : i = 64 := by have := HI.out; omega
      have c0 : decide (((64 : Nat) : Int) < 64) = false := rfl
      have hc := row23 (part_len l 64) BK.out
      have HR : Aside0 (hparse l = (part l 64, true)) := ⟨by unfold hparse; rw [if_pos ⟨HL.out, HGD.out⟩]⟩
      have HWr := Aside0.mk (show w.heap.size ≤ g2 ∧ w.heap.size ≤ wr.heap.size from ⟨HW.out.1, HB.out.size⟩)
      go_wp2_with (refine Go.Proofs.YtmoecidfmgeafaaDoor.PutW.store_event rfl rfl 23 (.tmp 2) (.tmp 36) rfl (g := g2) (cells := ((part l 64).map (Value.int .u8)).toArray) rfl rfl BK.out rfl (sz23 (part_len l 64)) (one23 _) ?_; intro w4 hz4 hs4 hg4; have BK4 := Aside0.mk hz4; have HB4 := Aside0.mk (pw_below_grown HB.out (some g2) HWr.out.2 hg4 (fun k e => by cases e; exact HWr.out.1)); clear hz4 hs4 hg4)
      refine bodyPost_ret (results_ct rfl _ _ g2 23 ((part l 64).map (Value.int .u8)).toArray (0, 0) _ rfl BK4.out Tryd.underlying23 rfl (sz23 (part_len l 64))) rfl ?_
      exact ⟨by rw [HR.out]; rfl, HB4.out⟩
    obtain ⟨c, hc⟩ : ∃ c, c = l.getD i 0 := ⟨_, rfl⟩
    have hsi : i < s.size := by rw [HS.out]; exact hi
    have hget : s[i] = c := by rw [hc]; exact HG.out i hsi
    obtain ⟨n, hn⟩ : ∃ n, n = nib c := ⟨_, rfl⟩
    have HN : Aside0 (∀ w, Calls Tryd.prog 42 #[.string ⟨#[48, 49, 50, 51, 52, 53, 54, 55, 56, 57, 97, 98, 99, 100, 101, 102]⟩, .int .u8 ((c.toNat : Nat) : Int)] w fun e w' => e = .returned (.int .i64 n) ∧ w' = w) := ⟨fun w => by
      have h := Go.Proofs.Any.strings_IndexByte Go.Proofs.YtmoecidfmgeafaaDoor.LayT.ibyte dgs ((c.toNat : Nat) : Int) w
      rw [Int.toNat_natCast, show c.toNat.toUInt8 = c by simp] at h
      rw [hn]
      exact h⟩
    have HNB := Aside0.mk (show n < 16 by rw [hn]; exact nib_lt c)
    have HNC := Aside0.mk (show n = nib (l.getD i 0) by rw [hn, hc])
    have HII := Aside0.mk hi
    have p1 := eq_true (show (0 : Int) ≤ (i : Int) by omega)
    have p2 := eq_true (show (i : Int) < (s.size : Int) by omega)
    have p3 := decide_eq_true (show (i : Int) < 64 by omega)
    have p4 := eq_true hsi
    clear hn hc hi
    have HWr := Aside0.mk (show w.heap.size ≤ g2 ∧ w.heap.size ≤ wr.heap.size from ⟨HW.out.1, HB.out.size⟩)
    by_cases hneg : n < 0
    · have c5 := decide_eq_true hneg
      have HR : Aside0 (hparse l = (List.replicate 32 0, false)) := ⟨by
        unfold hparse
        rw [if_neg]
        rintro ⟨_, hg⟩
        have := hg i HII.out
        rw [← HNC.out] at this
        omega⟩
      clear hneg
      go_wp2_with (first | (go_at_call 42; refine (HN.out _).mono ?_; rintro e w' ⟨rfl, rfl⟩) | (refine Go.Proofs.YtmoecidfmgeafaaDoor.PutW.store_event rfl rfl 23 (.tmp 2) (.tmp 22) rfl (g := g2) (cells := #[.int .u8 0, .int .u8 0, .int .u8 0, .int .u8 0, .int .u8 0, .int .u8 0, .int .u8 0, .int .u8 0, .int .u8 0, .int .u8 0, .int .u8 0, .int .u8 0, .int .u8 0, .int .u8 0, .int .u8 0, .int .u8 0, .int .u8 0, .int .u8 0, .int .u8 0, .int .u8 0, .int .u8 0, .int .u8 0, .int .u8 0, .int .u8 0, .int .u8 0, .int .u8 0, .int .u8 0, .int .u8 0, .int .u8 0, .int .u8 0, .int .u8 0, .int .u8 0]) rfl rfl BK.out (part_sz l i) (by kernel_rfl) (by kernel_rfl) ?_; intro w4 hz4 hs4 hg4; have BK4 := Aside0.mk hz4; have HB4 := Aside0.mk (pw_below_grown HB.out (some g2) HWr.out.2 hg4 (fun k e => by cases e; exact HWr.out.1)); clear hz4 hs4 hg4))
      refine bodyPost_ret (results_ct rfl _ _ g2 23 #[.int .u8 0, .int .u8 0, .int .u8 0, .int .u8 0, .int .u8 0, .int .u8 0, .int .u8 0, .int .u8 0, .int .u8 0, .int .u8 0, .int .u8 0, .int .u8 0, .int .u8 0, .int .u8 0, .int .u8 0, .int .u8 0, .int .u8 0, .int .u8 0, .int .u8 0, .int .u8 0, .int .u8 0, .int .u8 0, .int .u8 0, .int .u8 0, .int .u8 0, .int .u8 0, .int .u8 0, .int .u8 0, .int .u8 0, .int .u8 0, .int .u8 0, .int .u8 0] (0, 0) _ rfl BK4.out Tryd.underlying23 rfl (by kernel_rfl)) rfl ?_
      exact ⟨by rw [HR.out]; rfl, HB4.out⟩
    · have c5 := decide_eq_false hneg
      have HN0 := Aside0.mk (show 0 ≤ n by omega)
      clear hneg
      have hb31 : 31 - i / 2 < (part l i).length := by rw [part_len]; omega
      obtain ⟨v, hv⟩ : ∃ v, v = (part l i)[31 - i / 2]'hb31 := ⟨_, rfl⟩
      have HV := Aside0.mk hv
      obtain ⟨q, hq⟩ : ∃ q : Int, q = Int.tdiv (i : Int) 2 := ⟨_, rfl⟩
      obtain ⟨a, ha⟩ : ∃ a : Nat, a = 31 - i / 2 := ⟨_, rfl⟩
      have d1 : Int.tdiv (i : Int) 2 = q := hq.symm
      have hq2 : q = ((i / 2 : Nat) : Int) := by rw [hq, Int.tdiv_eq_ediv_of_nonneg (by omega)]; omega
      have d2 : wrap64 (31 - q) = (a : Int) := by have := HII.out; rw [hq2, ha]; unfold wrap64; omega
      have d3 : wrap64 q = q := by have := HII.out; rw [hq2]; unfold wrap64; omega
      have a1 := eq_true (show (0 : Int) ≤ (a : Int) by omega)
      have a2 := eq_true (show (a : Int) < 32 by omega)
      have a3 := eq_true (show a < 32 by omega)
      have HA := Aside0.mk ha
      have hcell : wr.cell? ⟨g2, a, none⟩ = some (.int .u8 v) := by
        rw [blk_cell BK.out a, ha, hv]
        simp only [List.getElem?_toArray, List.getElem?_map]
        rw [List.getElem?_eq_getElem hb31]
        rfl
      have hfz := blk_frozen BK.out a
      clear hq hq2 ha hv
      go_wp2_with (go_at_call 42; refine (HN.out _).mono ?_; rintro e w' ⟨rfl, rfl⟩)
      have hgood : good l (i + 1) := fun j hj => by
        by_cases e : j = i
        · rw [e, ← HNC.out]; exact HN0.out
        · exact HGD.out j (by omega)
      have hst := part_step l i HII.out
      rw [← HV.out, ← HNC.out] at hst
      have hval : (16 * v + n) % 256 = 16 * v + n := by
        have hb := part_bytes l (i + 1) hgood (31 - i / 2) (by omega)
        have he : (part l (i + 1))[31 - i / 2]'(by rw [part_len]; omega) = 16 * v + n := by
          simp only [hst]
          exact List.getElem_set_self _
        rw [he] at hb
        omega
      have hb2 : (w'.setCell ⟨g2, a, none⟩ (Value.int .u8 ((16 * v + n) % 256))).heap[g2]? = some (.cells ((part l (i + 1)).map (Value.int .u8)).toArray 23 (0, 0)) := by
        have hb := BK.out
        rw [hval, hst, ← HA.out]
        simp [World.setCell, Array.getElem?_modify, hb, List.map_set]
      go_roundg (64 - i)
      case measure => have := HK.out; have := HII.out; omega
      case rel => exact ⟨i + 1, by simp, ⟨by have := HII.out; omega⟩, ⟨by omega⟩, ⟨hgood⟩, ⟨hb2⟩, ⟨HB.out.setCell (p := ⟨g2, a, none⟩) HW.out.1 _⟩⟩
end Go.Proofs.YtmoecidfmgeafaaDoor.Txt

namespace Go.Proofs.YtmoecidfmgeafaaDoor.Txt
open Go.RowKit Go.Proofs.YtmoecidfmgeafaaDoor.QPnt Go.Proofs.YtmoecidfmgeafaaDoorW.PrintWords Go.Proofs.YtmoecidfmgeafaaDoorW.PrintLast Go.Proofs.YtmoecidfmgeafaaDoorW.PrintMore
attribute [local go_sem] Go.Proofs.YtmoecidfmgeafaaDoor.Wide.cellsAt_drewN Go.Proofs.YtmoecidfmgeafaaDoor.Wide.cellsAt_drew Go.Proofs.YtmoecidfmgeafaaDoor.Wide.lw32 Go.Proofs.YtmoecidfmgeafaaDoor.Wide.lw33
attribute [local go_sem ↓ high] Go.Proofs.YtmoecidfmgeafaaDoor.Wide.hv32 Go.Proofs.YtmoecidfmgeafaaDoor.Wide.hv33
set_option linter.unusedVariables false
set_option linter.unusedSimpArgs false
theorem nib_ranges (c : UInt8) : ((48 ≤ c.toNat ∧ c.toNat ≤ 57) ∧ nib c = (c.toNat : Int) - 48) ∨ ((97 ≤ c.toNat ∧ c.toNat ≤ 102) ∧ nib c = (c.toNat : Int) - 87) ∨ (¬ (48 ≤ c.toNat ∧ c.toNat ≤ 57) ∧ ¬ (97 ≤ c.toNat ∧ c.toNat ≤ 102) ∧ nib c < 0) := by
  have h : ∀ n : Fin 256, ((48 ≤ (UInt8.ofNat n.val).toNat ∧ (UInt8.ofNat n.val).toNat ≤ 57) ∧ nib (UInt8.ofNat n.val) = ((UInt8.ofNat n.val).toNat : Int) - 48) ∨ ((97 ≤ (UInt8.ofNat n.val).toNat ∧ (UInt8.ofNat n.val).toNat ≤ 102) ∧ nib (UInt8.ofNat n.val) = ((UInt8.ofNat n.val).toNat : Int) - 87) ∨ (¬ (48 ≤ (UInt8.ofNat n.val).toNat ∧ (UInt8.ofNat n.val).toNat ≤ 57) ∧ ¬ (97 ≤ (UInt8.ofNat n.val).toNat ∧ (UInt8.ofNat n.val).toNat ≤ 102) ∧ nib (UInt8.ofNat n.val) < 0) := by decide +kernel
  have := h ⟨c.toNat, c.toNat_lt⟩
  simpa using this
theorem part_step2 (l : List UInt8) (i : Nat) (hi : i < 32) : part l (2 * (i + 1)) = (part l (2 * i)).set (31 - i) (16 * nib (l.getD (2 * i) 0) + nib (l.getD (2 * i + 1) 0)) := by
  apply List.ext_getElem
  · simp [part_len]
  · intro k h1 h2
    have hk : k < 32 := by rw [part_len] at h1; exact h1
    rw [List.getElem_set, part_get l _ k hk, part_get l _ k hk]
    by_cases e : 31 - i = k
    · rw [if_pos e]
      have e3 : 31 - k = i := by omega
      rw [e3, if_pos (by omega)]
    · rw [if_neg e]
      by_cases c1 : 2 * (31 - k) + 1 < 2 * i
      · rw [if_pos c1, if_pos (by omega)]
      · rw [if_neg c1, if_neg (by omega), if_neg (by omega), if_neg (by omega)]
/-- What k signs from 2 i on come to. -/
def val (l : List UInt8) (i k : Nat) : Int := if k = 0 then 0 else if k = 1 then nib (l.getD (2 * i) 0) else 16 * nib (l.getD (2 * i) 0) + nib (l.getD (2 * i + 1) 0)
theorem val_step (l : List UInt8) (i k : Nat) (hk : k < 2) : val l i (k + 1) = 16 * val l i k + nib (l.getD (2 * i + k) 0) := by
  unfold val
  match k, hk with
  | 0, _ => simp
  | 1, _ => simp
theorem val_bound (l : List UInt8) (i k : Nat) (hk : k ≤ 2) (h : good l (2 * i + k)) : 0 ≤ val l i k ∧ val l i k < 256 := by
  unfold val
  have n1 := nib_lt (l.getD (2 * i) 0)
  have n2 := nib_lt (l.getD (2 * i + 1) 0)
  match k, hk with
  | 0, _ => rw [if_pos rfl]; omega
  | 1, _ => have := h (2 * i) (by omega); rw [if_neg (by decide), if_pos rfl]; omega
  | 2, _ => have := h (2 * i) (by omega); have := h (2 * i + 1) (by omega); rw [if_neg (by decide), if_neg (by decide)]; omega
set_option maxHeartbeats 8000000 in
set_option maxRecDepth 100000 in
theorem rparse (s : ByteArray) (w : World) : Calls Tryd.prog 27 #[.string s] w fun e w' => e = .returned (.tuple #[.agg ((hparse s.data.toList).1.map (Value.int .u8)).toArray, .bool (hparse s.data.toList).2]) ∧ Below w.heap.size w w' := by
  have HB := Aside0.mk (Below.refl w.heap.size w)
  by_cases hs : s.size = 64
  case neg =>
    have hn : ¬ (s.data.toList.length = 64 ∧ good s.data.toList 64) := fun h => hs ((size_list s).symm.trans h.1)
    have HR : Aside0 (hparse s.data.toList = (List.replicate 32 0, false)) := ⟨by unfold hparse; rw [if_neg hn]⟩
    have h1 : ((s.size : Int) != 64) = true := bne_iff_ne.mpr (by omega)
    have h2 : ((s.size : Int) == 64) = false := beq_eq_false_iff_ne.mpr (by omega)
    clear hn hs
    go_enter Tryd.func27, Tryd.ntmps27
    go_wp2_with (first | ((with_reducible refine gate_dst (N := 2) rfl ?_); refine box_event ?hg (N := 2) ?hd (cs := #[.int .u8 0, .int .u8 0, .int .u8 0, .int .u8 0, .int .u8 0, .int .u8 0, .int .u8 0, .int .u8 0, .int .u8 0, .int .u8 0, .int .u8 0, .int .u8 0, .int .u8 0, .int .u8 0, .int .u8 0, .int .u8 0, .int .u8 0, .int .u8 0, .int .u8 0, .int .u8 0, .int .u8 0, .int .u8 0, .int .u8 0, .int .u8 0, .int .u8 0, .int .u8 0, .int .u8 0, .int .u8 0, .int .u8 0, .int .u8 0, .int .u8 0, .int .u8 0]) (t := 23) ?hr ?_; (case hd => rfl); (case hg => rfl); (case hr => first | (go_simp; done) | (go_simp; rfl)); intro g2 hg w3 hbox hb; have HB3 := Aside0.mk (below_step HB.out hb); have HW3 := Aside0.mk (show w.heap.size ≤ g2 by rw [hg]; exact Nat.le_refl _); have BK3 := Aside0.mk hbox; clear HB hbox hb hg) | ((with_reducible refine gate_dst (N := 4) rfl ?_); refine box_event ?hg2 (N := 4) ?hd2 (cs := #[.int .u8 0, .int .u8 0, .int .u8 0, .int .u8 0, .int .u8 0, .int .u8 0, .int .u8 0, .int .u8 0, .int .u8 0, .int .u8 0, .int .u8 0, .int .u8 0, .int .u8 0, .int .u8 0, .int .u8 0, .int .u8 0, .int .u8 0, .int .u8 0, .int .u8 0, .int .u8 0, .int .u8 0, .int .u8 0, .int .u8 0, .int .u8 0, .int .u8 0, .int .u8 0, .int .u8 0, .int .u8 0, .int .u8 0, .int .u8 0, .int .u8 0, .int .u8 0]) (t := 23) ?hr2 ?_; (case hd2 => rfl); (case hg2 => rfl); (case hr2 => first | (go_simp; done) | (go_simp; rfl)); intro g4 hg w4 hbox hb; have HB4 := Aside0.mk (below_step HB3.out hb); have BK4 := Aside0.mk (blk_below BK3.out hb); have HN4 := Aside0.mk (show g2 ≠ g4 by rw [hg]; exact fun e => by have := blk_lt BK3.out; omega); have hc4 : Go.Proofs.YtmoecidfmgeafaaDoor.Wide.cellsAt w4 ⟨g4, 0, none⟩ 32 = some ((List.replicate 32 (0 : Int)).map (Value.int .u8)) := row23 (List.length_replicate ..) hbox; clear HB3 BK3 hbox hb hg) | (refine Go.Proofs.YtmoecidfmgeafaaDoor.PutW.store_event rfl rfl 23 (.tmp 2) (.tmp 12) rfl (g := g2) (cells := ((List.replicate 32 (0 : Int)).map (Value.int .u8)).toArray) rfl rfl BK4.out rfl (by kernel_rfl) (by kernel_rfl) ?_; intro w5 hz hs hg; have BK5 := Aside0.mk hz; have HB5 := Aside0.mk (pw_below_grown HB4.out (some g2) HB4.out.size hg (fun k e => by cases e; exact HW3.out)); clear hz hs hg))
    refine bodyPost_ret (results_ct rfl _ _ g2 23 ((List.replicate 32 (0 : Int)).map (Value.int .u8)).toArray (0, 0) _ rfl BK5.out Tryd.underlying23 rfl (by kernel_rfl)) rfl ?_
    exact ⟨by rw [HR.out]; rfl, HB5.out⟩
  obtain ⟨l, hl⟩ : ∃ l, l = s.data.toList := ⟨_, rfl⟩
  have hll : l.length = 64 := by rw [hl, size_list]; exact hs
  have hget : ∀ (i : Nat) (h : i < s.size), s[i] = l.getD i 0 := fun i h => by
    rw [hl]
    have h' : i < s.data.toList.length := by rw [size_list]; exact h
    rw [List.getD_eq_getElem?_getD, List.getElem?_eq_getElem h', Option.getD_some, Array.getElem_toList]
    rfl
  rw [← hl]
  have HL := Aside0.mk hll
  have HG := Aside0.mk hget
  have HS := Aside0.mk hs
  have h1 : ((s.size : Int) != 64) = false := by rw [hs]; rfl
  have h2 : ((s.size : Int) == 64) = true := by rw [hs]; rfl
  clear hs hl hll hget
  go_enter Tryd.func27, Tryd.ntmps27
  go_wp2_with (first | ((with_reducible refine gate_dst (N := 2) rfl ?_); refine box_event ?hg (N := 2) ?hd (cs := #[.int .u8 0, .int .u8 0, .int .u8 0, .int .u8 0, .int .u8 0, .int .u8 0, .int .u8 0, .int .u8 0, .int .u8 0, .int .u8 0, .int .u8 0, .int .u8 0, .int .u8 0, .int .u8 0, .int .u8 0, .int .u8 0, .int .u8 0, .int .u8 0, .int .u8 0, .int .u8 0, .int .u8 0, .int .u8 0, .int .u8 0, .int .u8 0, .int .u8 0, .int .u8 0, .int .u8 0, .int .u8 0, .int .u8 0, .int .u8 0, .int .u8 0, .int .u8 0]) (t := 23) ?hr ?_; (case hd => rfl); (case hg => rfl); (case hr => first | (go_simp; done) | (go_simp; rfl)); intro g2 hg w3 hbox hb; have HB3 := Aside0.mk (below_step HB.out hb); have HW3 := Aside0.mk (show w.heap.size ≤ g2 by rw [hg]; exact Nat.le_refl _); have BK3 := Aside0.mk hbox; clear HB hbox hb hg) | ((with_reducible refine gate_dst (N := 4) rfl ?_); refine box_event ?hg2 (N := 4) ?hd2 (cs := #[.int .u8 0, .int .u8 0, .int .u8 0, .int .u8 0, .int .u8 0, .int .u8 0, .int .u8 0, .int .u8 0, .int .u8 0, .int .u8 0, .int .u8 0, .int .u8 0, .int .u8 0, .int .u8 0, .int .u8 0, .int .u8 0, .int .u8 0, .int .u8 0, .int .u8 0, .int .u8 0, .int .u8 0, .int .u8 0, .int .u8 0, .int .u8 0, .int .u8 0, .int .u8 0, .int .u8 0, .int .u8 0, .int .u8 0, .int .u8 0, .int .u8 0, .int .u8 0]) (t := 23) ?hr2 ?_; (case hd2 => rfl); (case hg2 => rfl); (case hr2 => first | (go_simp; done) | (go_simp; rfl)); intro g4 hg w4 hbox hb; have HB4 := Aside0.mk (below_step HB3.out hb); have BK4 := Aside0.mk (blk_below BK3.out hb); have HN4 := Aside0.mk (show g2 ≠ g4 by rw [hg]; exact fun e => by have := blk_lt BK3.out; omega); have HW4 := Aside0.mk (show w.heap.size ≤ g4 by rw [hg]; exact HB3.out.size); have BH4 := Aside0.mk (show w4.heap[g4]? = some (.cells ((part l (2 * 0)).map (Value.int .u8)).toArray 23 (0, 0)) by rw [part_zero]; exact hbox); clear HB3 BK3 hbox hb hg))
  go_loopg [5] 33 (fun kq v5 w' => ∃ i : Nat, v5 = .int .i64 (i : Int) ∧ Aside0 (i ≤ 32) ∧ Aside0 (kq = 33 - i) ∧ Aside0 (good l (2 * i)) ∧ Aside0 (w'.heap[g2]? = some (.cells #[.int .u8 0, .int .u8 0, .int .u8 0, .int .u8 0, .int .u8 0, .int .u8 0, .int .u8 0, .int .u8 0, .int .u8 0, .int .u8 0, .int .u8 0, .int .u8 0, .int .u8 0, .int .u8 0, .int .u8 0, .int .u8 0, .int .u8 0, .int .u8 0, .int .u8 0, .int .u8 0, .int .u8 0, .int .u8 0, .int .u8 0, .int .u8 0, .int .u8 0, .int .u8 0, .int .u8 0, .int .u8 0, .int .u8 0, .int .u8 0, .int .u8 0, .int .u8 0] 23 (0, 0))) ∧ Aside0 (w'.heap[g4]? = some (.cells ((part l (2 * i)).map (Value.int .u8)).toArray 23 (0, 0))) ∧ Aside0 (Below w.heap.size w w'))
  case atStart => exact ⟨0, rfl, ⟨by omega⟩, ⟨rfl⟩, ⟨fun j hj => by omega⟩, BK4, BH4, HB4⟩
  case round =>
    clear BK4 BH4 HB4
    obtain ⟨i, rfl, HI, HK, HGD, BK, BH, HB⟩ := hrel
    by_cases hi : i < 32
    case neg =>
      obtain rfl : i = 32 := by have := HI.out; omega
      have hc := row23 (part_len l (2 * 32)) BH.out
      have HR : Aside0 (hparse l = (part l 64, true)) := ⟨by unfold hparse; rw [if_pos ⟨HL.out, HGD.out⟩]⟩
      go_wp2_with (refine Go.Proofs.YtmoecidfmgeafaaDoor.PutW.store_event rfl rfl 23 (.tmp 2) (.tmp 59) rfl (g := g2) (cells := ((part l (2 * 32)).map (Value.int .u8)).toArray) rfl rfl BK.out (part_sz l 64).symm (sz23 (part_len l 64)) (one23 _) ?_; intro w5 hz hs hg; have BK5 := Aside0.mk hz; have HB5 := Aside0.mk (pw_below_grown HB.out (some g2) HB.out.size hg (fun k e => by cases e; exact HW3.out)); clear hz hs hg)
      refine bodyPost_ret (results_ct rfl _ _ g2 23 ((part l (2 * 32)).map (Value.int .u8)).toArray (0, 0) _ rfl BK5.out Tryd.underlying23 rfl (sz23 (part_len l 64))) rfl ?_
      exact ⟨by rw [HR.out]; rfl, HB5.out⟩
    have HII := Aside0.mk hi
    have c0 := decide_eq_true (show (i : Int) < 32 by omega)
    clear hi
    go_wp2
    go_loopg [6, 7] 3 (fun kq2 v6 v7 w' => ∃ k : Nat, v6 = .int .i64 (val l i k) ∧ v7 = .int .i64 (k : Int) ∧ Aside0 (k ≤ 2) ∧ Aside0 (kq2 = 3 - k) ∧ Aside0 (good l (2 * i + k)) ∧ Aside0 (w'.heap[g2]? = some (.cells #[.int .u8 0, .int .u8 0, .int .u8 0, .int .u8 0, .int .u8 0, .int .u8 0, .int .u8 0, .int .u8 0, .int .u8 0, .int .u8 0, .int .u8 0, .int .u8 0, .int .u8 0, .int .u8 0, .int .u8 0, .int .u8 0, .int .u8 0, .int .u8 0, .int .u8 0, .int .u8 0, .int .u8 0, .int .u8 0, .int .u8 0, .int .u8 0, .int .u8 0, .int .u8 0, .int .u8 0, .int .u8 0, .int .u8 0, .int .u8 0, .int .u8 0, .int .u8 0] 23 (0, 0))) ∧ Aside0 (w'.heap[g4]? = some (.cells ((part l (2 * i)).map (Value.int .u8)).toArray 23 (0, 0))) ∧ Aside0 (Below w.heap.size w w'))
    case atStart => exact ⟨0, rfl, rfl, ⟨by omega⟩, ⟨rfl⟩, HGD, BK, BH, HB⟩
    case round =>
      clear HGD BK BH HB
      obtain ⟨k, rfl, rfl, HKI, HKK, HGD, BK, BH, HB⟩ := hrel
      by_cases hk : k < 2
      case neg =>
        obtain rfl : k = 2 := by have := HKI.out; omega
        have HVB := Aside0.mk (val_bound l i 2 (Nat.le_refl _) HGD.out)
        obtain ⟨v, hv⟩ : ∃ v, v = val l i 2 := ⟨_, rfl⟩
        rw [← hv] at HVB ⊢
        have HV := Aside0.mk (show v = 16 * nib (l.getD (2 * i) 0) + nib (l.getD (2 * i + 1) 0) from hv)
        obtain ⟨a, ha⟩ : ∃ a : Nat, a = 31 - i := ⟨_, rfl⟩
        have d2 : wrap64 (31 - (i : Int)) = (a : Int) := by have := HII.out; rw [ha]; unfold wrap64; omega
        have a1 := eq_true (show (0 : Int) ≤ (a : Int) by omega)
        have a2 := eq_true (show (a : Int) < 32 by omega)
        have a3 := eq_true (show a < 32 by omega)
        have HA := Aside0.mk ha
        have hb31 : 31 - i < (part l (2 * i)).length := by rw [part_len]; omega
        have hcell : wr.cell? ⟨g4, a, none⟩ = some (.int .u8 ((part l (2 * i))[31 - i]'hb31)) := by
          rw [blk_cell BH.out a, ha]
          simp only [List.getElem?_toArray, List.getElem?_map]
          rw [List.getElem?_eq_getElem hb31]
          rfl
        have hfz := blk_frozen BH.out a
        have dv : v % 256 = v := by have := HVB.out; omega
        clear hv ha
        go_wp2
        have hb2 : (wr.setCell ⟨g4, a, none⟩ (Value.int .u8 v)).heap[g4]? = some (.cells ((part l (2 * (i + 1))).map (Value.int .u8)).toArray 23 (0, 0)) := by
          have hb := BH.out
          rw [part_step2 l i HII.out, ← HA.out, ← HV.out]
          simp [World.setCell, Array.getElem?_modify, hb, List.map_set]
        have hb3 : (wr.setCell ⟨g4, a, none⟩ (Value.int .u8 v)).heap[g2]? = some (.cells #[.int .u8 0, .int .u8 0, .int .u8 0, .int .u8 0, .int .u8 0, .int .u8 0, .int .u8 0, .int .u8 0, .int .u8 0, .int .u8 0, .int .u8 0, .int .u8 0, .int .u8 0, .int .u8 0, .int .u8 0, .int .u8 0, .int .u8 0, .int .u8 0, .int .u8 0, .int .u8 0, .int .u8 0, .int .u8 0, .int .u8 0, .int .u8 0, .int .u8 0, .int .u8 0, .int .u8 0, .int .u8 0, .int .u8 0, .int .u8 0, .int .u8 0, .int .u8 0] 23 (0, 0)) := by
          have hb := BK.out
          have hne := HN4.out
          simp [World.setCell, Array.getElem?_modify, hb, Ne.symm hne]
        go_roundg (32 - i)
        case measure => have := HK.out; have := HII.out; omega
        case rel => exact ⟨i + 1, by have := HII.out; rw [show wrap64 ((i : Int) + 1) = ((i + 1 : Nat) : Int) by unfold wrap64; omega], ⟨by have := HII.out; omega⟩, ⟨by omega⟩, ⟨by have := HGD.out; exact this⟩, ⟨hb3⟩, ⟨hb2⟩, ⟨HB.out.setCell (p := ⟨g4, a, none⟩) HW4.out _⟩⟩
      obtain ⟨c, hc⟩ : ∃ c, c = l.getD (2 * i + k) 0 := ⟨_, rfl⟩
      have hsi : 2 * i + k < s.size := by have := HII.out; rw [HS.out]; omega
      have hget : s[2 * i + k] = c := by rw [hc]; exact HG.out _ hsi
      have HKL := Aside0.mk hk
      obtain ⟨e, he⟩ : ∃ e : Nat, e = 2 * i + k := ⟨_, rfl⟩
      have hget2 : ∀ h : e < s.size, s[e] = c := by subst he; exact fun _ => hget
      have d1 : wrap64 (wrap64 (2 * (i : Int)) + (k : Int)) = (e : Int) := by have := HII.out; rw [he]; unfold wrap64; omega
      have d2 : wrap64 (2 * (i : Int) + (k : Int)) = (e : Int) := by have := HII.out; rw [he]; unfold wrap64; omega
      have p1 := eq_true (show (0 : Int) ≤ (e : Int) by omega)
      have p2 := eq_true (show (e : Int) < (s.size : Int) by omega)
      have p4 := eq_true (show e < s.size by omega)
      have k1 := decide_eq_true (show (k : Int) < 2 by omega)
      have hse : e < s.size := by omega
      have hgetE := hget2 hse
      have HEE := Aside0.mk he
      have HVB := Aside0.mk (val_bound l i k (by omega) HGD.out)
      have HVS := Aside0.mk (val_step l i k hk)
      obtain ⟨v, hv⟩ : ∃ v, v = val l i k := ⟨_, rfl⟩
      rw [← hv] at HVB HVS ⊢
      have HC := Aside0.mk hc
      have HNR := Aside0.mk (nib_ranges c)
      rw [← hc] at HVS
      clear hv hc hk hsi hget hget2 he
      obtain ⟨x, hx⟩ : ∃ x : Int, x = ((c.toNat : Nat) : Int) := ⟨_, rfl⟩
      have HX := Aside0.mk (show 0 ≤ x ∧ x < 256 by have := c.toNat_lt; omega)
      have hxc : wrap64 ((c.toNat : Nat) : Int) = x := by have := HX.out; rw [← hx]; unfold wrap64; omega
      have HNR2 := Aside0.mk (show ((48 ≤ x ∧ x ≤ 57) ∧ nib c = x - 48) ∨ ((97 ≤ x ∧ x ≤ 102) ∧ nib c = x - 87) ∨ (¬ (48 ≤ x ∧ x ≤ 57) ∧ ¬ (97 ≤ x ∧ x ≤ 102) ∧ nib c < 0) by
        rcases HNR.out with ⟨h3, h4⟩ | ⟨h3, h4⟩ | ⟨h3, h4, h5⟩
        · exact .inl ⟨by omega, by rw [hx]; exact h4⟩
        · exact .inr (.inl ⟨by omega, by rw [hx]; exact h4⟩)
        · exact .inr (.inr ⟨by omega, by omega, h5⟩))
      clear HNR hx
      have s1 : wrap64 (16 * v) = 16 * v := by have := HVB.out; unfold wrap64; omega
      have s2 : wrap64 (16 * v + x) = 16 * v + x := by have := HVB.out; have := HX.out; unfold wrap64; omega
      rcases HNR2.out with ⟨h3, h4⟩ | ⟨h3, h4⟩ | ⟨h3, h4, h5⟩
      · clear HNR2
        have HNX := Aside0.mk h4
        have Q := Aside0.mk h3
        obtain ⟨v2, hv2⟩ : ∃ v2, v2 = 16 * v + (x - 48) := ⟨_, rfl⟩
        have HV2 := Aside0.mk hv2
        have s3 : wrap64 (16 * v + x - 48) = v2 := by have := HVB.out; have := HX.out; rw [hv2]; unfold wrap64; omega
        have q1 := eq_true h3.1
        have q2 := eq_true h3.2
        clear h3 h4 hv2
        go_wp2
        have hgood : good l (2 * i + (k + 1)) := fun j hj => by
          by_cases ej : j = 2 * i + k
          · rw [ej, ← HC.out, HNX.out]; have := Q.out; omega
          · exact HGD.out j (by omega)
        have hv2 : v2 = val l i (k + 1) := by rw [HVS.out, HNX.out]; exact HV2.out
        go_roundg (2 - k)
        case measure => have := HKK.out; have := HKL.out; omega
        case rel => exact ⟨k + 1, by rw [s3, hv2], by have := HKL.out; rw [show wrap64 ((k : Int) + 1) = ((k + 1 : Nat) : Int) by unfold wrap64; omega], ⟨by have := HKL.out; omega⟩, ⟨by omega⟩, ⟨hgood⟩, BK, BH, HB⟩
      · clear HNR2
        have HNX := Aside0.mk h4
        have Q := Aside0.mk h3
        obtain ⟨v2, hv2⟩ : ∃ v2, v2 = 16 * v + (x - 87) := ⟨_, rfl⟩
        have HV2 := Aside0.mk hv2
        have s3 : wrap64 (16 * v + x - 97) = 16 * v + x - 97 := by have := HVB.out; have := HX.out; unfold wrap64; omega
        have s4 : wrap64 (16 * v + x - 97 + 10) = v2 := by have := HVB.out; have := HX.out; rw [hv2]; unfold wrap64; omega
        have q0 := eq_true (show 48 ≤ x by omega)
        have q1 := eq_false (show ¬ x ≤ 57 by omega)
        have q2 := eq_true (show 57 < x by omega)
        have q3 := eq_true h3.1
        have q4 := eq_true h3.2
        clear h3 h4 hv2
        go_wp2
        have hgood : good l (2 * i + (k + 1)) := fun j hj => by
          by_cases ej : j = 2 * i + k
          · rw [ej, ← HC.out, HNX.out]; have := Q.out; omega
          · exact HGD.out j (by omega)
        have hv2 : v2 = val l i (k + 1) := by rw [HVS.out, HNX.out]; exact HV2.out
        go_roundg (2 - k)
        case measure => have := HKK.out; have := HKL.out; omega
        case rel => exact ⟨k + 1, by rw [s4, hv2], by have := HKL.out; rw [show wrap64 ((k : Int) + 1) = ((k + 1 : Nat) : Int) by unfold wrap64; omega], ⟨by have := HKL.out; omega⟩, ⟨by omega⟩, ⟨hgood⟩, BK, BH, HB⟩
      · clear HNR2
        have HR : Aside0 (hparse l = (List.replicate 32 0, false)) := ⟨by
          unfold hparse
          rw [if_neg]
          rintro ⟨_, hg⟩
          have := hg (2 * i + k) (by have := HII.out; have := HKL.out; omega)
          rw [← HC.out] at this
          omega⟩
        clear h5
        rcases (show x < 48 ∨ (57 < x ∧ x < 97) ∨ 102 < x by omega) with h6 | h6 | h6
        · have q1 := eq_false (show ¬ 48 ≤ x by omega)
          have q2 := eq_true h6
          have q3 := eq_false (show ¬ 97 ≤ x by omega)
          have q4 := eq_true (show x < 97 by omega)
          clear h3 h4 h6
          go_wp2_with (refine Go.Proofs.YtmoecidfmgeafaaDoor.PutW.store_event rfl rfl 23 (.tmp 2) (.tmp 28) rfl (g := g2) (cells := #[.int .u8 0, .int .u8 0, .int .u8 0, .int .u8 0, .int .u8 0, .int .u8 0, .int .u8 0, .int .u8 0, .int .u8 0, .int .u8 0, .int .u8 0, .int .u8 0, .int .u8 0, .int .u8 0, .int .u8 0, .int .u8 0, .int .u8 0, .int .u8 0, .int .u8 0, .int .u8 0, .int .u8 0, .int .u8 0, .int .u8 0, .int .u8 0, .int .u8 0, .int .u8 0, .int .u8 0, .int .u8 0, .int .u8 0, .int .u8 0, .int .u8 0, .int .u8 0]) rfl rfl BK.out rfl (by kernel_rfl) (by kernel_rfl) ?_; intro w5 hz hs hg; have BK5 := Aside0.mk hz; have HB5 := Aside0.mk (pw_below_grown HB.out (some g2) HB.out.size hg (fun k e => by cases e; exact HW3.out)); clear hz hs hg)
          refine bodyPost_ret (results_ct rfl _ _ g2 23 #[.int .u8 0, .int .u8 0, .int .u8 0, .int .u8 0, .int .u8 0, .int .u8 0, .int .u8 0, .int .u8 0, .int .u8 0, .int .u8 0, .int .u8 0, .int .u8 0, .int .u8 0, .int .u8 0, .int .u8 0, .int .u8 0, .int .u8 0, .int .u8 0, .int .u8 0, .int .u8 0, .int .u8 0, .int .u8 0, .int .u8 0, .int .u8 0, .int .u8 0, .int .u8 0, .int .u8 0, .int .u8 0, .int .u8 0, .int .u8 0, .int .u8 0, .int .u8 0] (0, 0) _ rfl BK5.out Tryd.underlying23 rfl (by kernel_rfl)) rfl ?_
          exact ⟨by rw [HR.out]; rfl, HB5.out⟩
        · have q1 := eq_true (show 48 ≤ x by omega)
          have q2 := eq_false (show ¬ x ≤ 57 by omega)
          have q5 := eq_true h6.1
          have q3 := eq_false (show ¬ 97 ≤ x by omega)
          have q4 := eq_true h6.2
          clear h3 h4 h6
          go_wp2_with (refine Go.Proofs.YtmoecidfmgeafaaDoor.PutW.store_event rfl rfl 23 (.tmp 2) (.tmp 28) rfl (g := g2) (cells := #[.int .u8 0, .int .u8 0, .int .u8 0, .int .u8 0, .int .u8 0, .int .u8 0, .int .u8 0, .int .u8 0, .int .u8 0, .int .u8 0, .int .u8 0, .int .u8 0, .int .u8 0, .int .u8 0, .int .u8 0, .int .u8 0, .int .u8 0, .int .u8 0, .int .u8 0, .int .u8 0, .int .u8 0, .int .u8 0, .int .u8 0, .int .u8 0, .int .u8 0, .int .u8 0, .int .u8 0, .int .u8 0, .int .u8 0, .int .u8 0, .int .u8 0, .int .u8 0]) rfl rfl BK.out rfl (by kernel_rfl) (by kernel_rfl) ?_; intro w5 hz hs hg; have BK5 := Aside0.mk hz; have HB5 := Aside0.mk (pw_below_grown HB.out (some g2) HB.out.size hg (fun k e => by cases e; exact HW3.out)); clear hz hs hg)
          refine bodyPost_ret (results_ct rfl _ _ g2 23 #[.int .u8 0, .int .u8 0, .int .u8 0, .int .u8 0, .int .u8 0, .int .u8 0, .int .u8 0, .int .u8 0, .int .u8 0, .int .u8 0, .int .u8 0, .int .u8 0, .int .u8 0, .int .u8 0, .int .u8 0, .int .u8 0, .int .u8 0, .int .u8 0, .int .u8 0, .int .u8 0, .int .u8 0, .int .u8 0, .int .u8 0, .int .u8 0, .int .u8 0, .int .u8 0, .int .u8 0, .int .u8 0, .int .u8 0, .int .u8 0, .int .u8 0, .int .u8 0] (0, 0) _ rfl BK5.out Tryd.underlying23 rfl (by kernel_rfl)) rfl ?_
          exact ⟨by rw [HR.out]; rfl, HB5.out⟩
        · have q1 := eq_true (show 48 ≤ x by omega)
          have q2 := eq_false (show ¬ x ≤ 57 by omega)
          have q5 := eq_true (show 57 < x by omega)
          have q3 := eq_true (show 97 ≤ x by omega)
          have q4 := eq_false (show ¬ x ≤ 102 by omega)
          have q6 := eq_true h6
          clear h3 h4 h6
          go_wp2_with (refine Go.Proofs.YtmoecidfmgeafaaDoor.PutW.store_event rfl rfl 23 (.tmp 2) (.tmp 28) rfl (g := g2) (cells := #[.int .u8 0, .int .u8 0, .int .u8 0, .int .u8 0, .int .u8 0, .int .u8 0, .int .u8 0, .int .u8 0, .int .u8 0, .int .u8 0, .int .u8 0, .int .u8 0, .int .u8 0, .int .u8 0, .int .u8 0, .int .u8 0, .int .u8 0, .int .u8 0, .int .u8 0, .int .u8 0, .int .u8 0, .int .u8 0, .int .u8 0, .int .u8 0, .int .u8 0, .int .u8 0, .int .u8 0, .int .u8 0, .int .u8 0, .int .u8 0, .int .u8 0, .int .u8 0]) rfl rfl BK.out rfl (by kernel_rfl) (by kernel_rfl) ?_; intro w5 hz hs hg; have BK5 := Aside0.mk hz; have HB5 := Aside0.mk (pw_below_grown HB.out (some g2) HB.out.size hg (fun k e => by cases e; exact HW3.out)); clear hz hs hg)
          refine bodyPost_ret (results_ct rfl _ _ g2 23 #[.int .u8 0, .int .u8 0, .int .u8 0, .int .u8 0, .int .u8 0, .int .u8 0, .int .u8 0, .int .u8 0, .int .u8 0, .int .u8 0, .int .u8 0, .int .u8 0, .int .u8 0, .int .u8 0, .int .u8 0, .int .u8 0, .int .u8 0, .int .u8 0, .int .u8 0, .int .u8 0, .int .u8 0, .int .u8 0, .int .u8 0, .int .u8 0, .int .u8 0, .int .u8 0, .int .u8 0, .int .u8 0, .int .u8 0, .int .u8 0, .int .u8 0, .int .u8 0] (0, 0) _ rfl BK5.out Tryd.underlying23 rfl (by kernel_rfl)) rfl ?_
          exact ⟨by rw [HR.out]; rfl, HB5.out⟩
end Go.Proofs.YtmoecidfmgeafaaDoor.Txt
