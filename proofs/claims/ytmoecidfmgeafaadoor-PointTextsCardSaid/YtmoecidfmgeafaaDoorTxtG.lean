/- A text as an outpoint: what point.Parse answers, at every text. -/
import Derived.Test.YtmoecidfmgeafaaDoorTxtE
import Derived.Test.YtmoecidfmgeafaaDoorDecD
import Derived.Lib.AtoiErrMem
import Derived.Lib.Bytes
namespace Go.Proofs.YtmoecidfmgeafaaDoor.Txt
open Go.RowKit Go.Proofs.YtmoecidfmgeafaaDoor.QPnt Go.Proofs.YtmoecidfmgeafaaDoorW.PrintWords Go.Proofs.YtmoecidfmgeafaaDoorW.PrintLast Go.Proofs.YtmoecidfmgeafaaDoorW.PrintMore
set_option linter.unusedVariables false
set_option linter.unusedSimpArgs false
/-! ### An outpoint as a text -/
def hashB (x : S25) : ByteArray := ⟨(htext (bsO x)).toArray⟩
def numB (x : S25) : ByteArray := ⟨(Lib.decDigits x.f1.toNat).toArray⟩
def pt (x : S25) : ByteArray := if x.f1 < 0 then ⟨#[]⟩ else if x.f1 > 99 then ⟨#[]⟩ else hashB x ++ ⟨#[58]⟩ ++ numB x
theorem dec_len (n : Nat) (h : n < 100) : (Lib.decDigits n).length ≤ 2 := by
  have hh : ∀ n : Fin 100, (Lib.decDigits n.val).length ≤ 2 := by decide +kernel
  exact hh ⟨n, h⟩
theorem hashB_size (x : S25) : (hashB x).size ≤ 64 := by
  show (htext (bsO x)).toArray.size ≤ 64
  rw [List.size_toArray, htext_len]
  exact Nat.le_refl _
theorem dec_calls (n : Nat) (h : n < 100) (w : World) : Calls Tryd.prog 31 #[.int .i64 (n : Int)] w fun e w' => e = .returned (.string ⟨(Lib.decDigits n).toArray⟩) ∧ Below w.heap.size w w' := by
  have hh : ∀ n : Fin 100, coracleref1_Decimal.f 10 ((n.val : Nat) : Int) = some ⟨(Lib.decDigits n.val).toArray⟩ := by decide +kernel
  exact coracleref1_Decimal.calls 10 n _ w (hh ⟨n, h⟩)
theorem itoa_calls (n : Nat) (h : n < 100) (w : World) : Calls Tryd.prog 29 #[.int .i64 (n : Int)] w fun e w' => e = .returned (.string ⟨(Lib.decDigits n).toArray⟩) ∧ Below w.heap.size w w' := by
  have h1 := Go.Proofs.Any.strconv_Itoa_small Go.Proofs.YtmoecidfmgeafaaDoor.LayT.itoa n h w
  exact Calls.mono h1 (fun e w' hh => ⟨hh.1, by rw [hh.2]; exact Below.refl _ _⟩)
theorem numB_size (x : S25) : x.f1 < 0 ∨ x.f1 > 99 ∨ (numB x).size ≤ 64 := by
  by_cases h0 : x.f1 < 0
  · exact .inl h0
  by_cases h1 : x.f1 > 99
  · exact .inr (.inl h1)
  · refine .inr (.inr ?_)
    show (Lib.decDigits x.f1.toNat).toArray.size ≤ 64
    rw [List.size_toArray]
    have := dec_len x.f1.toNat (by omega)
    omega
theorem ptext10 (x : S25) (hw : wfO x) (w : World) : Calls Tryd.prog 10 #[.agg (encO x).toArray] w fun e w' => e = .returned (.string (pt x)) ∧ Below w.heap.size w w' := by
  rcases numB_size x with h | h | h
  · have h1 := ptxt10 x (hashB x) ⟨#[]⟩ (hashB_size x) (by decide) (fun w => text (bsO x) rfl hw w) (fun h0 => by omega) w
    rw [if_pos h] at h1
    unfold pt
    rw [if_pos h]
    exact h1
  · have h1 := ptxt10 x (hashB x) ⟨#[]⟩ (hashB_size x) (by decide) (fun w => text (bsO x) rfl hw w) (fun _ h9 => by omega) w
    rw [if_neg (by omega), if_pos h] at h1
    unfold pt
    rw [if_neg (by omega), if_pos h]
    exact h1
  · exact ptxt10 x (hashB x) (numB x) (hashB_size x) h (fun w => text (bsO x) rfl hw w) (fun h0 h9 w => by
      have hh := itoa_calls x.f1.toNat (by omega) w
      rw [Int.toNat_of_nonneg h0] at hh
      exact hh) w
theorem ptext11 (x : S25) (hw : wfO x) (w : World) : Calls Tryd.prog 11 #[.agg (encO x).toArray] w fun e w' => e = .returned (.string (pt x)) ∧ Below w.heap.size w w' := by
  rcases numB_size x with h | h | h
  · have h1 := ptxt11 x (hashB x) ⟨#[]⟩ (hashB_size x) (by decide) (fun w => rtext (bsO x) rfl hw w) (fun h0 => by omega) w
    rw [if_pos h] at h1
    unfold pt
    rw [if_pos h]
    exact h1
  · have h1 := ptxt11 x (hashB x) ⟨#[]⟩ (hashB_size x) (by decide) (fun w => rtext (bsO x) rfl hw w) (fun _ h9 => by omega) w
    rw [if_neg (by omega), if_pos h] at h1
    unfold pt
    rw [if_neg (by omega), if_pos h]
    exact h1
  · exact ptxt11 x (hashB x) (numB x) (hashB_size x) h (fun w => rtext (bsO x) rfl hw w) (fun h0 h9 w => by
      have hh := dec_calls x.f1.toNat (by omega) w
      rw [Int.toNat_of_nonneg h0] at hh
      exact hh) w
/-! ### A text as a number -/
/-- The number that a text spells; none, where it spells none that an int holds. -/
def numR (s : ByteArray) : Option Int := match Lib.atoiAll s.data.toList with | .ok v => some v | _ => none
/-- What the two variables of errors hold. -/
def Errs (w : World) : Prop := (∃ ev, w.cell? ⟨1, 0, none⟩ = some ev ∧ (ev = .nilIface ∨ ∃ te pe, ev = .iface te pe)) ∧ ∃ ev, w.cell? ⟨2, 0, none⟩ = some ev ∧ (ev = .nilIface ∨ ∃ te pe, ev = .iface te pe)
theorem Errs.below {w w1 : World} (h : Errs w) (hb : Below w.heap.size w w1) : Errs w1 := by
  obtain ⟨⟨e1, h1, h2⟩, e2, h3, h4⟩ := h
  exact ⟨⟨e1, (hb.cell (Lib.lt_of_cell h1)).trans h1, h2⟩, e2, (hb.cell (Lib.lt_of_cell h3)).trans h3, h4⟩
theorem atoi_calls (s : ByteArray) (hs : s.size ≤ 1000) (w : World) (he : Errs w) : Calls Tryd.prog 25 #[.string s] w fun e w' => ∃ (v : Int) (ev : Value), e = .returned (.tuple #[.int .i64 v, ev]) ∧ Below w.heap.size w w' ∧ ((numR s = some v ∧ ev = .nilIface) ∨ (numR s = none ∧ ∃ t p, ev = .iface t p)) := by
  obtain ⟨⟨e1, h1, h2⟩, e2, h3, h4⟩ := he
  unfold numR
  cases hc : Lib.atoiAll s.data.toList
  case ok v =>
    refine Calls.mono (Go.Proofs.Any.strconv_Atoi_ok Go.Proofs.YtmoecidfmgeafaaDoor.LayT.atoiC s (by omega) v hc w) ?_
    rintro e w' ⟨rfl, hw⟩
    refine ⟨v, .nilIface, rfl, ?_, .inl ⟨rfl, rfl⟩⟩
    rcases hw with rfl | ⟨t, rfl⟩
    · exact Below.refl _ _
    · exact Lib.bytesWorld_below _ _ _
  case range =>
    refine Calls.mono (Go.Proofs.Any.strconv_Atoi_range Go.Proofs.YtmoecidfmgeafaaDoor.LayT.atoiC s (by omega) hc e2 w h3 h4) ?_
    rintro e w' ⟨n, rfl, _, _, hb⟩
    exact ⟨_, _, rfl, hb, .inr ⟨rfl, _, _, rfl⟩⟩
  · refine Calls.mono (Go.Proofs.Any.strconv_Atoi_syntax Go.Proofs.YtmoecidfmgeafaaDoor.LayT.atoiC s (by omega) hc e1 w h1 h2) ?_
    rintro e w' ⟨n, rfl, _, _, hb⟩
    exact ⟨_, _, rfl, hb, .inr ⟨rfl, _, _, rfl⟩⟩
end Go.Proofs.YtmoecidfmgeafaaDoor.Txt

namespace Go.Proofs.YtmoecidfmgeafaaDoor.Txt
open Go.RowKit Go.Proofs.YtmoecidfmgeafaaDoor.QPnt Go.Proofs.YtmoecidfmgeafaaDoorW.PrintWords Go.Proofs.YtmoecidfmgeafaaDoorW.PrintLast Go.Proofs.YtmoecidfmgeafaaDoorW.PrintMore
attribute [local go_sem] Go.Proofs.YtmoecidfmgeafaaDoor.Wide.cellsAt_drewN Go.Proofs.YtmoecidfmgeafaaDoor.Wide.cellsAt_drew Go.Proofs.YtmoecidfmgeafaaDoor.Wide.lw32 Go.Proofs.YtmoecidfmgeafaaDoor.Wide.lw33
attribute [local go_sem ↓ high] Go.Proofs.YtmoecidfmgeafaaDoor.Wide.hv32 Go.Proofs.YtmoecidfmgeafaaDoor.Wide.hv33
set_option linter.unusedVariables false
set_option linter.unusedSimpArgs false
/-- An outpoint of a hash's bytes and a number. -/
def ofL (h : List Int) (v : Int) : S25 := ⟨⟨h.getD 0 0, h.getD 1 0, h.getD 2 0, h.getD 3 0, h.getD 4 0, h.getD 5 0, h.getD 6 0, h.getD 7 0, h.getD 8 0, h.getD 9 0, h.getD 10 0, h.getD 11 0, h.getD 12 0, h.getD 13 0, h.getD 14 0, h.getD 15 0, h.getD 16 0, h.getD 17 0, h.getD 18 0, h.getD 19 0, h.getD 20 0, h.getD 21 0, h.getD 22 0, h.getD 23 0, h.getD 24 0, h.getD 25 0, h.getD 26 0, h.getD 27 0, h.getD 28 0, h.getD 29 0, h.getD 30 0, h.getD 31 0⟩, v⟩
theorem bs_ofL (h : List Int) (hl : h.length = 32) (v : Int) : bsO (ofL h v) = h := by
  have e : bsO (ofL h v) = (List.range 32).map (fun j => h.getD j 0) := rfl
  rw [e]
  apply List.ext_getElem
  · simp [hl]
  · intro i h1 h2
    simp [List.getD_eq_getElem?_getD, h2]
theorem enc_ofL (h : List Int) (hl : h.length = 32) (v : Int) : encO (ofL h v) = h.map (Value.int .u8) ++ [Value.int .i64 v] := by
  have := encO_eq (ofL h v)
  rw [bs_ofL h hl v] at this
  exact this
theorem hparse_len (l : List UInt8) : (hparse l).1.length = 32 := by
  unfold hparse
  split
  · exact part_len l 64
  · exact List.length_replicate ..
theorem hparse_bytes (l : List UInt8) : ∀ v ∈ (hparse l).1, 0 ≤ v ∧ v < 256 := by
  unfold hparse
  split
  · rename_i h
    intro v hv
    obtain ⟨k, hk, rfl⟩ := List.getElem_of_mem hv
    exact part_bytes l 64 h.2 k (by rw [part_len] at hk; exact hk)
  · intro v hv
    obtain ⟨_, rfl⟩ := List.mem_replicate.1 hv
    decide
theorem idx_lt (c : UInt8) : ∀ l : List UInt8, Lib.indexByte l c < l.length ∨ Lib.indexByte l c = -1
  | [] => .inr rfl
  | b :: l => by
    unfold Lib.indexByte
    by_cases h : (b == c) = true
    · rw [if_pos h]; left; simp only [List.length_cons]; omega
    · rw [if_neg h]
      rcases idx_lt c l with h1 | h1
      · by_cases h2 : (Lib.indexByte l c == -1) = true
        · rw [if_pos h2]; exact .inr rfl
        · rw [if_neg h2]; left; simp only [List.length_cons]; omega
      · rw [h1]; exact .inr rfl
/-- What stands ahead of the first ':', what behind it. -/
def cutOf (s : ByteArray) : ByteArray × ByteArray × Bool := (strings_Cut.f s ⟨#[58]⟩).getD (⟨#[]⟩, ⟨#[]⟩, false)
theorem cut_total (s : ByteArray) (hs : s.size ≤ 1000) : strings_Cut.f s ⟨#[58]⟩ = some (cutOf s) ∧ (cutOf s).2.1.size ≤ 1000 := by
  have hl := size_list s
  have h0 := Lib.indexByte_ge s.data.toList 58
  have key : ∃ r, strings_Cut.f s ⟨#[58]⟩ = some r ∧ r.2.1.size ≤ 1000 := by
    unfold strings_Cut.f stringslite_Cut.f stringslite_Index.f
    rw [if_pos rfl, Option.bind_some]
    by_cases h : Lib.indexByte s.data.toList 58 ≥ 0
    · have h1 : Lib.indexByte s.data.toList 58 < (s.size : Int) := by
        rcases idx_lt 58 s.data.toList with h2 | h2
        · omega
        · omega
      have hone : (((⟨#[58]⟩ : ByteArray).size : Nat) : Int) = 1 := rfl
      have hw : wrap64 (Lib.indexByte s.data.toList 58 + 1) = Lib.indexByte s.data.toList 58 + 1 := by unfold wrap64; omega
      rw [hone, hw, if_pos h, if_pos h, if_pos (by omega), if_pos (by omega), if_pos (by omega), Option.bind_some]
      refine ⟨_, rfl, ?_⟩
      show (s.extract _ s.size).size ≤ 1000
      rw [ByteArray.size_extract]
      omega
    · rw [if_neg h, Option.bind_some]
      exact ⟨_, rfl, by show (0 : Nat) ≤ 1000; omega⟩
  obtain ⟨r, e, hr⟩ := key
  have : cutOf s = r := by unfold cutOf; rw [e]; rfl
  rw [this]
  exact ⟨e, hr⟩
open Classical in
/-- A text as an outpoint. -/
noncomputable def pp (s : ByteArray) : S25 × Bool :=
  match numR (cutOf s).2.1 with
  | some v => if (hparse (cutOf s).1.data.toList).2 = true ∧ pt (ofL (hparse (cutOf s).1.data.toList).1 v) = s then (ofL (hparse (cutOf s).1.data.toList).1 v, true) else (z25, false)
  | none => (z25, false)
theorem over32 (hs : List Int) (hl : hs.length = 32) : some (Obj.cells (Go.Proofs.YtmoecidfmgeafaaDoor.RowK.over (#[.int .u8 0, .int .u8 0, .int .u8 0, .int .u8 0, .int .u8 0, .int .u8 0, .int .u8 0, .int .u8 0, .int .u8 0, .int .u8 0, .int .u8 0, .int .u8 0, .int .u8 0, .int .u8 0, .int .u8 0, .int .u8 0, .int .u8 0, .int .u8 0, .int .u8 0, .int .u8 0, .int .u8 0, .int .u8 0, .int .u8 0, .int .u8 0, .int .u8 0, .int .u8 0, .int .u8 0, .int .u8 0, .int .u8 0, .int .u8 0, .int .u8 0, .int .u8 0, .int .i64 0] : Array Value).toList 0 (hs.map (Value.int .u8)).toArray.toList).toArray 25 (0, 0)) = some (Obj.cells (hs.map (Value.int .u8) ++ [Value.int .i64 0]).toArray 25 (0, 0)) := by
  have : Go.Proofs.YtmoecidfmgeafaaDoor.RowK.over (#[.int .u8 0, .int .u8 0, .int .u8 0, .int .u8 0, .int .u8 0, .int .u8 0, .int .u8 0, .int .u8 0, .int .u8 0, .int .u8 0, .int .u8 0, .int .u8 0, .int .u8 0, .int .u8 0, .int .u8 0, .int .u8 0, .int .u8 0, .int .u8 0, .int .u8 0, .int .u8 0, .int .u8 0, .int .u8 0, .int .u8 0, .int .u8 0, .int .u8 0, .int .u8 0, .int .u8 0, .int .u8 0, .int .u8 0, .int .u8 0, .int .u8 0, .int .u8 0, .int .i64 0] : Array Value).toList 0 (hs.map (Value.int .u8)).toArray.toList = hs.map (Value.int .u8) ++ [Value.int .i64 0] := by
    unfold Go.Proofs.YtmoecidfmgeafaaDoor.RowK.over
    rw [List.take_zero, List.nil_append, List.toList_toArray, List.length_map, hl]
    rfl
  rw [this]
theorem part33 (hs : List Int) (h : hs.length = 32) : 0 + ((hs.map (Value.int .u8)).toArray).size ≤ 33 := by
  rw [List.size_toArray, List.length_map, h]
  decide
theorem sz33 (hs : List Int) (h : hs.length = 32) : 33 = ((hs.map (Value.int .u8) ++ [Value.int .i64 0]).toArray).size := by
  rw [List.size_toArray, List.length_append, List.length_map, h]
  rfl
theorem sz25 (x : S25) : (Tryd.prog.info? 25).map (·.size) = some (encO x).toArray.size := by
  show (Tryd.prog.info? 25).map (·.size) = some 33
  kernel_rfl
theorem one25 (x : S25) : (encO x).toArray.all (·.oneCell') = true := by
  rw [encO_eq x]
  simp [Value.oneCell']
theorem row25 {w : World} {g : Nat} {x : S25} (hb : w.heap[g]? = some (.cells (encO x).toArray 25 (0, 0))) : Go.Proofs.YtmoecidfmgeafaaDoor.Wide.cellsAt w ⟨g, 0, none⟩ 33 = some (encO x) :=
  cells_pre 33 (encO x) [] rfl (by rw [List.append_nil]; exact hb)
theorem put32 {w : World} {g : Nat} {hs : List Int} (hl : hs.length = 32) (v : Int) (hb : w.heap[g]? = some (.cells (hs.map (Value.int .u8) ++ [Value.int .i64 0]).toArray 25 (0, 0))) :
    w.cell? ⟨g, 32, none⟩ = some (.int .i64 0) ∧ (w.setCell ⟨g, 32, none⟩ (.int .i64 v)).heap[g]? = some (.cells (encO (ofL hs v)).toArray 25 (0, 0)) := by
  have h32 : (hs.map (Value.int .u8)).length = 32 := by rw [List.length_map, hl]
  constructor
  · rw [blk_cell hb 32, List.getElem?_toArray, List.getElem?_append_right (by omega), h32]
    rfl
  · rw [enc_ofL hs hl v]
    have e : (hs.map (Value.int .u8) ++ [Value.int .i64 v]) = (hs.map (Value.int .u8) ++ [Value.int .i64 0]).set 32 (Value.int .i64 v) := by
      rw [List.set_append_right _ _ (by omega), h32]
      rfl
    rw [e]
    simp [World.setCell, Array.getElem?_modify, hb]
theorem list_data (s : ByteArray) : s.toList = s.data.toList := by
  have e : s = strOfNums (ints s.data.toList) := by rw [ints_str]
  conv => lhs; rw [e]
  rw [Lib.strOfNums_toList]
  show (ints s.data.toList).map (fun n => UInt8.ofNat n.toNat) = s.data.toList
  unfold ints
  rw [List.map_map]
  have : ((fun n : Int => UInt8.ofNat n.toNat) ∘ fun b : UInt8 => ((b.toNat : Nat) : Int)) = id := by
    funext b
    simp
  rw [this, List.map_id]
theorem list_ne {s t : ByteArray} (h : ¬ s = t) : (s.toList == t.toList) = false := by
  rw [beq_eq_false_iff_ne, list_data, list_data]
  intro e
  apply h
  cases s
  cases t
  simp only at e
  rw [ByteArray.mk.injEq]
  exact Array.toList_inj.1 e
set_option maxHeartbeats 8000000 in
set_option maxRecDepth 100000 in
theorem pparse (s : ByteArray) (hs0 : s.size ≤ 1000) (w : World) (he : Errs w) : Calls Tryd.prog 8 #[.string s] w fun e w' => e = .returned (.tuple #[.agg (encO (pp s).1).toArray, .bool (pp s).2]) ∧ Below w.heap.size w w' := by
  obtain ⟨ct, hsz⟩ := cut_total s hs0
  obtain ⟨r1, r2, r3⟩ : True ∧ True ∧ True := ⟨trivial, trivial, trivial⟩
  obtain ⟨a, b, c, hcut⟩ : ∃ a b c, cutOf s = (a, b, c) := ⟨_, _, _, rfl⟩
  rw [hcut] at ct hsz
  obtain ⟨hs, ok, hpr⟩ : ∃ hs ok, hparse a.data.toList = (hs, ok) := ⟨_, _, rfl⟩
  have hlen : hs.length = 32 := by have := hparse_len a.data.toList; rw [hpr] at this; exact this
  have hbyt : ∀ v ∈ hs, 0 ≤ v ∧ v < 256 := by have := hparse_bytes a.data.toList; rw [hpr] at this; exact this
  have hpp : pp s = match numR b with
      | some v => if ok = true ∧ pt (ofL hs v) = s then (ofL hs v, true) else (z25, false)
      | none => (z25, false) := by
    unfold pp
    rw [hcut, hpr]
  have HCut := Aside0.mk ct
  have HSZ := Aside0.mk hsz
  have HPR := Aside0.mk hpr
  have HH := Aside0.mk hlen
  have HBY := Aside0.mk hbyt
  have HE := Aside0.mk he
  have HB := Aside0.mk (Below.refl w.heap.size w)
  clear r1 r2 r3 ct hsz hpr hlen hbyt he hcut hs0
  cases ok with
  | false =>
    have HR : Aside0 (pp s = (z25, false)) := ⟨by rw [hpp]; cases numR b with
      | none => rfl
      | some v => simp only [Bool.false_eq_true, false_and, if_false]⟩
    clear hpp
    go_enter Tryd.func8, Tryd.ntmps8
    go_wp2_with (first | ((with_reducible refine gate_dst (N := 2) rfl ?_); refine box_event ?hg (N := 2) ?hd (cs := #[.int .u8 0, .int .u8 0, .int .u8 0, .int .u8 0, .int .u8 0, .int .u8 0, .int .u8 0, .int .u8 0, .int .u8 0, .int .u8 0, .int .u8 0, .int .u8 0, .int .u8 0, .int .u8 0, .int .u8 0, .int .u8 0, .int .u8 0, .int .u8 0, .int .u8 0, .int .u8 0, .int .u8 0, .int .u8 0, .int .u8 0, .int .u8 0, .int .u8 0, .int .u8 0, .int .u8 0, .int .u8 0, .int .u8 0, .int .u8 0, .int .u8 0, .int .u8 0, .int .i64 0]) (t := 25) ?hr ?_; (case hd => rfl); (case hg => rfl); (case hr => first | (go_simp; done) | (go_simp; rfl)); intro g2 hg w3 hbox hb; have HB3 := Aside0.mk (below_step HB.out hb); have HG := Aside0.mk (show w.heap.size ≤ g2 by rw [hg]; exact Nat.le_refl _); have BK3 := Aside0.mk hbox; have HE3 := Aside0.mk (HE.out.below hb); clear hbox hb hg) | (go_at_call 24; refine (strings_Cut.calls _ _ _ _ _ w3 HCut.out).mono ?_; rintro e w4 ⟨rfl, hd⟩; have hb := (show Below w3.heap.size w3 w4 by obtain ⟨n, rfl⟩ := hd.out; exact pw_below_drewN (Below.refl _ _) _); have HB4 := Aside0.mk (below_step HB3.out hb); have BK4 := Aside0.mk (blk_below BK3.out hb); have HE4 := Aside0.mk (HE3.out.below hb); clear hd hb HB3 BK3 HE3) | (go_at_call 25; refine (atoi_calls _ HSZ.out w4 HE4.out).mono ?_; rintro e w5 ⟨v9, ev, rfl, hb, hcase⟩; clear hcase; have HB5 := Aside0.mk (below_step HB4.out hb); have BK5 := Aside0.mk (blk_below BK4.out hb); clear hb HB4 BK4 HE4) | (go_at_call 26; refine (sparse _ w5).mono ?_; rintro e w6 ⟨rfl, hb⟩; rw [HPR.out]; have HB6 := Aside0.mk (below_step HB5.out hb); have BK6 := Aside0.mk (blk_below BK5.out hb); have HZ6 := Aside0.mk (Nat.le_trans HB5.out.size hb.size); clear hb HB5 BK5) | (refine Go.Proofs.YtmoecidfmgeafaaDoor.PutW.part_event rfl rfl 23 (.tmp 25) (.tmp 23) rfl (g := g2) (o := 0) (cells := (hs.map (Value.int .u8)).toArray) rfl rfl BK6.out (part33 hs HH.out) (sz23 HH.out) (one23 hs) ?_; intro w7 hz7 hs7 hg7; have HB7 := Aside0.mk (pw_below_grown HB6.out (some g2) HZ6.out hg7 (fun k e => by cases e; exact HG.out)); have HZ7 := Aside0.mk (show w.heap.size ≤ w7.heap.size by rw [hs7]; exact HZ6.out); have BK7 := Aside0.mk (show w7.heap[g2]? = some (.cells (hs.map (Value.int .u8) ++ [Value.int .i64 0]).toArray 25 (0, 0)) by rw [hz7]; exact over32 hs HH.out); clear hz7 hs7 hg7 HB6 BK6 HZ6) | (refine Go.Proofs.YtmoecidfmgeafaaDoor.PutW.store_event rfl rfl 25 (.tmp 2) (.tmp 32) rfl (g := g2) (cells := #[.int .u8 0, .int .u8 0, .int .u8 0, .int .u8 0, .int .u8 0, .int .u8 0, .int .u8 0, .int .u8 0, .int .u8 0, .int .u8 0, .int .u8 0, .int .u8 0, .int .u8 0, .int .u8 0, .int .u8 0, .int .u8 0, .int .u8 0, .int .u8 0, .int .u8 0, .int .u8 0, .int .u8 0, .int .u8 0, .int .u8 0, .int .u8 0, .int .u8 0, .int .u8 0, .int .u8 0, .int .u8 0, .int .u8 0, .int .u8 0, .int .u8 0, .int .u8 0, .int .i64 0]) rfl rfl BK7.out (sz33 hs HH.out) (by kernel_rfl) (by kernel_rfl) ?_; intro w8 hz8 hs8 hg8; have BK8 := Aside0.mk hz8; have HB8 := Aside0.mk (pw_below_grown HB7.out (some g2) HZ7.out hg8 (fun k e => by cases e; exact HG.out)); clear hz8 hs8 hg8))
    refine bodyPost_ret (results_ct rfl _ _ g2 25 #[.int .u8 0, .int .u8 0, .int .u8 0, .int .u8 0, .int .u8 0, .int .u8 0, .int .u8 0, .int .u8 0, .int .u8 0, .int .u8 0, .int .u8 0, .int .u8 0, .int .u8 0, .int .u8 0, .int .u8 0, .int .u8 0, .int .u8 0, .int .u8 0, .int .u8 0, .int .u8 0, .int .u8 0, .int .u8 0, .int .u8 0, .int .u8 0, .int .u8 0, .int .u8 0, .int .u8 0, .int .u8 0, .int .u8 0, .int .u8 0, .int .u8 0, .int .u8 0, .int .i64 0] (0, 0) _ rfl BK8.out Tryd.underlying25 rfl (by kernel_rfl)) rfl ?_
    exact ⟨by rw [HR.out]; rfl, HB8.out⟩
  | true =>
    obtain ⟨nb, hnb⟩ : ∃ nb, numR b = nb := ⟨_, rfl⟩
    have HN := Aside0.mk hnb
    rw [hnb] at hpp
    clear hnb
    cases nb with
    | none =>
      have HR : Aside0 (pp s = (z25, false)) := ⟨hpp⟩
      clear hpp
      go_enter Tryd.func8, Tryd.ntmps8
      go_wp2_with (first | ((with_reducible refine gate_dst (N := 2) rfl ?_); refine box_event ?hg (N := 2) ?hd (cs := #[.int .u8 0, .int .u8 0, .int .u8 0, .int .u8 0, .int .u8 0, .int .u8 0, .int .u8 0, .int .u8 0, .int .u8 0, .int .u8 0, .int .u8 0, .int .u8 0, .int .u8 0, .int .u8 0, .int .u8 0, .int .u8 0, .int .u8 0, .int .u8 0, .int .u8 0, .int .u8 0, .int .u8 0, .int .u8 0, .int .u8 0, .int .u8 0, .int .u8 0, .int .u8 0, .int .u8 0, .int .u8 0, .int .u8 0, .int .u8 0, .int .u8 0, .int .u8 0, .int .i64 0]) (t := 25) ?hr ?_; (case hd => rfl); (case hg => rfl); (case hr => first | (go_simp; done) | (go_simp; rfl)); intro g2 hg w3 hbox hb; have HB3 := Aside0.mk (below_step HB.out hb); have HG := Aside0.mk (show w.heap.size ≤ g2 by rw [hg]; exact Nat.le_refl _); have BK3 := Aside0.mk hbox; have HE3 := Aside0.mk (HE.out.below hb); clear hbox hb hg) | (go_at_call 24; refine (strings_Cut.calls _ _ _ _ _ w3 HCut.out).mono ?_; rintro e w4 ⟨rfl, hd⟩; have hb := (show Below w3.heap.size w3 w4 by obtain ⟨n, rfl⟩ := hd.out; exact pw_below_drewN (Below.refl _ _) _); have HB4 := Aside0.mk (below_step HB3.out hb); have BK4 := Aside0.mk (blk_below BK3.out hb); have HE4 := Aside0.mk (HE3.out.below hb); clear hd hb HB3 BK3 HE3) | (go_at_call 25; refine (atoi_calls _ HSZ.out w4 HE4.out).mono ?_; rintro e w5 ⟨v9, ev, rfl, hb, hcase⟩; rcases hcase with ⟨h9, _⟩ | ⟨_, t9, p9, rfl⟩; (exact absurd (h9.symm.trans HN.out) (by simp)); have HB5 := Aside0.mk (below_step HB4.out hb); have BK5 := Aside0.mk (blk_below BK4.out hb); clear hb HB4 BK4 HE4) | (go_at_call 26; refine (sparse _ w5).mono ?_; rintro e w6 ⟨rfl, hb⟩; rw [HPR.out]; have HB6 := Aside0.mk (below_step HB5.out hb); have BK6 := Aside0.mk (blk_below BK5.out hb); have HZ6 := Aside0.mk (Nat.le_trans HB5.out.size hb.size); clear hb HB5 BK5) | (refine Go.Proofs.YtmoecidfmgeafaaDoor.PutW.part_event rfl rfl 23 (.tmp 25) (.tmp 23) rfl (g := g2) (o := 0) (cells := (hs.map (Value.int .u8)).toArray) rfl rfl BK6.out (part33 hs HH.out) (sz23 HH.out) (one23 hs) ?_; intro w7 hz7 hs7 hg7; have HB7 := Aside0.mk (pw_below_grown HB6.out (some g2) HZ6.out hg7 (fun k e => by cases e; exact HG.out)); have HZ7 := Aside0.mk (show w.heap.size ≤ w7.heap.size by rw [hs7]; exact HZ6.out); have BK7 := Aside0.mk (show w7.heap[g2]? = some (.cells (hs.map (Value.int .u8) ++ [Value.int .i64 0]).toArray 25 (0, 0)) by rw [hz7]; exact over32 hs HH.out); clear hz7 hs7 hg7 HB6 BK6 HZ6) | (refine Go.Proofs.YtmoecidfmgeafaaDoor.PutW.store_event rfl rfl 25 (.tmp 2) (.tmp 32) rfl (g := g2) (cells := #[.int .u8 0, .int .u8 0, .int .u8 0, .int .u8 0, .int .u8 0, .int .u8 0, .int .u8 0, .int .u8 0, .int .u8 0, .int .u8 0, .int .u8 0, .int .u8 0, .int .u8 0, .int .u8 0, .int .u8 0, .int .u8 0, .int .u8 0, .int .u8 0, .int .u8 0, .int .u8 0, .int .u8 0, .int .u8 0, .int .u8 0, .int .u8 0, .int .u8 0, .int .u8 0, .int .u8 0, .int .u8 0, .int .u8 0, .int .u8 0, .int .u8 0, .int .u8 0, .int .i64 0]) rfl rfl BK7.out (sz33 hs HH.out) (by kernel_rfl) (by kernel_rfl) ?_; intro w8 hz8 hs8 hg8; have BK8 := Aside0.mk hz8; have HB8 := Aside0.mk (pw_below_grown HB7.out (some g2) HZ7.out hg8 (fun k e => by cases e; exact HG.out)); clear hz8 hs8 hg8))
      refine bodyPost_ret (results_ct rfl _ _ g2 25 #[.int .u8 0, .int .u8 0, .int .u8 0, .int .u8 0, .int .u8 0, .int .u8 0, .int .u8 0, .int .u8 0, .int .u8 0, .int .u8 0, .int .u8 0, .int .u8 0, .int .u8 0, .int .u8 0, .int .u8 0, .int .u8 0, .int .u8 0, .int .u8 0, .int .u8 0, .int .u8 0, .int .u8 0, .int .u8 0, .int .u8 0, .int .u8 0, .int .u8 0, .int .u8 0, .int .u8 0, .int .u8 0, .int .u8 0, .int .u8 0, .int .u8 0, .int .u8 0, .int .i64 0] (0, 0) _ rfl BK8.out Tryd.underlying25 rfl (by kernel_rfl)) rfl ?_
      exact ⟨by rw [HR.out]; rfl, HB8.out⟩
    | some v =>
      have HWF : Aside0 (wfO (ofL hs v)) := ⟨by unfold wfO; rw [bs_ofL hs HH.out v]; exact HBY.out⟩
      have HEN := Aside0.mk (enc_ofL hs HH.out v)
      by_cases heq : pt (ofL hs v) = s
      · have HR : Aside0 (pp s = (ofL hs v, true)) := ⟨by rw [hpp]; simp only [heq, and_self, if_true]⟩
        have HEQ := Aside0.mk heq
        clear hpp heq
        go_enter Tryd.func8, Tryd.ntmps8
        go_wp2_with (first | ((with_reducible refine gate_dst (N := 2) rfl ?_); refine box_event ?hg (N := 2) ?hd (cs := #[.int .u8 0, .int .u8 0, .int .u8 0, .int .u8 0, .int .u8 0, .int .u8 0, .int .u8 0, .int .u8 0, .int .u8 0, .int .u8 0, .int .u8 0, .int .u8 0, .int .u8 0, .int .u8 0, .int .u8 0, .int .u8 0, .int .u8 0, .int .u8 0, .int .u8 0, .int .u8 0, .int .u8 0, .int .u8 0, .int .u8 0, .int .u8 0, .int .u8 0, .int .u8 0, .int .u8 0, .int .u8 0, .int .u8 0, .int .u8 0, .int .u8 0, .int .u8 0, .int .i64 0]) (t := 25) ?hr ?_; (case hd => rfl); (case hg => rfl); (case hr => first | (go_simp; done) | (go_simp; rfl)); intro g2 hg w3 hbox hb; have HB3 := Aside0.mk (below_step HB.out hb); have HG := Aside0.mk (show w.heap.size ≤ g2 by rw [hg]; exact Nat.le_refl _); have BK3 := Aside0.mk hbox; have HE3 := Aside0.mk (HE.out.below hb); clear hbox hb hg) | (go_at_call 24; refine (strings_Cut.calls _ _ _ _ _ w3 HCut.out).mono ?_; rintro e w4 ⟨rfl, hd⟩; have hb := (show Below w3.heap.size w3 w4 by obtain ⟨n, rfl⟩ := hd.out; exact pw_below_drewN (Below.refl _ _) _); have HB4 := Aside0.mk (below_step HB3.out hb); have BK4 := Aside0.mk (blk_below BK3.out hb); have HE4 := Aside0.mk (HE3.out.below hb); clear hd hb HB3 BK3 HE3) | (go_at_call 25; refine (atoi_calls _ HSZ.out w4 HE4.out).mono ?_; rintro e w5 ⟨v9, ev, rfl, hb, hcase⟩; rcases hcase with ⟨h9, rfl⟩ | ⟨h9, _⟩; rotate_left; (exact absurd (HN.out.symm.trans h9) (by simp)); obtain rfl : v = v9 := Option.some.inj (HN.out.symm.trans h9); clear h9; have HB5 := Aside0.mk (below_step HB4.out hb); have BK5 := Aside0.mk (blk_below BK4.out hb); clear hb HB4 BK4 HE4) | (go_at_call 26; refine (sparse _ w5).mono ?_; rintro e w6 ⟨rfl, hb⟩; rw [HPR.out]; have HB6 := Aside0.mk (below_step HB5.out hb); have BK6 := Aside0.mk (blk_below BK5.out hb); have HZ6 := Aside0.mk (Nat.le_trans HB5.out.size hb.size); clear hb HB5 BK5) | (refine Go.Proofs.YtmoecidfmgeafaaDoor.PutW.part_event rfl rfl 23 (.tmp 25) (.tmp 23) rfl (g := g2) (o := 0) (cells := (hs.map (Value.int .u8)).toArray) rfl rfl BK6.out (part33 hs HH.out) (sz23 HH.out) (one23 hs) ?_; intro w7 hz7 hs7 hg7; have HB7 := Aside0.mk (pw_below_grown HB6.out (some g2) HZ6.out hg7 (fun k e => by cases e; exact HG.out)); have HZ7 := Aside0.mk (show w.heap.size ≤ w7.heap.size by rw [hs7]; exact HZ6.out); have BK7 := Aside0.mk (show w7.heap[g2]? = some (.cells (hs.map (Value.int .u8) ++ [Value.int .i64 0]).toArray 25 (0, 0)) by rw [hz7]; exact over32 hs HH.out); obtain ⟨hc32, hb32⟩ := put32 HH.out v BK7.out; have hf32 := blk_frozen BK7.out 32; have hl32 := row25 hb32; have BS7 := Aside0.mk hb32; have HBS7 := Aside0.mk (HB7.out.setCell (p := ⟨g2, 32, none⟩) HG.out (.int .i64 v)); clear hb32 hz7 hs7 hg7 HB6 BK6 HZ6) | (go_at_call 10; refine (ptext10 (ofL hs v) HWF.out _).mono ?_; rintro e w9 ⟨rfl, hb⟩; rw [HEQ.out]; have BK9 := Aside0.mk (blk_below BS7.out hb); have HB9 := Aside0.mk (below_step HBS7.out hb); have HZ9 := Aside0.mk HB9.out.size; have hl9 := row25 BK9.out; clear hb BS7 HBS7) | (refine Go.Proofs.YtmoecidfmgeafaaDoor.PutW.store_event rfl rfl 25 (.tmp 2) (.tmp 40) rfl (g := g2) (cells := (encO (ofL hs v)).toArray) rfl rfl BK9.out rfl (sz25 _) (one25 _) ?_; intro w8 hz8 hs8 hg8; have BK8 := Aside0.mk hz8; have HB8 := Aside0.mk (pw_below_grown HB9.out (some g2) HZ9.out hg8 (fun k e => by cases e; exact HG.out)); clear hz8 hs8 hg8))
        refine bodyPost_ret (results_ct rfl _ _ g2 25 (encO (ofL hs v)).toArray (0, 0) _ rfl BK8.out Tryd.underlying25 rfl (sz25 _)) rfl ?_
        exact ⟨by rw [HR.out]; rfl, HB8.out⟩
      · have HR : Aside0 (pp s = (z25, false)) := ⟨by rw [hpp]; simp only [heq, and_false, if_false]⟩
        have hq1 := list_ne heq
        have hq2 := eq_false heq
        clear hpp heq
        go_enter Tryd.func8, Tryd.ntmps8
        go_wp2_with (first | ((with_reducible refine gate_dst (N := 2) rfl ?_); refine box_event ?hg (N := 2) ?hd (cs := #[.int .u8 0, .int .u8 0, .int .u8 0, .int .u8 0, .int .u8 0, .int .u8 0, .int .u8 0, .int .u8 0, .int .u8 0, .int .u8 0, .int .u8 0, .int .u8 0, .int .u8 0, .int .u8 0, .int .u8 0, .int .u8 0, .int .u8 0, .int .u8 0, .int .u8 0, .int .u8 0, .int .u8 0, .int .u8 0, .int .u8 0, .int .u8 0, .int .u8 0, .int .u8 0, .int .u8 0, .int .u8 0, .int .u8 0, .int .u8 0, .int .u8 0, .int .u8 0, .int .i64 0]) (t := 25) ?hr ?_; (case hd => rfl); (case hg => rfl); (case hr => first | (go_simp; done) | (go_simp; rfl)); intro g2 hg w3 hbox hb; have HB3 := Aside0.mk (below_step HB.out hb); have HG := Aside0.mk (show w.heap.size ≤ g2 by rw [hg]; exact Nat.le_refl _); have BK3 := Aside0.mk hbox; have HE3 := Aside0.mk (HE.out.below hb); clear hbox hb hg) | (go_at_call 24; refine (strings_Cut.calls _ _ _ _ _ w3 HCut.out).mono ?_; rintro e w4 ⟨rfl, hd⟩; have hb := (show Below w3.heap.size w3 w4 by obtain ⟨n, rfl⟩ := hd.out; exact pw_below_drewN (Below.refl _ _) _); have HB4 := Aside0.mk (below_step HB3.out hb); have BK4 := Aside0.mk (blk_below BK3.out hb); have HE4 := Aside0.mk (HE3.out.below hb); clear hd hb HB3 BK3 HE3) | (go_at_call 25; refine (atoi_calls _ HSZ.out w4 HE4.out).mono ?_; rintro e w5 ⟨v9, ev, rfl, hb, hcase⟩; rcases hcase with ⟨h9, rfl⟩ | ⟨h9, _⟩; rotate_left; (exact absurd (HN.out.symm.trans h9) (by simp)); obtain rfl : v = v9 := Option.some.inj (HN.out.symm.trans h9); clear h9; have HB5 := Aside0.mk (below_step HB4.out hb); have BK5 := Aside0.mk (blk_below BK4.out hb); clear hb HB4 BK4 HE4) | (go_at_call 26; refine (sparse _ w5).mono ?_; rintro e w6 ⟨rfl, hb⟩; rw [HPR.out]; have HB6 := Aside0.mk (below_step HB5.out hb); have BK6 := Aside0.mk (blk_below BK5.out hb); have HZ6 := Aside0.mk (Nat.le_trans HB5.out.size hb.size); clear hb HB5 BK5) | (refine Go.Proofs.YtmoecidfmgeafaaDoor.PutW.part_event rfl rfl 23 (.tmp 25) (.tmp 23) rfl (g := g2) (o := 0) (cells := (hs.map (Value.int .u8)).toArray) rfl rfl BK6.out (part33 hs HH.out) (sz23 HH.out) (one23 hs) ?_; intro w7 hz7 hs7 hg7; have HB7 := Aside0.mk (pw_below_grown HB6.out (some g2) HZ6.out hg7 (fun k e => by cases e; exact HG.out)); have HZ7 := Aside0.mk (show w.heap.size ≤ w7.heap.size by rw [hs7]; exact HZ6.out); have BK7 := Aside0.mk (show w7.heap[g2]? = some (.cells (hs.map (Value.int .u8) ++ [Value.int .i64 0]).toArray 25 (0, 0)) by rw [hz7]; exact over32 hs HH.out); obtain ⟨hc32, hb32⟩ := put32 HH.out v BK7.out; have hf32 := blk_frozen BK7.out 32; have hl32 := row25 hb32; have BS7 := Aside0.mk hb32; have HBS7 := Aside0.mk (HB7.out.setCell (p := ⟨g2, 32, none⟩) HG.out (.int .i64 v)); clear hb32 hz7 hs7 hg7 HB6 BK6 HZ6) | (go_at_call 10; refine (ptext10 (ofL hs v) HWF.out _).mono ?_; rintro e w9 ⟨rfl, hb⟩; have BK9 := Aside0.mk (blk_below BS7.out hb); have HB9 := Aside0.mk (below_step HBS7.out hb); have HZ9 := Aside0.mk HB9.out.size; have hl9 := row25 BK9.out; clear hb BS7 HBS7) | (refine Go.Proofs.YtmoecidfmgeafaaDoor.PutW.store_event rfl rfl 25 (.tmp 2) (.tmp 39) rfl (g := g2) (cells := #[.int .u8 0, .int .u8 0, .int .u8 0, .int .u8 0, .int .u8 0, .int .u8 0, .int .u8 0, .int .u8 0, .int .u8 0, .int .u8 0, .int .u8 0, .int .u8 0, .int .u8 0, .int .u8 0, .int .u8 0, .int .u8 0, .int .u8 0, .int .u8 0, .int .u8 0, .int .u8 0, .int .u8 0, .int .u8 0, .int .u8 0, .int .u8 0, .int .u8 0, .int .u8 0, .int .u8 0, .int .u8 0, .int .u8 0, .int .u8 0, .int .u8 0, .int .u8 0, .int .i64 0]) rfl rfl BK9.out rfl (by kernel_rfl) (by kernel_rfl) ?_; intro w8 hz8 hs8 hg8; have BK8 := Aside0.mk hz8; have HB8 := Aside0.mk (pw_below_grown HB9.out (some g2) HZ9.out hg8 (fun k e => by cases e; exact HG.out)); clear hz8 hs8 hg8))
        refine bodyPost_ret (results_ct rfl _ _ g2 25 #[.int .u8 0, .int .u8 0, .int .u8 0, .int .u8 0, .int .u8 0, .int .u8 0, .int .u8 0, .int .u8 0, .int .u8 0, .int .u8 0, .int .u8 0, .int .u8 0, .int .u8 0, .int .u8 0, .int .u8 0, .int .u8 0, .int .u8 0, .int .u8 0, .int .u8 0, .int .u8 0, .int .u8 0, .int .u8 0, .int .u8 0, .int .u8 0, .int .u8 0, .int .u8 0, .int .u8 0, .int .u8 0, .int .u8 0, .int .u8 0, .int .u8 0, .int .u8 0, .int .i64 0] (0, 0) _ rfl BK8.out Tryd.underlying25 rfl (by kernel_rfl)) rfl ?_
        exact ⟨by rw [HR.out]; rfl, HB8.out⟩
end Go.Proofs.YtmoecidfmgeafaaDoor.Txt
