/- An outpoint as a text: point.Text and the document's PointText, by what their two callees answer. -/
import Derived.Test.YtmoecidfmgeafaaDoorQPntx3
import Derived.Test.YtmoecidfmgeafaaDoorLayT
import Derived.Lib.Builder
import Derived.Maps.AppendAt
import Derived.Test.YtmoecidfmgeafaaDoorWTab
namespace Go.Proofs.YtmoecidfmgeafaaDoor.Txt
open Go.RowKit Go.Proofs.YtmoecidfmgeafaaDoor.QPnt Go.Proofs.YtmoecidfmgeafaaDoorW.PrintWords Go.Proofs.YtmoecidfmgeafaaDoorW.PrintLast Go.Proofs.YtmoecidfmgeafaaDoorW.PrintMore
set_option linter.unusedVariables false
set_option linter.unusedSimpArgs false
/-! ### The builder -/
set_option maxHeartbeats 4000000 in
set_option maxRecDepth 100000 in
theorem check (B b : Nat) (bs : List Value) (w : World) (h : Lib.IsBuilder 64 5 B b bs w) : Calls Tryd.prog 60 #[.pointer (some ⟨b, 0, none⟩)] w fun e w' => e = .returned (.tuple #[]) ∧ Lib.BuilderAt 64 5 B b (.pointer (some ⟨b, 0, none⟩)) bs w' ∧ Below B w w' := by
  obtain ⟨j, hj, hjs⟩ := Option.map_eq_some_iff.1 (show (Tryd.prog.info? 64).map (·.size) = some 2 by kernel_rfl)
  have hlies : liesAt Tryd.prog Tryd.prog.depth 64 (2 / Tryd.prog.cellsOf 64) 0 64 1 = true := by kernel_rfl
  rcases h with h | h
  · have h0 := h.cell0
    have hsh := h.shape
    have hfz := h.frozen0
    have H := Aside0.mk h
    clear h
    go_enter Tryd.func60, Tryd.ntmps60
    go_wp2
    rw [Lib.run_to_unsafe w ⟨b, 0, none⟩ Tryd.underlying61 Tryd.underlying97 hj (by rw [hjs]; decide) hsh (Nat.zero_lt_succ 1)]
    simp only [Result.andThen]
    rw [Oper.upon_value]
    go_wp2
    rw [run_callFunc_extern Tryd.func74 (by kernel_rfl) (by kernel_rfl) (by kernel_rfl) (e := Extern.AbiNoEscape.same) (by kernel_rfl), Lib.run_noEscape]
    simp only [Result.andThen]
    rw [Oper.upon_value]
    go_wp2
    rw [Lib.run_from_unsafe w ⟨b, 0, none⟩ Tryd.underlying97 Tryd.underlying61 hj hsh hlies]
    simp only [Result.andThen]
    rw [Oper.upon_value]
    go_wp2
    go_end0
    exact ⟨rfl, H.out.used _, (Below.refl B w).setCell (p := ⟨b, 0, none⟩) H.out.1 _⟩
  · have h0 := h.cell0
    have H := Aside0.mk h
    clear h
    go_enter Tryd.func60, Tryd.ntmps60
    go_wp2
    rw [Lib.run_neq_ptr_same w _ Tryd.underlying61 hj]
    go_wp2
    go_end0
    exact ⟨rfl, H.out, Below.refl B w⟩
set_option maxHeartbeats 4000000 in
set_option maxRecDepth 100000 in
theorem writeByte (B b : Nat) (bs : List Value) (c : Int) (w : World) (h : Lib.IsBuilder 64 5 B b bs w) (hl : bs.length + 1 ≤ 140737488355328) (hB : B ≤ w.heap.size) :
    Calls Tryd.prog 43 #[.pointer (some ⟨b, 0, none⟩), .int .u8 c] w fun e w' => e = .returned .nilIface ∧ Lib.BuilderAt 64 5 B b (.pointer (some ⟨b, 0, none⟩)) (bs ++ [.int .u8 c]) w' ∧ Below B w w' := by
  obtain ⟨i0, hi, hz0, hz1, hz2⟩ := info_parts (show (Tryd.prog.info? 5).map (fun i => (i.zero, i.size, i.bytes)) = some (some (.int .u8 0), 1, 1) by kernel_rfl)
  have HC := Aside0.mk (check B b bs w h)
  clear h
  go_enter Tryd.func43, Tryd.ntmps43
  go_wp2_with (go_at_call 60; refine HC.out.mono ?_)
  rintro e w1 ⟨rfl, h1, hb1⟩
  obtain ⟨hBb, v, hbk, hown, hne⟩ := h1
  have c0 : w1.cell? ⟨b, 0, none⟩ = some (.pointer (some ⟨b, 0, none⟩)) := by rw [Lib.cell_of_heap hbk]; rfl
  have c1 : w1.cell? ⟨b, 1, none⟩ = some v := by rw [Lib.cell_of_heap hbk]; rfl
  have HB1 := Aside0.mk hb1
  have HO := Aside0.mk hown
  have HK := Aside0.mk hbk
  have HN := Aside0.mk hne
  clear hb1 hown hbk hne
  go_wp2_with (at_builtin; refine wpList_append_own_at _ rfl _ _ 62 rfl B 5 i0 (.int .u8 0) 1 1 Tryd.underlying62 hi hz0 hz1 hz2 rfl (by decide) v bs.length bs rfl (HO.out.alloc _) ⟨w1.heap.size, 0, none⟩ 1 1 [.int .u8 c] rfl rfl ?c1 ?c2 ?c3 ?c4 ?c5 ?_)
  case c1 =>
    intro j u hj
    match j, hj with
    | 0, hj => simp at hj; subst hj; simp [Addr.add]
  case c2 => intro u hu; simp at hu; subst hu; rfl
  case c3 => unfold maxLen; omega
  case c4 => omega
  case c5 => have := HB1.out.size; simp; omega
  intro v2 w2 hown2 hg _ _
  have hlt : b < w1.heap.size := Lib.BuilderAt.lt ⟨hBb, v, HK.out, HO.out, HN.out⟩
  have hb2 : w2.heap[b]? = some (.cells #[.pointer (some ⟨b, 0, none⟩), v] 64 (0, 0)) := by
    rw [hg.block b (by simp; omega) (fun e => HN.out e.symm), Lib.alloc_old w1 _ b hlt]
    exact HK.out
  have d0 : w2.cell? ⟨b, 0, none⟩ = some (.pointer (some ⟨b, 0, none⟩)) := by rw [Lib.cell_of_heap hb2]; rfl
  have d1 : w2.cell? ⟨b, 1, none⟩ = some v := by rw [Lib.cell_of_heap hb2]; rfl
  have f1 : w2.frozen? ⟨b, 1, none⟩ = false := Lib.frozen_of_heap hb2 1
  obtain ⟨g, cap, rfl⟩ : ∃ g cap, v2 = .slice (some ⟨g, 0, none⟩) (bs.length + 1) cap := by
    rcases hown2.2 with ⟨_, h0⟩ | ⟨g, cap, cur, hv, _⟩
    · omega
    · exact ⟨g, cap, hv⟩
  have HO2 := Aside0.mk hown2
  have HG2 := Aside0.mk hg
  have HB2 := Aside0.mk hb2
  clear hown2 hg hb2
  go_wp2
  go_ret
  refine ⟨rfl, ?_, ?_⟩
  · exact Lib.BuilderAt.put (T := 64) (e := 5) hBb HB2.out (bs' := bs ++ [.int .u8 c]) (by simpa using HO2.out) (by decide)
  · exact ((HB1.out.alloc (by have := HB1.out.size; omega) _).grown HG2.out (by have := HB1.out.size; simp; omega) (fun k hk => (HO.out.lt k hk).1)).setCell (p := ⟨b, 1, none⟩) hBb _
/-! ### sha.Text -/
def dgs : ByteArray := ⟨#[48, 49, 50, 51, 52, 53, 54, 55, 56, 57, 97, 98, 99, 100, 101, 102]⟩
def dg (n : Int) : UInt8 := dgs.data.getD n.toNat 0
/-- A byte's two digits. -/
def two (v : Int) : List UInt8 := [dg (v / 16), dg (v % 16)]
/-- A hash as a text: the last byte first. -/
def htext (hs : List Int) : List UInt8 := hs.reverse.flatMap two
theorem htext_len (hs : List Int) : (htext hs).length = 2 * hs.length := by
  unfold htext
  have : ∀ l : List Int, (l.flatMap two).length = 2 * l.length := fun l => by
    induction l with
    | nil => rfl
    | cons a r ih => rw [List.flatMap_cons, List.length_append, ih]; simp [two]; omega
  rw [this, List.length_reverse]
theorem htext_next {hs : List Int} {j : Nat} (h : j < hs.length) : htext (hs.drop j) = htext (hs.drop (j + 1)) ++ two hs[j] := by
  unfold htext
  rw [List.drop_eq_getElem_cons h, List.reverse_cons, List.flatMap_append]
  simp
theorem cells_app (l r : List UInt8) : Lib.byteCells (l ++ r) = Lib.byteCells l ++ Lib.byteCells r := by simp [Lib.byteCells]
theorem dg_run (v : Int) (h0 : 0 ≤ v) (h1 : v < 16) (h : (v % 256).toNat < dgs.size) : ((dgs[(v % 256).toNat].toNat : Nat) : Int) = ((dg v).toNat : Int) := by
  obtain ⟨n, rfl⟩ := Int.eq_ofNat_of_zero_le h0
  have hh : ∀ m : Nat, m < 16 → ∀ h : (((m : Nat) : Int) % 256).toNat < dgs.size, ((dgs[(((m : Nat) : Int) % 256).toNat].toNat : Nat) : Int) = ((dg (m : Int)).toNat : Int) := by decide
  exact hh n (by omega) h
theorem dg_run2 (v : Int) (h0 : 0 ≤ v) (h1 : v < 16) (h : v.toNat < dgs.size) : ((dgs[v.toNat].toNat : Nat) : Int) = ((dg v).toNat : Int) := by
  obtain ⟨n, rfl⟩ := Int.eq_ofNat_of_zero_le h0
  have hh : ∀ m : Nat, m < 16 → ∀ h : ((m : Nat) : Int).toNat < dgs.size, ((dgs[((m : Nat) : Int).toNat].toNat : Nat) : Int) = ((dg (m : Int)).toNat : Int) := by decide
  exact hh n (by omega) h
set_option maxHeartbeats 4000000 in
set_option maxRecDepth 100000 in
theorem text (hs : List Int) (hl : hs.length = 32) (hb : ∀ v ∈ hs, 0 ≤ v ∧ v < 256) (w : World) :
    Calls Tryd.prog 28 #[.agg (hs.map (Value.int .u8)).toArray] w fun e w' => e = .returned (.string ⟨(htext hs).toArray⟩) ∧ Below w.heap.size w w' := by
  have HL := Aside0.mk hl
  have HV := Aside0.mk hb
  clear hl hb
  obtain ⟨cs, hcs⟩ : ∃ cs, cs = (hs.map (Value.int .u8)).toArray := ⟨_, rfl⟩
  rw [← hcs]
  have HC := Aside0.mk hcs
  clear hcs
  have HB := Aside0.mk (Below.refl w.heap.size w)
  go_enter Tryd.func28, Tryd.ntmps28
  go_wp2_with (first | ((with_reducible refine gate_dst (N := 1) rfl ?_); refine box_event ?hg (N := 1) ?hd (cs := cs) (t := 23) ?hr ?_; (case hd => rfl); (case hg => rfl); (case hr => first | (go_simp; done) | (go_simp; rfl)); intro g1 hg w3 hbox hb; have HB3 := Aside0.mk (below_step HB.out hb); have BK3 := Aside0.mk hbox; have HG3 := Aside0.mk hg; clear HB hbox hb hg) | ((with_reducible refine gate_dst (N := 3) rfl ?_); refine box_event ?hg2 (N := 3) ?hd2 (cs := #[.pointer none, .slice none 0 0]) (t := 64) ?hr2 ?_; (case hd2 => rfl); (case hg2 => rfl); (case hr2 => first | (go_simp; done) | (go_simp; rfl)); intro b hg w4 hbox hb; have HT4 := Aside0.mk (show g1 < b by rw [hg]; exact blk_lt BK3.out); have HB4 := Aside0.mk (below_step HB3.out hb); have BK4 := Aside0.mk (blk_below BK3.out hb); have BB4 := Aside0.mk hbox; have HG4 := Aside0.mk hg; have HS4 := Aside0.mk hb.size; clear HB3 BK3 hbox hb hg))
  have HI : Aside0 (Lib.IsBuilder 64 5 b b (Lib.byteCells (htext (hs.drop 32))) w4) := ⟨by
    rw [List.drop_of_length_le (by rw [HL.out]; omega)]
    exact .inl ⟨Nat.le_refl _, _, BB4.out, World.ownsRow_nil _ _ _ _, by simp [Value.ownBlock]⟩⟩
  have HW4 := Aside0.mk (show w.heap.size ≤ b ∧ b ≤ w4.heap.size by have := HB4.out.size; have := blk_lt BB4.out; have := HG3.out; have := HT4.out; exact ⟨by omega, by omega⟩)
  go_loopg [4] 33 (fun kq v4 w' => ∃ j : Nat, v4 = .int .i64 ((j : Int) - 1) ∧ Aside0 (j ≤ 32) ∧ Aside0 (kq = j + 1) ∧ Aside0 (Lib.IsBuilder 64 5 b b (Lib.byteCells (htext (hs.drop j))) w') ∧ Aside0 (w'.heap[g1]? = some (.cells cs 23 (0, 0))) ∧ Aside0 (Below w.heap.size w w') ∧ Aside0 (b ≤ w'.heap.size))
  case atStart => exact ⟨32, rfl, ⟨by omega⟩, ⟨rfl⟩, HI, BK4, HB4, ⟨HW4.out.2⟩⟩
  case round =>
    clear HI BK4 HB4 BB4 HS4 HG4
    obtain ⟨j, rfl, HJ, HK, HI, BK, HB, HS⟩ := hrel
    cases j with
    | zero =>
      have c0 : decide (((0 : Nat) : Int) - 1 ≥ 0) = false := rfl
      have HN : Aside0 (htext (hs.drop 0) ≠ []) := ⟨fun e => by
        have h := htext_len (hs.drop 0)
        rw [e, List.drop_zero, HL.out] at h
        simp at h⟩
      go_wp2_with (go_at_call 44; refine (Go.Proofs.Any.Builder_String Go.Proofs.YtmoecidfmgeafaaDoor.LayT.bstring Go.Proofs.YtmoecidfmgeafaaDoor.LayT.x169 b b (htext (hs.drop 0)) _ HI.out HN.out).mono ?_; rintro e w5 ⟨rfl, hb5⟩; have HB5 := Aside0.mk hb5; clear hb5)
      go_ret
      exact ⟨rfl, HB.out.trans (HB5.out.mono HW4.out.1)⟩
    | succ j =>
      have hj : j < hs.length := by have := HJ.out; rw [HL.out]; omega
      obtain ⟨v, hv⟩ : ∃ v, v = hs[j] := ⟨_, rfl⟩
      obtain ⟨hv0, hv1⟩ := HV.out v (by rw [hv]; exact List.getElem_mem hj)
      rw [show ((j + 1 : Nat) : Int) - 1 = (j : Int) by omega]
      have hc : wr.cell? ⟨g1, j, none⟩ = some (.int .u8 v) := by
        rw [blk_cell BK.out j, HC.out, hv]
        simp [hj]
      have HV2 := Aside0.mk hv
      have p1 := eq_true (show (0 : Int) ≤ (j : Int) by omega)
      have p2 := eq_true (show (j : Int) < 32 by have := HJ.out; omega)
      have p3 := eq_true (show j < 32 by have := HJ.out; omega)
      have d1 : Int.tdiv v 16 = v / 16 := Int.tdiv_eq_ediv_of_nonneg hv0
      have d2 : Int.tmod v 16 = v % 16 := Int.tmod_eq_emod_of_nonneg hv0
      have q1 := eq_true (show 0 ≤ v / 16 % 256 by omega)
      have q2 := eq_true (show v / 16 % 256 < 16 by omega)
      have r1 := eq_true (show 0 ≤ v % 16 % 256 by omega)
      have r2 := eq_true (show v % 16 % 256 < 16 by omega)
      have Q1 := Aside0.mk (show (0 ≤ v / 16 ∧ v / 16 < 16) ∧ 0 ≤ v % 16 ∧ v % 16 < 16 by omega)
      clear hv hv0 hv1
      have HLn : Aside0 ((htext (hs.drop (j + 1))).length ≤ 64) := ⟨by rw [htext_len, List.length_drop, HL.out]; omega⟩
      go_wp2_with (first | (go_at_call 43; refine (writeByte b b _ _ _ HI.out (by rw [Lib.byteCells_length]; have := HLn.out; omega) HS.out).mono ?_; rintro e w5 ⟨rfl, h5, hb5⟩; have H5 := Aside0.mk h5; have BK5 := Aside0.mk ((hb5.block g1 HT4.out).trans BK.out); have HB5 := Aside0.mk hb5; have hc5 : w5.cell? ⟨g1, j, none⟩ = some (.int .u8 v) := (hb5.cell HT4.out).trans hc; clear h5 hb5 HI) | (go_at_call 43; refine (writeByte b b _ _ _ (.inr H5.out) (by rw [List.length_append, Lib.byteCells_length]; have := HLn.out; simp only [List.length_cons, List.length_nil]; omega) (Nat.le_trans HS.out HB5.out.size)).mono ?_; rintro e w6 ⟨rfl, h6, hb6⟩; have H6 := Aside0.mk h6; have BK6 := Aside0.mk ((hb6.block g1 HT4.out).trans BK5.out); have HB6 := Aside0.mk hb6; clear h6 hb6))
      have e1 := dg_run (v / 16) Q1.out.1.1 Q1.out.1.2
      have e2 := dg_run2 (v % 16) Q1.out.2.1 Q1.out.2.2
      have hh : Lib.byteCells (htext (hs.drop (j + 1))) ++ [Value.int .u8 (dg (v / 16)).toNat] ++ [Value.int .u8 (dg (v % 16)).toNat] = Lib.byteCells (htext (hs.drop j)) := by
        rw [htext_next hj, ← HV2.out, cells_app]
        simp [Lib.byteCells, two]
      go_roundg (j + 1)
      case measure => have := HK.out; omega
      case rel =>
        refine ⟨j, by rw [show wrap64 ((j : Int) - 1) = (j : Int) - 1 by have := HJ.out; unfold wrap64; omega], ⟨by have := HJ.out; omega⟩, ⟨rfl⟩, ⟨?_⟩, BK6, ⟨HB.out.trans ((HB5.out.trans HB6.out).mono HW4.out.1)⟩, ⟨Nat.le_trans HS.out (Nat.le_trans HB5.out.size HB6.out.size)⟩⟩
        have hz : dgs.size = 16 := rfl
        rw [← hh, ← e1 (by have := Q1.out; omega), ← e2 (by have := Q1.out; omega)]
        exact .inr H6.out
end Go.Proofs.YtmoecidfmgeafaaDoor.Txt

namespace Go.Proofs.YtmoecidfmgeafaaDoor.Txt
open Go.RowKit Go.Proofs.YtmoecidfmgeafaaDoor.QPnt Go.Proofs.YtmoecidfmgeafaaDoorW.PrintWords Go.Proofs.YtmoecidfmgeafaaDoorW.PrintLast Go.Proofs.YtmoecidfmgeafaaDoorW.PrintMore
attribute [local go_sem] Go.Proofs.YtmoecidfmgeafaaDoor.Wide.cellsAt_drewN Go.Proofs.YtmoecidfmgeafaaDoor.Wide.cellsAt_drew Go.Proofs.YtmoecidfmgeafaaDoor.Wide.lw32 Go.Proofs.YtmoecidfmgeafaaDoor.Wide.lw33
attribute [local go_sem ↓ high] Go.Proofs.YtmoecidfmgeafaaDoor.Wide.hv32 Go.Proofs.YtmoecidfmgeafaaDoor.Wide.hv33
set_option linter.unusedVariables false
set_option linter.unusedSimpArgs false
def T10 : Bool × List (List Nat × List Nat) := (true, [([], []), ([0], [0]), ([1], [1]), ([2], [2]), ([], []), ([4], [4]), ([5, 2], [5]), ([3, 6], [3, 6]), ([7, 6, 0, 1, 2, 3, 4, 5, 6, 7], [7])])
def B10 : List Nat := [0, 1, 3, 7, 0, 16, 55, 127, 255]
theorem tab10 : rtab .any (opsOf Tryd.f10 3) = T10 := by kernel_rfl
theorem bits10 : waitsOk T10.2 B10 = true := by kernel_rfl
theorem tab11 : rtab .any (opsOf Tryd.f11 3) = T10 := by kernel_rfl
theorem bits11 : waitsOk T10.2 B10 = true := by kernel_rfl
def wfO (x : S25) : Prop := ∀ v ∈ bsO x, 0 ≤ v ∧ v < 256
theorem pre_from {w : World} {g : Nat} {t : TypeId} : ∀ (l p r : List Value), w.heap[g]? = some (.cells (p ++ l ++ r).toArray t (0, 0)) → Go.Proofs.YtmoecidfmgeafaaDoor.Wide.cellsFrom w ⟨g, 0, none⟩ p.length l.length = some l
  | [], _, _, _ => rfl
  | v :: l, p, r, h => by
    have h1 : w.cell? (Addr.add ⟨g, 0, none⟩ p.length) = some v := by
      rw [Addr.add_lit, Nat.zero_add, blk_cell h p.length]
      simp
    have h2 := pre_from l (p ++ [v]) r (by simpa using h)
    rw [List.length_append, List.length_singleton] at h2
    exact Go.Proofs.YtmoecidfmgeafaaDoor.Wide.cf_step h1 h2
theorem cells_pre {w : World} {g : Nat} {t : TypeId} (n : Nat) (l r : List Value) (hn : l.length = n) (h : w.heap[g]? = some (.cells (l ++ r).toArray t (0, 0))) : Go.Proofs.YtmoecidfmgeafaaDoor.Wide.cellsAt w ⟨g, 0, none⟩ n = some l := by
  subst hn
  exact pre_from l [] r h
set_option maxHeartbeats 4000000 in
set_option maxRecDepth 100000 in
/-- Function 10: an outpoint as a text, by its callees' answers t, d. -/
theorem ptxt10 (x : S25) (t d : ByteArray) (ht : t.size ≤ 64) (hd : d.size ≤ 64) (HT : ∀ w, Calls Tryd.prog 28 #[.agg ((bsO x).map (Value.int .u8)).toArray] w fun e w' => e = .returned (.string t) ∧ Below w.heap.size w w')
    (HD : 0 ≤ x.f1 → x.f1 ≤ 99 → ∀ w, Calls Tryd.prog 29 #[.int .i64 x.f1] w fun e w' => e = .returned (.string d) ∧ Below w.heap.size w w') (w : World) :
    Calls Tryd.prog 10 #[.agg (encO x).toArray] w fun e w' => e = .returned (.string (if x.f1 < 0 then ⟨#[]⟩ else if x.f1 > 99 then ⟨#[]⟩ else t ++ ⟨#[58]⟩ ++ d)) ∧ Below w.heap.size w w' := by
  have HTA := Aside0.mk HT
  have HDA := Aside0.mk HD
  clear HT HD
  obtain ⟨hs, hhs⟩ : ∃ hs, hs = (bsO x).map (Value.int .u8) := ⟨_, rfl⟩
  obtain ⟨cs, hcs⟩ : ∃ cs, cs = (encO x).toArray := ⟨_, rfl⟩
  have HC := Aside0.mk (show cs = (hs ++ [Value.int .i64 x.f1]).toArray by rw [hcs, hhs]; rfl)
  have HH := Aside0.mk (show hs.length = 32 by rw [hhs]; rfl)
  rw [← hhs] at HTA
  rw [← hcs]
  clear hcs hhs
  obtain ⟨n, hn⟩ : ∃ n, n = x.f1 := ⟨_, rfl⟩
  rw [← hn] at HDA HC ⊢
  clear hn
  have HB := Aside0.mk (Below.refl w.heap.size w)
  by_cases n0 : n < 0
  · rw [if_pos n0]
    have c0 : decide (n < 0) = true := decide_eq_true n0
    go_enter Tryd.func10, Tryd.ntmps10
    go_wp2_with (((with_reducible refine gate_dst (N := 1) rfl ?_); refine box_event ?hg (N := 1) ?hd (cs := cs) (t := 25) ?hr ?_; (case hd => rfl); (case hg => rfl); (case hr => first | (go_simp; done) | (go_simp; rfl)); intro g1 hg w3 hbox hb; have HB3 := Aside0.mk (below_step HB.out hb); have hc32 : w3.cell? ⟨g1, 32, none⟩ = some (.int .i64 n) := (by rw [blk_cell hbox 32, HC.out, List.getElem?_toArray, List.getElem?_append_right (by rw [HH.out]; exact Nat.le_refl _), HH.out]; rfl); clear HB hbox hb hg))
    go_ret
    exact ⟨rfl, HB3.out⟩
  rw [if_neg n0]
  have c0 : decide (n < 0) = false := decide_eq_false n0
  by_cases n1 : n > 99
  · rw [if_pos n1]
    have c1 : decide (n > 99) = true := decide_eq_true n1
    have c2 : decide (99 < n) = true := decide_eq_true n1
    clear n0
    go_enter Tryd.func10, Tryd.ntmps10
    go_wp2_with (((with_reducible refine gate_dst (N := 1) rfl ?_); refine box_event ?hg (N := 1) ?hd (cs := cs) (t := 25) ?hr ?_; (case hd => rfl); (case hg => rfl); (case hr => first | (go_simp; done) | (go_simp; rfl)); intro g1 hg w3 hbox hb; have HB3 := Aside0.mk (below_step HB.out hb); have hc32 : w3.cell? ⟨g1, 32, none⟩ = some (.int .i64 n) := (by rw [blk_cell hbox 32, HC.out, List.getElem?_toArray, List.getElem?_append_right (by rw [HH.out]; exact Nat.le_refl _), HH.out]; rfl); clear HB hbox hb hg))
    go_ret
    exact ⟨rfl, HB3.out⟩
  rw [if_neg n1]
  have c1 : decide (n > 99) = false := decide_eq_false n1
  have c2 : decide (99 < n) = false := decide_eq_false n1
  have HDB := Aside0.mk (HDA.out (by omega) (by omega))
  clear HDA n0 n1
  have z1 := eq_false (show ¬ 9223372036854775807 < t.size + 1 by omega)
  have z2 := eq_false (show ¬ 9223372036854775807 < t.size + 1 + d.size by omega)
  go_enter Tryd.func10, Tryd.ntmps10
  go_wp2_with (((with_reducible refine gate_dst (N := 1) rfl ?_); refine box_event ?hg (N := 1) ?hd (cs := cs) (t := 25) ?hr ?_; (case hd => rfl); (case hg => rfl); (case hr => first | (go_simp; done) | (go_simp; rfl)); intro g1 hg w3 hbox hb; have HB3 := Aside0.mk (below_step HB.out hb); have BK3 := Aside0.mk (show w3.heap[g1]? = some (.cells (hs ++ [Value.int .i64 n]).toArray 25 (0, 0)) by rw [← HC.out]; exact hbox); have hc32 : w3.cell? ⟨g1, 32, none⟩ = some (.int .i64 n) := (by rw [blk_cell hbox 32, HC.out, List.getElem?_toArray, List.getElem?_append_right (by rw [HH.out]; exact Nat.le_refl _), HH.out]; rfl); clear HB hbox hb hg))
  have n0_ := Aside0.mk (blk_drew BK3.out)
  have n1_ := Aside0.mk (below_drew1 HB3.out)
  clear BK3 HB3 hc32
  have BK3 := n0_
  have HB3 := n1_
  clear n0_ n1_
  refine start_ (n := 9) (S := fun w' => w'.heap[g1]? = some (.cells (hs ++ [Value.int .i64 n]).toArray 25 (0, 0))) (ds := []) #[false, false, false, false, false, false, false, false, false] (by kernel_rfl) rfl rfl BK3.out (fun hHeld => ?_)
  refine with_tabW tab10 bits10 (fun HT_ HW_ => ?_)
  generalize w3.drew = w4 at BK3 HB3 hHeld ⊢
  refine pure_ (i := 0) (N := some 11) (v := ?_) (a' := ?_) #[true, false, false, false, false, false, false, false, false] rfl rfl (any_of HT_.out (by kernel_rfl)) (fun _ _ _ h => h) (Or.inl ⟨by rfl, ?_⟩) ?_ ?_
  rotate_left
  · intro w'
    go_simp
    with_reducible rfl
  rotate_left
  · simp only [Act.put, List.setIfInBounds_toArray, List.set_cons_zero, List.set_cons_succ, i64_w, i32_w]
    rfl
  refine pure_ (i := 4) (N := some 15) (v := ?_) (a' := ?_) #[true, false, false, false, true, false, false, false, false] rfl rfl (any_of HT_.out (by kernel_rfl)) (fun _ _ _ h => h) (Or.inl ⟨by rfl, ?_⟩) ?_ ?_
  rotate_left
  · intro w'
    go_simp
    with_reducible rfl
  rotate_left
  · simp only [Act.put, List.setIfInBounds_toArray, List.set_cons_zero, List.set_cons_succ, i64_w, i32_w]
    rfl
  refine take_ (i := 1) (N := some 12) (v := ?_) (a' := ?_) #[true, true, false, false, true, false, false, false, false] rfl rfl (take_ofW HT_.out HW_.out (by kernel_rfl)) (fun _ _ _ h => h) (Or.inl ⟨by rfl, ?_⟩) hHeld ?_ ?_
  rotate_left
  · intro w' s0
    have hc := cells_pre 32 hs [Value.int .i64 n] HH.out s0
    go_simp
    with_reducible rfl
  rotate_left
  · simp only [Act.put, List.setIfInBounds_toArray, List.set_cons_zero, List.set_cons_succ, i64_w, i32_w]
    rfl
  refine take_ (i := 5) (N := some 16) (v := ?_) (a' := ?_) #[true, true, false, false, true, true, false, false, false] rfl rfl (take_ofW HT_.out HW_.out (by kernel_rfl)) (fun _ _ _ h => h) (Or.inl ⟨by rfl, ?_⟩) hHeld ?_ ?_
  rotate_left
  · intro w' s0
    have hc : w'.cell? ⟨g1, 32, none⟩ = some (.int .i64 n) := by
      rw [blk_cell s0 32, List.getElem?_toArray, List.getElem?_append_right (by rw [HH.out]; exact Nat.le_refl _), HH.out]
      rfl
    go_simp
    with_reducible rfl
  rotate_left
  · simp only [Act.put, List.setIfInBounds_toArray, List.set_cons_zero, List.set_cons_succ, i64_w, i32_w]
    rfl
  refine one_ (i := 2) (N := some 13) #[true, true, true, false, true, true, false, false, false] rfl rfl (one_of HT_.out (by kernel_rfl)) (by decide) (fun K hK => ?_)
  refine goes_ Tryd.func28 (by kernel_rfl) rfl #[.agg hs.toArray] (by rfl) rfl rfl (by (try simp only [List.map_toArray, List.map_cons, List.map_nil]); first | done | rfl) ?_
  refine (HTA.out _).mono ?_
  rintro e w5 ⟨rfl, hb⟩
  refine ⟨_, rfl, ?_⟩
  have n0_ := Aside0.mk (blk_below BK3.out hb)
  have n1_ := Aside0.mk (below_step HB3.out hb)
  clear BK3 HB3 hb
  have BK3 := n0_
  have HB3 := n1_
  clear n0_ n1_
  refine hK.out _ _ BK3.out (fun hHeld => ?_)
  clear hK K
  refine norm_ (a' := ?_) ?_ ?_
  rotate_left
  · show Act.put _ (some 13) _ = _
    simp only [Act.put, List.setIfInBounds_toArray, List.set_cons_zero, List.set_cons_succ, i64_w, i32_w]
    rfl
  refine pure_ (i := 3) (N := some 14) (v := ?_) (a' := ?_) #[true, true, true, true, true, true, false, false, false] rfl rfl (any_of HT_.out (by kernel_rfl)) (fun _ _ _ h => h) (Or.inl ⟨by rfl, ?_⟩) ?_ ?_
  rotate_left
  · intro w'
    go_simp
    with_reducible rfl
  rotate_left
  · simp only [Act.put, List.setIfInBounds_toArray, List.set_cons_zero, List.set_cons_succ, i64_w, i32_w]
    rfl
  refine one_ (i := 6) (N := some 17) #[true, true, true, true, true, true, true, false, false] rfl rfl (one_of HT_.out (by kernel_rfl)) (by decide) (fun K hK => ?_)
  refine goes_ Tryd.func29 (by kernel_rfl) rfl #[.int .i64 n] (by rfl) rfl rfl (by (try simp only [List.map_toArray, List.map_cons, List.map_nil]); first | done | rfl) ?_
  refine (HDB.out _).mono ?_
  rintro e w6 ⟨rfl, hb⟩
  refine ⟨_, rfl, ?_⟩
  have n0_ := Aside0.mk (blk_below BK3.out hb)
  have n1_ := Aside0.mk (below_step HB3.out hb)
  clear BK3 HB3 hb
  have BK3 := n0_
  have HB3 := n1_
  clear n0_ n1_
  refine hK.out _ _ BK3.out (fun hHeld => ?_)
  clear hK K
  refine norm_ (a' := ?_) ?_ ?_
  rotate_left
  · show Act.put _ (some 17) _ = _
    simp only [Act.put, List.setIfInBounds_toArray, List.set_cons_zero, List.set_cons_succ, i64_w, i32_w]
    rfl
  refine pure_ (i := 7) (N := some 18) (v := ?_) (a' := ?_) #[true, true, true, true, true, true, true, true, false] rfl rfl (any_of HT_.out (by kernel_rfl)) (fun _ _ _ h => h) (Or.inl ⟨by rfl, ?_⟩) ?_ ?_
  rotate_left
  · intro w'
    go_simp
    with_reducible rfl
  rotate_left
  · simp only [Act.put, List.setIfInBounds_toArray, List.set_cons_zero, List.set_cons_succ, i64_w, i32_w]
    rfl
  refine pure_ (i := 8) (N := some 2) (v := ?_) (a' := ?_) #[true, true, true, true, true, true, true, true, true] rfl rfl (any_of HT_.out (by kernel_rfl)) (fun _ _ _ h => h) (Or.inl ⟨by rfl, ?_⟩) ?_ ?_
  rotate_left
  · intro w'
    go_simp
    with_reducible rfl
  rotate_left
  · simp only [Act.put, List.setIfInBounds_toArray, List.set_cons_zero, List.set_cons_succ, i64_w, i32_w]
    rfl
  refine done_ (done_of HT_.out (by kernel_rfl)) ?_
  try go_wp2
  go_ret
  exact ⟨rfl, HB3.out⟩
set_option maxHeartbeats 4000000 in
set_option maxRecDepth 100000 in
/-- Function 11: an outpoint as a text, by its callees' answers t, d. -/
theorem ptxt11 (x : S25) (t d : ByteArray) (ht : t.size ≤ 64) (hd : d.size ≤ 64) (HT : ∀ w, Calls Tryd.prog 30 #[.agg ((bsO x).map (Value.int .u8)).toArray] w fun e w' => e = .returned (.string t) ∧ Below w.heap.size w w')
    (HD : 0 ≤ x.f1 → x.f1 ≤ 99 → ∀ w, Calls Tryd.prog 31 #[.int .i64 x.f1] w fun e w' => e = .returned (.string d) ∧ Below w.heap.size w w') (w : World) :
    Calls Tryd.prog 11 #[.agg (encO x).toArray] w fun e w' => e = .returned (.string (if x.f1 < 0 then ⟨#[]⟩ else if x.f1 > 99 then ⟨#[]⟩ else t ++ ⟨#[58]⟩ ++ d)) ∧ Below w.heap.size w w' := by
  have HTA := Aside0.mk HT
  have HDA := Aside0.mk HD
  clear HT HD
  obtain ⟨hs, hhs⟩ : ∃ hs, hs = (bsO x).map (Value.int .u8) := ⟨_, rfl⟩
  obtain ⟨cs, hcs⟩ : ∃ cs, cs = (encO x).toArray := ⟨_, rfl⟩
  have HC := Aside0.mk (show cs = (hs ++ [Value.int .i64 x.f1]).toArray by rw [hcs, hhs]; rfl)
  have HH := Aside0.mk (show hs.length = 32 by rw [hhs]; rfl)
  rw [← hhs] at HTA
  rw [← hcs]
  clear hcs hhs
  obtain ⟨n, hn⟩ : ∃ n, n = x.f1 := ⟨_, rfl⟩
  rw [← hn] at HDA HC ⊢
  clear hn
  have HB := Aside0.mk (Below.refl w.heap.size w)
  by_cases n0 : n < 0
  · rw [if_pos n0]
    have c0 : decide (n < 0) = true := decide_eq_true n0
    go_enter Tryd.func11, Tryd.ntmps11
    go_wp2_with (((with_reducible refine gate_dst (N := 1) rfl ?_); refine box_event ?hg (N := 1) ?hd (cs := cs) (t := 25) ?hr ?_; (case hd => rfl); (case hg => rfl); (case hr => first | (go_simp; done) | (go_simp; rfl)); intro g1 hg w3 hbox hb; have HB3 := Aside0.mk (below_step HB.out hb); have hc32 : w3.cell? ⟨g1, 32, none⟩ = some (.int .i64 n) := (by rw [blk_cell hbox 32, HC.out, List.getElem?_toArray, List.getElem?_append_right (by rw [HH.out]; exact Nat.le_refl _), HH.out]; rfl); clear HB hbox hb hg))
    go_ret
    exact ⟨rfl, HB3.out⟩
  rw [if_neg n0]
  have c0 : decide (n < 0) = false := decide_eq_false n0
  by_cases n1 : n > 99
  · rw [if_pos n1]
    have c1 : decide (n > 99) = true := decide_eq_true n1
    have c2 : decide (99 < n) = true := decide_eq_true n1
    clear n0
    go_enter Tryd.func11, Tryd.ntmps11
    go_wp2_with (((with_reducible refine gate_dst (N := 1) rfl ?_); refine box_event ?hg (N := 1) ?hd (cs := cs) (t := 25) ?hr ?_; (case hd => rfl); (case hg => rfl); (case hr => first | (go_simp; done) | (go_simp; rfl)); intro g1 hg w3 hbox hb; have HB3 := Aside0.mk (below_step HB.out hb); have hc32 : w3.cell? ⟨g1, 32, none⟩ = some (.int .i64 n) := (by rw [blk_cell hbox 32, HC.out, List.getElem?_toArray, List.getElem?_append_right (by rw [HH.out]; exact Nat.le_refl _), HH.out]; rfl); clear HB hbox hb hg))
    go_ret
    exact ⟨rfl, HB3.out⟩
  rw [if_neg n1]
  have c1 : decide (n > 99) = false := decide_eq_false n1
  have c2 : decide (99 < n) = false := decide_eq_false n1
  have HDB := Aside0.mk (HDA.out (by omega) (by omega))
  clear HDA n0 n1
  have z1 := eq_false (show ¬ 9223372036854775807 < t.size + 1 by omega)
  have z2 := eq_false (show ¬ 9223372036854775807 < t.size + 1 + d.size by omega)
  go_enter Tryd.func11, Tryd.ntmps11
  go_wp2_with (((with_reducible refine gate_dst (N := 1) rfl ?_); refine box_event ?hg (N := 1) ?hd (cs := cs) (t := 25) ?hr ?_; (case hd => rfl); (case hg => rfl); (case hr => first | (go_simp; done) | (go_simp; rfl)); intro g1 hg w3 hbox hb; have HB3 := Aside0.mk (below_step HB.out hb); have BK3 := Aside0.mk (show w3.heap[g1]? = some (.cells (hs ++ [Value.int .i64 n]).toArray 25 (0, 0)) by rw [← HC.out]; exact hbox); have hc32 : w3.cell? ⟨g1, 32, none⟩ = some (.int .i64 n) := (by rw [blk_cell hbox 32, HC.out, List.getElem?_toArray, List.getElem?_append_right (by rw [HH.out]; exact Nat.le_refl _), HH.out]; rfl); clear HB hbox hb hg))
  have n0_ := Aside0.mk (blk_drew BK3.out)
  have n1_ := Aside0.mk (below_drew1 HB3.out)
  clear BK3 HB3 hc32
  have BK3 := n0_
  have HB3 := n1_
  clear n0_ n1_
  refine start_ (n := 9) (S := fun w' => w'.heap[g1]? = some (.cells (hs ++ [Value.int .i64 n]).toArray 25 (0, 0))) (ds := []) #[false, false, false, false, false, false, false, false, false] (by kernel_rfl) rfl rfl BK3.out (fun hHeld => ?_)
  refine with_tabW tab11 bits11 (fun HT_ HW_ => ?_)
  generalize w3.drew = w4 at BK3 HB3 hHeld ⊢
  refine pure_ (i := 0) (N := some 11) (v := ?_) (a' := ?_) #[true, false, false, false, false, false, false, false, false] rfl rfl (any_of HT_.out (by kernel_rfl)) (fun _ _ _ h => h) (Or.inl ⟨by rfl, ?_⟩) ?_ ?_
  rotate_left
  · intro w'
    go_simp
    with_reducible rfl
  rotate_left
  · simp only [Act.put, List.setIfInBounds_toArray, List.set_cons_zero, List.set_cons_succ, i64_w, i32_w]
    rfl
  refine pure_ (i := 4) (N := some 15) (v := ?_) (a' := ?_) #[true, false, false, false, true, false, false, false, false] rfl rfl (any_of HT_.out (by kernel_rfl)) (fun _ _ _ h => h) (Or.inl ⟨by rfl, ?_⟩) ?_ ?_
  rotate_left
  · intro w'
    go_simp
    with_reducible rfl
  rotate_left
  · simp only [Act.put, List.setIfInBounds_toArray, List.set_cons_zero, List.set_cons_succ, i64_w, i32_w]
    rfl
  refine take_ (i := 1) (N := some 12) (v := ?_) (a' := ?_) #[true, true, false, false, true, false, false, false, false] rfl rfl (take_ofW HT_.out HW_.out (by kernel_rfl)) (fun _ _ _ h => h) (Or.inl ⟨by rfl, ?_⟩) hHeld ?_ ?_
  rotate_left
  · intro w' s0
    have hc := cells_pre 32 hs [Value.int .i64 n] HH.out s0
    go_simp
    with_reducible rfl
  rotate_left
  · simp only [Act.put, List.setIfInBounds_toArray, List.set_cons_zero, List.set_cons_succ, i64_w, i32_w]
    rfl
  refine take_ (i := 5) (N := some 16) (v := ?_) (a' := ?_) #[true, true, false, false, true, true, false, false, false] rfl rfl (take_ofW HT_.out HW_.out (by kernel_rfl)) (fun _ _ _ h => h) (Or.inl ⟨by rfl, ?_⟩) hHeld ?_ ?_
  rotate_left
  · intro w' s0
    have hc : w'.cell? ⟨g1, 32, none⟩ = some (.int .i64 n) := by
      rw [blk_cell s0 32, List.getElem?_toArray, List.getElem?_append_right (by rw [HH.out]; exact Nat.le_refl _), HH.out]
      rfl
    go_simp
    with_reducible rfl
  rotate_left
  · simp only [Act.put, List.setIfInBounds_toArray, List.set_cons_zero, List.set_cons_succ, i64_w, i32_w]
    rfl
  refine one_ (i := 2) (N := some 13) #[true, true, true, false, true, true, false, false, false] rfl rfl (one_of HT_.out (by kernel_rfl)) (by decide) (fun K hK => ?_)
  refine goes_ Tryd.func30 (by kernel_rfl) rfl #[.agg hs.toArray] (by rfl) rfl rfl (by (try simp only [List.map_toArray, List.map_cons, List.map_nil]); first | done | rfl) ?_
  refine (HTA.out _).mono ?_
  rintro e w5 ⟨rfl, hb⟩
  refine ⟨_, rfl, ?_⟩
  have n0_ := Aside0.mk (blk_below BK3.out hb)
  have n1_ := Aside0.mk (below_step HB3.out hb)
  clear BK3 HB3 hb
  have BK3 := n0_
  have HB3 := n1_
  clear n0_ n1_
  refine hK.out _ _ BK3.out (fun hHeld => ?_)
  clear hK K
  refine norm_ (a' := ?_) ?_ ?_
  rotate_left
  · show Act.put _ (some 13) _ = _
    simp only [Act.put, List.setIfInBounds_toArray, List.set_cons_zero, List.set_cons_succ, i64_w, i32_w]
    rfl
  refine pure_ (i := 3) (N := some 14) (v := ?_) (a' := ?_) #[true, true, true, true, true, true, false, false, false] rfl rfl (any_of HT_.out (by kernel_rfl)) (fun _ _ _ h => h) (Or.inl ⟨by rfl, ?_⟩) ?_ ?_
  rotate_left
  · intro w'
    go_simp
    with_reducible rfl
  rotate_left
  · simp only [Act.put, List.setIfInBounds_toArray, List.set_cons_zero, List.set_cons_succ, i64_w, i32_w]
    rfl
  refine one_ (i := 6) (N := some 17) #[true, true, true, true, true, true, true, false, false] rfl rfl (one_of HT_.out (by kernel_rfl)) (by decide) (fun K hK => ?_)
  refine goes_ Tryd.func31 (by kernel_rfl) rfl #[.int .i64 n] (by rfl) rfl rfl (by (try simp only [List.map_toArray, List.map_cons, List.map_nil]); first | done | rfl) ?_
  refine (HDB.out _).mono ?_
  rintro e w6 ⟨rfl, hb⟩
  refine ⟨_, rfl, ?_⟩
  have n0_ := Aside0.mk (blk_below BK3.out hb)
  have n1_ := Aside0.mk (below_step HB3.out hb)
  clear BK3 HB3 hb
  have BK3 := n0_
  have HB3 := n1_
  clear n0_ n1_
  refine hK.out _ _ BK3.out (fun hHeld => ?_)
  clear hK K
  refine norm_ (a' := ?_) ?_ ?_
  rotate_left
  · show Act.put _ (some 17) _ = _
    simp only [Act.put, List.setIfInBounds_toArray, List.set_cons_zero, List.set_cons_succ, i64_w, i32_w]
    rfl
  refine pure_ (i := 7) (N := some 18) (v := ?_) (a' := ?_) #[true, true, true, true, true, true, true, true, false] rfl rfl (any_of HT_.out (by kernel_rfl)) (fun _ _ _ h => h) (Or.inl ⟨by rfl, ?_⟩) ?_ ?_
  rotate_left
  · intro w'
    go_simp
    with_reducible rfl
  rotate_left
  · simp only [Act.put, List.setIfInBounds_toArray, List.set_cons_zero, List.set_cons_succ, i64_w, i32_w]
    rfl
  refine pure_ (i := 8) (N := some 2) (v := ?_) (a' := ?_) #[true, true, true, true, true, true, true, true, true] rfl rfl (any_of HT_.out (by kernel_rfl)) (fun _ _ _ h => h) (Or.inl ⟨by rfl, ?_⟩) ?_ ?_
  rotate_left
  · intro w'
    go_simp
    with_reducible rfl
  rotate_left
  · simp only [Act.put, List.setIfInBounds_toArray, List.set_cons_zero, List.set_cons_succ, i64_w, i32_w]
    rfl
  refine done_ (done_of HT_.out (by kernel_rfl)) ?_
  try go_wp2
  go_ret
  exact ⟨rfl, HB3.out⟩
end Go.Proofs.YtmoecidfmgeafaaDoor.Txt
