/- A text as an outpoint: what the document's PointParse answers, at every text. -/
import Derived.Test.YtmoecidfmgeafaaDoorTxtG
namespace Go.Proofs.YtmoecidfmgeafaaDoor.Txt
open Go.RowKit Go.Proofs.YtmoecidfmgeafaaDoor.QPnt Go.Proofs.YtmoecidfmgeafaaDoorW.PrintWords Go.Proofs.YtmoecidfmgeafaaDoorW.PrintLast Go.Proofs.YtmoecidfmgeafaaDoorW.PrintMore
attribute [local go_sem] Go.Proofs.YtmoecidfmgeafaaDoor.Wide.cellsAt_drewN Go.Proofs.YtmoecidfmgeafaaDoor.Wide.cellsAt_drew Go.Proofs.YtmoecidfmgeafaaDoor.Wide.lw32 Go.Proofs.YtmoecidfmgeafaaDoor.Wide.lw33
attribute [local go_sem ↓ high] Go.Proofs.YtmoecidfmgeafaaDoor.Wide.hv32 Go.Proofs.YtmoecidfmgeafaaDoor.Wide.hv33
set_option linter.unusedVariables false
set_option linter.unusedSimpArgs false
/-- The number that signs come to. -/
def numF (l : List UInt8) : Int := l.foldl (fun n c => 10 * n + ((c.toNat : Nat) : Int) - 48) 0
theorem wr3 (n x : Int) (h0 : -1000 ≤ n) (h1 : n ≤ 10000) (h2 : 0 ≤ x) (h3 : x < 256) : wrap64 x = x ∧ wrap64 (10 * n) = 10 * n ∧ wrap64 (10 * n + x) = 10 * n + x ∧ wrap64 (10 * n + x - 48) = 10 * n + x - 48 := by
  unfold wrap64
  exact ⟨by omega, by omega, by omega, by omega⟩
theorem numF_snoc (l : List UInt8) (c : UInt8) : numF (l ++ [c]) = 10 * numF l + ((c.toNat : Nat) : Int) - 48 := by
  unfold numF
  rw [List.foldl_append]
  rfl
theorem numF_bound : ∀ l : List UInt8, l.length ≤ 2 → -1000 ≤ numF l ∧ numF l ≤ 10000
  | [], _ => by decide
  | [a], _ => by
    have h := numF_snoc [] a
    have := a.toNat_lt
    rw [List.nil_append] at h
    rw [h]
    have : numF [] = 0 := rfl
    omega
  | [a, b], _ => by
    have h := numF_snoc [a] b
    have h2 := numF_snoc [] a
    have := a.toNat_lt
    have := b.toNat_lt
    rw [List.nil_append] at h2
    have : numF [] = 0 := rfl
    rw [show [a, b] = [a] ++ [b] from rfl, h, h2]
    omega
  | _ :: _ :: _ :: _, h => by simp only [List.length_cons] at h; omega
open Classical in
/-- A text as an outpoint, as the document says. -/
noncomputable def rp (s : ByteArray) : S25 × Bool :=
  if 66 ≤ s.size ∧ s.size ≤ 67 then
    if (hparse (s.extract 0 64).data.toList).2 = true ∧ pt (ofL (hparse (s.extract 0 64).data.toList).1 (numF (s.data.toList.drop 65))) = s then (ofL (hparse (s.extract 0 64).data.toList).1 (numF (s.data.toList.drop 65)), true) else (z25, false)
  else (z25, false)
set_option maxHeartbeats 8000000 in
set_option maxRecDepth 100000 in
theorem rpparse (s : ByteArray) (w : World) : Calls Tryd.prog 9 #[.string s] w fun e w' => e = .returned (.tuple #[.agg (encO (rp s).1).toArray, .bool (rp s).2]) ∧ Below w.heap.size w w' := by
  have HB := Aside0.mk (Below.refl w.heap.size w)
  by_cases h66 : s.size < 66
  · have HR : Aside0 (rp s = (z25, false)) := ⟨by unfold rp; rw [if_neg (by omega)]⟩
    have q1 := eq_true (show (s.size : Int) < 66 by omega)
    have q2 := eq_true h66
    clear h66
    go_enter Tryd.func9, Tryd.ntmps9
    go_wp2_with (first | ((with_reducible refine gate_dst (N := 2) rfl ?_); refine box_event ?hg2 (N := 2) ?hd2 (cs := #[.int .u8 0, .int .u8 0, .int .u8 0, .int .u8 0, .int .u8 0, .int .u8 0, .int .u8 0, .int .u8 0, .int .u8 0, .int .u8 0, .int .u8 0, .int .u8 0, .int .u8 0, .int .u8 0, .int .u8 0, .int .u8 0, .int .u8 0, .int .u8 0, .int .u8 0, .int .u8 0, .int .u8 0, .int .u8 0, .int .u8 0, .int .u8 0, .int .u8 0, .int .u8 0, .int .u8 0, .int .u8 0, .int .u8 0, .int .u8 0, .int .u8 0, .int .u8 0, .int .i64 0]) (t := 25) ?hr2 ?_; (case hd2 => rfl); (case hg2 => rfl); (case hr2 => first | (go_simp; done) | (go_simp; rfl)); intro g2 hg w3 hbox hb; have HB3 := Aside0.mk (below_step HB.out hb); have HG := Aside0.mk (show w.heap.size ≤ g2 by rw [hg]; exact Nat.le_refl _); have BK3 := Aside0.mk hbox; have HZ3 := Aside0.mk hb.size; clear hbox hb hg) | (refine Go.Proofs.YtmoecidfmgeafaaDoor.PutW.store_event rfl rfl 25 (.tmp 2) (.tmp 17) rfl (g := g2) (cells := #[.int .u8 0, .int .u8 0, .int .u8 0, .int .u8 0, .int .u8 0, .int .u8 0, .int .u8 0, .int .u8 0, .int .u8 0, .int .u8 0, .int .u8 0, .int .u8 0, .int .u8 0, .int .u8 0, .int .u8 0, .int .u8 0, .int .u8 0, .int .u8 0, .int .u8 0, .int .u8 0, .int .u8 0, .int .u8 0, .int .u8 0, .int .u8 0, .int .u8 0, .int .u8 0, .int .u8 0, .int .u8 0, .int .u8 0, .int .u8 0, .int .u8 0, .int .u8 0, .int .i64 0]) rfl rfl BK3.out rfl (by kernel_rfl) (by kernel_rfl) ?_; intro w8 hz8 hs8 hg8; have BK8 := Aside0.mk hz8; have HB8 := Aside0.mk (pw_below_grown HB3.out (some g2) HB3.out.size hg8 (fun k e => by cases e; exact HG.out)); clear hz8 hs8 hg8))
    refine bodyPost_ret (results_ct rfl _ _ g2 25 #[.int .u8 0, .int .u8 0, .int .u8 0, .int .u8 0, .int .u8 0, .int .u8 0, .int .u8 0, .int .u8 0, .int .u8 0, .int .u8 0, .int .u8 0, .int .u8 0, .int .u8 0, .int .u8 0, .int .u8 0, .int .u8 0, .int .u8 0, .int .u8 0, .int .u8 0, .int .u8 0, .int .u8 0, .int .u8 0, .int .u8 0, .int .u8 0, .int .u8 0, .int .u8 0, .int .u8 0, .int .u8 0, .int .u8 0, .int .u8 0, .int .u8 0, .int .u8 0, .int .i64 0] (0, 0) _ rfl BK8.out Tryd.underlying25 rfl (by kernel_rfl)) rfl ?_
    exact ⟨by rw [HR.out]; rfl, HB8.out⟩
  by_cases h67 : 67 < s.size
  · have HR : Aside0 (rp s = (z25, false)) := ⟨by unfold rp; rw [if_neg (by omega)]⟩
    have q1 := eq_false (show ¬ (s.size : Int) < 66 by omega)
    have q2 := eq_false h66
    have q3 := eq_true (show 67 < (s.size : Int) by omega)
    have q4 := eq_true h67
    clear h66 h67
    go_enter Tryd.func9, Tryd.ntmps9
    go_wp2_with (first | ((with_reducible refine gate_dst (N := 2) rfl ?_); refine box_event ?hg2 (N := 2) ?hd2 (cs := #[.int .u8 0, .int .u8 0, .int .u8 0, .int .u8 0, .int .u8 0, .int .u8 0, .int .u8 0, .int .u8 0, .int .u8 0, .int .u8 0, .int .u8 0, .int .u8 0, .int .u8 0, .int .u8 0, .int .u8 0, .int .u8 0, .int .u8 0, .int .u8 0, .int .u8 0, .int .u8 0, .int .u8 0, .int .u8 0, .int .u8 0, .int .u8 0, .int .u8 0, .int .u8 0, .int .u8 0, .int .u8 0, .int .u8 0, .int .u8 0, .int .u8 0, .int .u8 0, .int .i64 0]) (t := 25) ?hr2 ?_; (case hd2 => rfl); (case hg2 => rfl); (case hr2 => first | (go_simp; done) | (go_simp; rfl)); intro g2 hg w3 hbox hb; have HB3 := Aside0.mk (below_step HB.out hb); have HG := Aside0.mk (show w.heap.size ≤ g2 by rw [hg]; exact Nat.le_refl _); have BK3 := Aside0.mk hbox; have HZ3 := Aside0.mk hb.size; clear hbox hb hg) | (refine Go.Proofs.YtmoecidfmgeafaaDoor.PutW.store_event rfl rfl 25 (.tmp 2) (.tmp 17) rfl (g := g2) (cells := #[.int .u8 0, .int .u8 0, .int .u8 0, .int .u8 0, .int .u8 0, .int .u8 0, .int .u8 0, .int .u8 0, .int .u8 0, .int .u8 0, .int .u8 0, .int .u8 0, .int .u8 0, .int .u8 0, .int .u8 0, .int .u8 0, .int .u8 0, .int .u8 0, .int .u8 0, .int .u8 0, .int .u8 0, .int .u8 0, .int .u8 0, .int .u8 0, .int .u8 0, .int .u8 0, .int .u8 0, .int .u8 0, .int .u8 0, .int .u8 0, .int .u8 0, .int .u8 0, .int .i64 0]) rfl rfl BK3.out rfl (by kernel_rfl) (by kernel_rfl) ?_; intro w8 hz8 hs8 hg8; have BK8 := Aside0.mk hz8; have HB8 := Aside0.mk (pw_below_grown HB3.out (some g2) HB3.out.size hg8 (fun k e => by cases e; exact HG.out)); clear hz8 hs8 hg8))
    refine bodyPost_ret (results_ct rfl _ _ g2 25 #[.int .u8 0, .int .u8 0, .int .u8 0, .int .u8 0, .int .u8 0, .int .u8 0, .int .u8 0, .int .u8 0, .int .u8 0, .int .u8 0, .int .u8 0, .int .u8 0, .int .u8 0, .int .u8 0, .int .u8 0, .int .u8 0, .int .u8 0, .int .u8 0, .int .u8 0, .int .u8 0, .int .u8 0, .int .u8 0, .int .u8 0, .int .u8 0, .int .u8 0, .int .u8 0, .int .u8 0, .int .u8 0, .int .u8 0, .int .u8 0, .int .u8 0, .int .u8 0, .int .i64 0] (0, 0) _ rfl BK8.out Tryd.underlying25 rfl (by kernel_rfl)) rfl ?_
    exact ⟨by rw [HR.out]; rfl, HB8.out⟩
  have q1 := eq_false (show ¬ (s.size : Int) < 66 by omega)
  have q2 := eq_false h66
  have q3 := eq_false (show ¬ 67 < (s.size : Int) by omega)
  have q4 := eq_false h67
  have q5 := eq_true (show 64 ≤ (s.size : Int) by omega)
  have q6 := eq_true (show 64 ≤ s.size by omega)
  have HSZ := Aside0.mk (show 66 ≤ s.size ∧ s.size ≤ 67 by omega)
  obtain ⟨hs, ok, hpr⟩ : ∃ hs ok, hparse (s.extract 0 64).data.toList = (hs, ok) := ⟨_, _, rfl⟩
  have hlen : hs.length = 32 := by have := hparse_len (s.extract 0 64).data.toList; rw [hpr] at this; exact this
  have hbyt : ∀ v ∈ hs, 0 ≤ v ∧ v < 256 := by have := hparse_bytes (s.extract 0 64).data.toList; rw [hpr] at this; exact this
  have hrp : rp s = if ok = true ∧ pt (ofL hs (numF (s.data.toList.drop 65))) = s then (ofL hs (numF (s.data.toList.drop 65)), true) else (z25, false) := by
    unfold rp
    rw [if_pos (by omega), hpr]
  have hcells : (hs.map (Value.int .u8)).toArray = #[.int .u8 (ofL hs 0).f0.f0, .int .u8 (ofL hs 0).f0.f1, .int .u8 (ofL hs 0).f0.f2, .int .u8 (ofL hs 0).f0.f3, .int .u8 (ofL hs 0).f0.f4, .int .u8 (ofL hs 0).f0.f5, .int .u8 (ofL hs 0).f0.f6, .int .u8 (ofL hs 0).f0.f7, .int .u8 (ofL hs 0).f0.f8, .int .u8 (ofL hs 0).f0.f9, .int .u8 (ofL hs 0).f0.f10, .int .u8 (ofL hs 0).f0.f11, .int .u8 (ofL hs 0).f0.f12, .int .u8 (ofL hs 0).f0.f13, .int .u8 (ofL hs 0).f0.f14, .int .u8 (ofL hs 0).f0.f15, .int .u8 (ofL hs 0).f0.f16, .int .u8 (ofL hs 0).f0.f17, .int .u8 (ofL hs 0).f0.f18, .int .u8 (ofL hs 0).f0.f19, .int .u8 (ofL hs 0).f0.f20, .int .u8 (ofL hs 0).f0.f21, .int .u8 (ofL hs 0).f0.f22, .int .u8 (ofL hs 0).f0.f23, .int .u8 (ofL hs 0).f0.f24, .int .u8 (ofL hs 0).f0.f25, .int .u8 (ofL hs 0).f0.f26, .int .u8 (ofL hs 0).f0.f27, .int .u8 (ofL hs 0).f0.f28, .int .u8 (ofL hs 0).f0.f29, .int .u8 (ofL hs 0).f0.f30, .int .u8 (ofL hs 0).f0.f31] := by
    have e := bs_ofL hs hlen 0
    conv => lhs; rw [← e]
    rfl
  have HP : Aside0 (∀ w, Calls Tryd.prog 27 #[.string (s.extract 0 64)] w fun e w' => e = .returned (.tuple #[.agg #[.int .u8 (ofL hs 0).f0.f0, .int .u8 (ofL hs 0).f0.f1, .int .u8 (ofL hs 0).f0.f2, .int .u8 (ofL hs 0).f0.f3, .int .u8 (ofL hs 0).f0.f4, .int .u8 (ofL hs 0).f0.f5, .int .u8 (ofL hs 0).f0.f6, .int .u8 (ofL hs 0).f0.f7, .int .u8 (ofL hs 0).f0.f8, .int .u8 (ofL hs 0).f0.f9, .int .u8 (ofL hs 0).f0.f10, .int .u8 (ofL hs 0).f0.f11, .int .u8 (ofL hs 0).f0.f12, .int .u8 (ofL hs 0).f0.f13, .int .u8 (ofL hs 0).f0.f14, .int .u8 (ofL hs 0).f0.f15, .int .u8 (ofL hs 0).f0.f16, .int .u8 (ofL hs 0).f0.f17, .int .u8 (ofL hs 0).f0.f18, .int .u8 (ofL hs 0).f0.f19, .int .u8 (ofL hs 0).f0.f20, .int .u8 (ofL hs 0).f0.f21, .int .u8 (ofL hs 0).f0.f22, .int .u8 (ofL hs 0).f0.f23, .int .u8 (ofL hs 0).f0.f24, .int .u8 (ofL hs 0).f0.f25, .int .u8 (ofL hs 0).f0.f26, .int .u8 (ofL hs 0).f0.f27, .int .u8 (ofL hs 0).f0.f28, .int .u8 (ofL hs 0).f0.f29, .int .u8 (ofL hs 0).f0.f30, .int .u8 (ofL hs 0).f0.f31], .bool ok]) ∧ Below w.heap.size w w') := ⟨fun w => by
    have h := rparse (s.extract 0 64) w
    rw [hpr] at h
    rw [← hcells]
    exact h⟩
  have HRP := Aside0.mk hrp
  have HWF : Aside0 (∀ n, wfO (ofL hs n)) := ⟨fun n => by unfold wfO; rw [bs_ofL hs hlen n]; exact hbyt⟩
  clear h66 h67 hpr hlen hbyt hrp hcells
  go_enter Tryd.func9, Tryd.ntmps9
  go_wp2_with (first | ((with_reducible refine gate_dst (N := 2) rfl ?_); refine box_event ?hg2 (N := 2) ?hd2 (cs := #[.int .u8 0, .int .u8 0, .int .u8 0, .int .u8 0, .int .u8 0, .int .u8 0, .int .u8 0, .int .u8 0, .int .u8 0, .int .u8 0, .int .u8 0, .int .u8 0, .int .u8 0, .int .u8 0, .int .u8 0, .int .u8 0, .int .u8 0, .int .u8 0, .int .u8 0, .int .u8 0, .int .u8 0, .int .u8 0, .int .u8 0, .int .u8 0, .int .u8 0, .int .u8 0, .int .u8 0, .int .u8 0, .int .u8 0, .int .u8 0, .int .u8 0, .int .u8 0, .int .i64 0]) (t := 25) ?hr2 ?_; (case hd2 => rfl); (case hg2 => rfl); (case hr2 => first | (go_simp; done) | (go_simp; rfl)); intro g2 hg w3 hbox hb; have HB3 := Aside0.mk (below_step HB.out hb); have HG := Aside0.mk (show w.heap.size ≤ g2 by rw [hg]; exact Nat.le_refl _); have BK3 := Aside0.mk hbox; have HZ3 := Aside0.mk hb.size; clear hbox hb hg) | (go_at_call 27; refine (HP.out _).mono ?_; rintro e w4 ⟨rfl, hb⟩; have HB4 := Aside0.mk (below_step HB3.out hb); have BK4 := Aside0.mk (blk_below BK3.out hb); clear hb) | ((with_reducible refine gate_dst (N := 4) rfl ?_); refine box_event ?hg4 (N := 4) ?hd4 (cs := #[.int .u8 0, .int .u8 0, .int .u8 0, .int .u8 0, .int .u8 0, .int .u8 0, .int .u8 0, .int .u8 0, .int .u8 0, .int .u8 0, .int .u8 0, .int .u8 0, .int .u8 0, .int .u8 0, .int .u8 0, .int .u8 0, .int .u8 0, .int .u8 0, .int .u8 0, .int .u8 0, .int .u8 0, .int .u8 0, .int .u8 0, .int .u8 0, .int .u8 0, .int .u8 0, .int .u8 0, .int .u8 0, .int .u8 0, .int .u8 0, .int .u8 0, .int .u8 0]) (t := 23) ?hr4 ?_; (case hd4 => rfl); (case hg4 => rfl); (case hr4 => first | (go_simp; done) | (go_simp; rfl)); intro g4 hg w5 hbox hb; have HB5 := Aside0.mk (below_step HB4.out hb); have BK5 := Aside0.mk (blk_below BK4.out hb); have BH5 := Aside0.mk hbox; have HG4 := Aside0.mk (show w.heap.size ≤ g4 by rw [hg]; exact HB4.out.size); have HN4 := Aside0.mk (show g2 ≠ g4 by rw [hg]; exact fun e => by have := blk_lt BK4.out; omega); clear hbox hb hg) | (refine Go.Proofs.YtmoecidfmgeafaaDoor.PutW.store_event rfl rfl 23 (.tmp 4) (.tmp 22) rfl (g := g4) (cells := #[.int .u8 (ofL hs 0).f0.f0, .int .u8 (ofL hs 0).f0.f1, .int .u8 (ofL hs 0).f0.f2, .int .u8 (ofL hs 0).f0.f3, .int .u8 (ofL hs 0).f0.f4, .int .u8 (ofL hs 0).f0.f5, .int .u8 (ofL hs 0).f0.f6, .int .u8 (ofL hs 0).f0.f7, .int .u8 (ofL hs 0).f0.f8, .int .u8 (ofL hs 0).f0.f9, .int .u8 (ofL hs 0).f0.f10, .int .u8 (ofL hs 0).f0.f11, .int .u8 (ofL hs 0).f0.f12, .int .u8 (ofL hs 0).f0.f13, .int .u8 (ofL hs 0).f0.f14, .int .u8 (ofL hs 0).f0.f15, .int .u8 (ofL hs 0).f0.f16, .int .u8 (ofL hs 0).f0.f17, .int .u8 (ofL hs 0).f0.f18, .int .u8 (ofL hs 0).f0.f19, .int .u8 (ofL hs 0).f0.f20, .int .u8 (ofL hs 0).f0.f21, .int .u8 (ofL hs 0).f0.f22, .int .u8 (ofL hs 0).f0.f23, .int .u8 (ofL hs 0).f0.f24, .int .u8 (ofL hs 0).f0.f25, .int .u8 (ofL hs 0).f0.f26, .int .u8 (ofL hs 0).f0.f27, .int .u8 (ofL hs 0).f0.f28, .int .u8 (ofL hs 0).f0.f29, .int .u8 (ofL hs 0).f0.f30, .int .u8 (ofL hs 0).f0.f31]) rfl rfl BH5.out rfl (by kernel_rfl) (by kernel_rfl) ?_; intro w6 hz hs6 hg; have BH6 := Aside0.mk hz; have HB6 := Aside0.mk (pw_below_grown HB5.out (some g4) HB5.out.size hg (fun k e => by cases e; exact HG4.out)); have BK6 := Aside0.mk ((hg.block g2 (blk_lt BK5.out) (fun e => HN4.out (by injection e))).trans BK5.out); clear hz hs6 hg))
  go_loopg [6, 7] 4 (fun kq v6 v7 w' => ∃ k : Nat, v6 = .int .i64 (numF ((s.data.toList.drop 65).take k)) ∧ v7 = .int .i64 ((65 + k : Nat) : Int) ∧ Aside0 (65 + k ≤ s.size) ∧ Aside0 (kq = 4 - k) ∧ Aside0 (w'.heap[g2]? = some (.cells #[.int .u8 0, .int .u8 0, .int .u8 0, .int .u8 0, .int .u8 0, .int .u8 0, .int .u8 0, .int .u8 0, .int .u8 0, .int .u8 0, .int .u8 0, .int .u8 0, .int .u8 0, .int .u8 0, .int .u8 0, .int .u8 0, .int .u8 0, .int .u8 0, .int .u8 0, .int .u8 0, .int .u8 0, .int .u8 0, .int .u8 0, .int .u8 0, .int .u8 0, .int .u8 0, .int .u8 0, .int .u8 0, .int .u8 0, .int .u8 0, .int .u8 0, .int .u8 0, .int .i64 0] 25 (0, 0))) ∧ Aside0 (w'.heap[g4]? = some (.cells #[.int .u8 (ofL hs 0).f0.f0, .int .u8 (ofL hs 0).f0.f1, .int .u8 (ofL hs 0).f0.f2, .int .u8 (ofL hs 0).f0.f3, .int .u8 (ofL hs 0).f0.f4, .int .u8 (ofL hs 0).f0.f5, .int .u8 (ofL hs 0).f0.f6, .int .u8 (ofL hs 0).f0.f7, .int .u8 (ofL hs 0).f0.f8, .int .u8 (ofL hs 0).f0.f9, .int .u8 (ofL hs 0).f0.f10, .int .u8 (ofL hs 0).f0.f11, .int .u8 (ofL hs 0).f0.f12, .int .u8 (ofL hs 0).f0.f13, .int .u8 (ofL hs 0).f0.f14, .int .u8 (ofL hs 0).f0.f15, .int .u8 (ofL hs 0).f0.f16, .int .u8 (ofL hs 0).f0.f17, .int .u8 (ofL hs 0).f0.f18, .int .u8 (ofL hs 0).f0.f19, .int .u8 (ofL hs 0).f0.f20, .int .u8 (ofL hs 0).f0.f21, .int .u8 (ofL hs 0).f0.f22, .int .u8 (ofL hs 0).f0.f23, .int .u8 (ofL hs 0).f0.f24, .int .u8 (ofL hs 0).f0.f25, .int .u8 (ofL hs 0).f0.f26, .int .u8 (ofL hs 0).f0.f27, .int .u8 (ofL hs 0).f0.f28, .int .u8 (ofL hs 0).f0.f29, .int .u8 (ofL hs 0).f0.f30, .int .u8 (ofL hs 0).f0.f31] 23 (0, 0))) ∧ Aside0 (Below w.heap.size w w'))
  case atStart => exact ⟨0, rfl, rfl, ⟨by have := HSZ.out; omega⟩, ⟨rfl⟩, BK6, BH6, HB6⟩
  case round =>
    clear BK6 BH6 HB6
    obtain ⟨k, rfl, rfl, HKI, HKK, BK, BH, HB⟩ := hrel
    have hll := size_list s
    by_cases hk : 65 + k < s.size
    · obtain ⟨e, he⟩ : ∃ e : Nat, e = 65 + k := ⟨_, rfl⟩
      have hse : e < s.size := by omega
      have hsl : e < s.data.toList.length := by rw [hll]; exact hse
      obtain ⟨c, hc⟩ : ∃ c, c = s.data.toList[e] := ⟨_, rfl⟩
      have hget : s[e]'hse = c := by
        rw [hc, Array.getElem_toList]
        rfl
      obtain ⟨n, hn⟩ : ∃ n, n = numF ((s.data.toList.drop 65).take k) := ⟨_, rfl⟩
      have hnb : -1000 ≤ n ∧ n ≤ 10000 := by
        rw [hn]
        exact numF_bound _ (by rw [List.length_take]; have := HSZ.out; omega)
      have hcl := c.toNat_lt
      have hnx : numF ((s.data.toList.drop 65).take (k + 1)) = 10 * n + ((c.toNat : Nat) : Int) - 48 := by
        have hkl : k < (s.data.toList.drop 65).length := by rw [List.length_drop]; omega
        rw [List.take_succ_eq_append_getElem hkl, numF_snoc, ← hn]
        have : (s.data.toList.drop 65)[k] = c := by
          rw [List.getElem_drop, hc]
          congr 1
          exact he.symm
        rw [this]
      obtain ⟨x, hx⟩ : ∃ x : Int, x = ((c.toNat : Nat) : Int) := ⟨_, rfl⟩
      obtain ⟨n2, hn2⟩ : ∃ n2 : Int, n2 = 10 * n + x - 48 := ⟨_, rfl⟩
      obtain ⟨hxc, s1, s2, s30⟩ := wr3 n x hnb.1 hnb.2 (by omega) (by omega)
      have hxc : wrap64 ((c.toNat : Nat) : Int) = x := by rw [← hx]; exact hxc
      have s3 : wrap64 (10 * n + x - 48) = n2 := s30.trans hn2.symm
      clear s30
      have p1 := eq_true (show (0 : Int) ≤ (e : Int) by omega)
      have p2 := eq_true (show (e : Int) < (s.size : Int) by omega)
      have p4 := eq_true hse
      have HNX := Aside0.mk (show numF ((s.data.toList.drop 65).take (k + 1)) = n2 by rw [hnx, hn2, hx])
      have HE := Aside0.mk he
      have HKL := Aside0.mk hk
      rw [← hn, ← he]
      clear hll hk hsl hc hn hnb hcl hnx hx hn2 he
      go_wp2
      go_roundg (3 - k)
      case measure => have := HKK.out; have := HKL.out; have := HSZ.out; omega
      case rel => exact ⟨k + 1, by rw [HNX.out], by have := HE.out; have := HSZ.out; have := HKL.out; rw [show wrap64 ((e : Int) + 1) = ((65 + (k + 1) : Nat) : Int) by unfold wrap64; omega], ⟨by have := HKL.out; omega⟩, ⟨by omega⟩, BK, BH, HB⟩
    · have hke : 65 + k = s.size := by have := HKI.out; omega
      rw [hke, List.take_of_length_le (by rw [List.length_drop]; omega)]
      obtain ⟨n, hn⟩ : ∃ n, n = numF (s.data.toList.drop 65) := ⟨_, rfl⟩
      have hrp := HRP.out
      rw [← hn] at hrp ⊢
      have hl4 : Go.Proofs.YtmoecidfmgeafaaDoor.Wide.cellsAt wr ⟨g4, 0, none⟩ 32 = some (Value.int .u8 (ofL hs 0).f0.f0 :: Value.int .u8 (ofL hs 0).f0.f1 :: Value.int .u8 (ofL hs 0).f0.f2 :: Value.int .u8 (ofL hs 0).f0.f3 :: Value.int .u8 (ofL hs 0).f0.f4 :: Value.int .u8 (ofL hs 0).f0.f5 :: Value.int .u8 (ofL hs 0).f0.f6 :: Value.int .u8 (ofL hs 0).f0.f7 :: Value.int .u8 (ofL hs 0).f0.f8 :: Value.int .u8 (ofL hs 0).f0.f9 :: Value.int .u8 (ofL hs 0).f0.f10 :: Value.int .u8 (ofL hs 0).f0.f11 :: Value.int .u8 (ofL hs 0).f0.f12 :: Value.int .u8 (ofL hs 0).f0.f13 :: Value.int .u8 (ofL hs 0).f0.f14 :: Value.int .u8 (ofL hs 0).f0.f15 :: Value.int .u8 (ofL hs 0).f0.f16 :: Value.int .u8 (ofL hs 0).f0.f17 :: Value.int .u8 (ofL hs 0).f0.f18 :: Value.int .u8 (ofL hs 0).f0.f19 :: Value.int .u8 (ofL hs 0).f0.f20 :: Value.int .u8 (ofL hs 0).f0.f21 :: Value.int .u8 (ofL hs 0).f0.f22 :: Value.int .u8 (ofL hs 0).f0.f23 :: Value.int .u8 (ofL hs 0).f0.f24 :: Value.int .u8 (ofL hs 0).f0.f25 :: Value.int .u8 (ofL hs 0).f0.f26 :: Value.int .u8 (ofL hs 0).f0.f27 :: Value.int .u8 (ofL hs 0).f0.f28 :: Value.int .u8 (ofL hs 0).f0.f29 :: Value.int .u8 (ofL hs 0).f0.f30 :: Value.int .u8 (ofL hs 0).f0.f31 :: []) := cells_pre 32 (Value.int .u8 (ofL hs 0).f0.f0 :: Value.int .u8 (ofL hs 0).f0.f1 :: Value.int .u8 (ofL hs 0).f0.f2 :: Value.int .u8 (ofL hs 0).f0.f3 :: Value.int .u8 (ofL hs 0).f0.f4 :: Value.int .u8 (ofL hs 0).f0.f5 :: Value.int .u8 (ofL hs 0).f0.f6 :: Value.int .u8 (ofL hs 0).f0.f7 :: Value.int .u8 (ofL hs 0).f0.f8 :: Value.int .u8 (ofL hs 0).f0.f9 :: Value.int .u8 (ofL hs 0).f0.f10 :: Value.int .u8 (ofL hs 0).f0.f11 :: Value.int .u8 (ofL hs 0).f0.f12 :: Value.int .u8 (ofL hs 0).f0.f13 :: Value.int .u8 (ofL hs 0).f0.f14 :: Value.int .u8 (ofL hs 0).f0.f15 :: Value.int .u8 (ofL hs 0).f0.f16 :: Value.int .u8 (ofL hs 0).f0.f17 :: Value.int .u8 (ofL hs 0).f0.f18 :: Value.int .u8 (ofL hs 0).f0.f19 :: Value.int .u8 (ofL hs 0).f0.f20 :: Value.int .u8 (ofL hs 0).f0.f21 :: Value.int .u8 (ofL hs 0).f0.f22 :: Value.int .u8 (ofL hs 0).f0.f23 :: Value.int .u8 (ofL hs 0).f0.f24 :: Value.int .u8 (ofL hs 0).f0.f25 :: Value.int .u8 (ofL hs 0).f0.f26 :: Value.int .u8 (ofL hs 0).f0.f27 :: Value.int .u8 (ofL hs 0).f0.f28 :: Value.int .u8 (ofL hs 0).f0.f29 :: Value.int .u8 (ofL hs 0).f0.f30 :: Value.int .u8 (ofL hs 0).f0.f31 :: []) [] rfl BH.out
      clear hk hke hn hll HRP
      cases ok with
      | false =>
        have HR : Aside0 (rp s = (z25, false)) := ⟨by rw [hrp]; simp only [Bool.false_eq_true, false_and, if_false]⟩
        clear hrp
        go_wp2_with (first | ((with_reducible refine gate_dst (N := 8) rfl ?_); refine box_event ?hg8 (N := 8) ?hd8 (cs := #[.int .u8 0, .int .u8 0, .int .u8 0, .int .u8 0, .int .u8 0, .int .u8 0, .int .u8 0, .int .u8 0, .int .u8 0, .int .u8 0, .int .u8 0, .int .u8 0, .int .u8 0, .int .u8 0, .int .u8 0, .int .u8 0, .int .u8 0, .int .u8 0, .int .u8 0, .int .u8 0, .int .u8 0, .int .u8 0, .int .u8 0, .int .u8 0, .int .u8 0, .int .u8 0, .int .u8 0, .int .u8 0, .int .u8 0, .int .u8 0, .int .u8 0, .int .u8 0, .int .i64 0]) (t := 25) ?hr8 ?_; (case hd8 => rfl); (case hg8 => rfl); (case hr8 => first | (go_simp; done) | (go_simp; rfl)); intro g8 hg w7 hbox hb; have HB7 := Aside0.mk (below_step HB.out hb); have BK7 := Aside0.mk (blk_below BK.out hb); have BP7 := Aside0.mk hbox; have HG8 := Aside0.mk (show w.heap.size ≤ g8 by rw [hg]; exact HB.out.size); have HN8 := Aside0.mk (show g2 ≠ g8 by rw [hg]; exact fun e => by have := blk_lt BK.out; omega); clear hbox hb hg) | (refine Go.Proofs.YtmoecidfmgeafaaDoor.PutW.store_event rfl rfl 25 (.tmp 8) (.tmp 40) rfl (g := g8) (cells := #[.int .u8 (ofL hs 0).f0.f0, .int .u8 (ofL hs 0).f0.f1, .int .u8 (ofL hs 0).f0.f2, .int .u8 (ofL hs 0).f0.f3, .int .u8 (ofL hs 0).f0.f4, .int .u8 (ofL hs 0).f0.f5, .int .u8 (ofL hs 0).f0.f6, .int .u8 (ofL hs 0).f0.f7, .int .u8 (ofL hs 0).f0.f8, .int .u8 (ofL hs 0).f0.f9, .int .u8 (ofL hs 0).f0.f10, .int .u8 (ofL hs 0).f0.f11, .int .u8 (ofL hs 0).f0.f12, .int .u8 (ofL hs 0).f0.f13, .int .u8 (ofL hs 0).f0.f14, .int .u8 (ofL hs 0).f0.f15, .int .u8 (ofL hs 0).f0.f16, .int .u8 (ofL hs 0).f0.f17, .int .u8 (ofL hs 0).f0.f18, .int .u8 (ofL hs 0).f0.f19, .int .u8 (ofL hs 0).f0.f20, .int .u8 (ofL hs 0).f0.f21, .int .u8 (ofL hs 0).f0.f22, .int .u8 (ofL hs 0).f0.f23, .int .u8 (ofL hs 0).f0.f24, .int .u8 (ofL hs 0).f0.f25, .int .u8 (ofL hs 0).f0.f26, .int .u8 (ofL hs 0).f0.f27, .int .u8 (ofL hs 0).f0.f28, .int .u8 (ofL hs 0).f0.f29, .int .u8 (ofL hs 0).f0.f30, .int .u8 (ofL hs 0).f0.f31, .int .i64 n]) rfl rfl BP7.out rfl (by kernel_rfl) (by kernel_rfl) ?_; intro w8 hz hs6 hg; have BP8 := Aside0.mk hz; have HB8 := Aside0.mk (pw_below_grown HB7.out (some g8) HB7.out.size hg (fun k e => by cases e; exact HG8.out)); have BK8 := Aside0.mk ((hg.block g2 (blk_lt BK7.out) (fun e => HN8.out (by injection e))).trans BK7.out); clear hz hs6 hg) | (refine Go.Proofs.YtmoecidfmgeafaaDoor.PutW.store_event rfl rfl 25 (.tmp 2) (.tmp 49) rfl (g := g2) (cells := #[.int .u8 0, .int .u8 0, .int .u8 0, .int .u8 0, .int .u8 0, .int .u8 0, .int .u8 0, .int .u8 0, .int .u8 0, .int .u8 0, .int .u8 0, .int .u8 0, .int .u8 0, .int .u8 0, .int .u8 0, .int .u8 0, .int .u8 0, .int .u8 0, .int .u8 0, .int .u8 0, .int .u8 0, .int .u8 0, .int .u8 0, .int .u8 0, .int .u8 0, .int .u8 0, .int .u8 0, .int .u8 0, .int .u8 0, .int .u8 0, .int .u8 0, .int .u8 0, .int .i64 0]) rfl rfl BK8.out rfl (by kernel_rfl) (by kernel_rfl) ?_; intro w10 hz10 hs10 hg10; have BK10 := Aside0.mk hz10; have HB10 := Aside0.mk (pw_below_grown HB8.out (some g2) HB8.out.size hg10 (fun k e => by cases e; exact HG.out)); clear hz10 hs10 hg10))
        refine bodyPost_ret (results_ct rfl _ _ g2 25 #[.int .u8 0, .int .u8 0, .int .u8 0, .int .u8 0, .int .u8 0, .int .u8 0, .int .u8 0, .int .u8 0, .int .u8 0, .int .u8 0, .int .u8 0, .int .u8 0, .int .u8 0, .int .u8 0, .int .u8 0, .int .u8 0, .int .u8 0, .int .u8 0, .int .u8 0, .int .u8 0, .int .u8 0, .int .u8 0, .int .u8 0, .int .u8 0, .int .u8 0, .int .u8 0, .int .u8 0, .int .u8 0, .int .u8 0, .int .u8 0, .int .u8 0, .int .u8 0, .int .i64 0] (0, 0) _ rfl BK10.out Tryd.underlying25 rfl (by kernel_rfl)) rfl ?_
        exact ⟨by rw [HR.out]; rfl, HB10.out⟩
      | true =>
        by_cases heq : pt (ofL hs n) = s
        · have HR : Aside0 (rp s = (ofL hs n, true)) := ⟨by rw [hrp]; simp only [heq, and_self, if_true]⟩
          have HEQ := Aside0.mk heq
          clear hrp heq
          go_wp2_with (first | ((with_reducible refine gate_dst (N := 8) rfl ?_); refine box_event ?hg8 (N := 8) ?hd8 (cs := #[.int .u8 0, .int .u8 0, .int .u8 0, .int .u8 0, .int .u8 0, .int .u8 0, .int .u8 0, .int .u8 0, .int .u8 0, .int .u8 0, .int .u8 0, .int .u8 0, .int .u8 0, .int .u8 0, .int .u8 0, .int .u8 0, .int .u8 0, .int .u8 0, .int .u8 0, .int .u8 0, .int .u8 0, .int .u8 0, .int .u8 0, .int .u8 0, .int .u8 0, .int .u8 0, .int .u8 0, .int .u8 0, .int .u8 0, .int .u8 0, .int .u8 0, .int .u8 0, .int .i64 0]) (t := 25) ?hr8 ?_; (case hd8 => rfl); (case hg8 => rfl); (case hr8 => first | (go_simp; done) | (go_simp; rfl)); intro g8 hg w7 hbox hb; have HB7 := Aside0.mk (below_step HB.out hb); have BK7 := Aside0.mk (blk_below BK.out hb); have BP7 := Aside0.mk hbox; have HG8 := Aside0.mk (show w.heap.size ≤ g8 by rw [hg]; exact HB.out.size); have HN8 := Aside0.mk (show g2 ≠ g8 by rw [hg]; exact fun e => by have := blk_lt BK.out; omega); clear hbox hb hg) | (refine Go.Proofs.YtmoecidfmgeafaaDoor.PutW.store_event rfl rfl 25 (.tmp 8) (.tmp 40) rfl (g := g8) (cells := #[.int .u8 (ofL hs 0).f0.f0, .int .u8 (ofL hs 0).f0.f1, .int .u8 (ofL hs 0).f0.f2, .int .u8 (ofL hs 0).f0.f3, .int .u8 (ofL hs 0).f0.f4, .int .u8 (ofL hs 0).f0.f5, .int .u8 (ofL hs 0).f0.f6, .int .u8 (ofL hs 0).f0.f7, .int .u8 (ofL hs 0).f0.f8, .int .u8 (ofL hs 0).f0.f9, .int .u8 (ofL hs 0).f0.f10, .int .u8 (ofL hs 0).f0.f11, .int .u8 (ofL hs 0).f0.f12, .int .u8 (ofL hs 0).f0.f13, .int .u8 (ofL hs 0).f0.f14, .int .u8 (ofL hs 0).f0.f15, .int .u8 (ofL hs 0).f0.f16, .int .u8 (ofL hs 0).f0.f17, .int .u8 (ofL hs 0).f0.f18, .int .u8 (ofL hs 0).f0.f19, .int .u8 (ofL hs 0).f0.f20, .int .u8 (ofL hs 0).f0.f21, .int .u8 (ofL hs 0).f0.f22, .int .u8 (ofL hs 0).f0.f23, .int .u8 (ofL hs 0).f0.f24, .int .u8 (ofL hs 0).f0.f25, .int .u8 (ofL hs 0).f0.f26, .int .u8 (ofL hs 0).f0.f27, .int .u8 (ofL hs 0).f0.f28, .int .u8 (ofL hs 0).f0.f29, .int .u8 (ofL hs 0).f0.f30, .int .u8 (ofL hs 0).f0.f31, .int .i64 n]) rfl rfl BP7.out rfl (by kernel_rfl) (by kernel_rfl) ?_; intro w8 hz hs6 hg; have BP8 : Aside0 (w8.heap[g8]? = some (.cells (encO (ofL hs n)).toArray 25 (0, 0))) := ⟨hz⟩; have HB8 := Aside0.mk (pw_below_grown HB7.out (some g8) HB7.out.size hg (fun k e => by cases e; exact HG8.out)); have BK8 := Aside0.mk ((hg.block g2 (blk_lt BK7.out) (fun e => HN8.out (by injection e))).trans BK7.out); have hl8 : Go.Proofs.YtmoecidfmgeafaaDoor.Wide.cellsAt w8 ⟨g8, 0, none⟩ 33 = some (encO (ofL hs n)) := row25 (x := ofL hs n) hz; clear hz hs6 hg) | (go_at_call 11; refine (ptext11 (ofL hs n) (HWF.out n) _).mono ?_; rintro e w9 ⟨rfl, hb⟩; rw [HEQ.out]; have BK9 := Aside0.mk (blk_below BK8.out hb); have BP9 := Aside0.mk (blk_below BP8.out hb); have HB9 := Aside0.mk (below_step HB8.out hb); have hl9 : Go.Proofs.YtmoecidfmgeafaaDoor.Wide.cellsAt w9 ⟨g8, 0, none⟩ 33 = some (encO (ofL hs n)) := row25 BP9.out; clear hb) | (refine Go.Proofs.YtmoecidfmgeafaaDoor.PutW.store_event rfl rfl 25 (.tmp 2) (.tmp 50) rfl (g := g2) (cells := (encO (ofL hs n)).toArray) rfl rfl BK9.out rfl (sz25 _) (one25 _) ?_; intro w10 hz10 hs10 hg10; have BK10 := Aside0.mk hz10; have HB10 := Aside0.mk (pw_below_grown HB9.out (some g2) HB9.out.size hg10 (fun k e => by cases e; exact HG.out)); clear hz10 hs10 hg10))
          refine bodyPost_ret (results_ct rfl _ _ g2 25 (encO (ofL hs n)).toArray (0, 0) _ rfl BK10.out Tryd.underlying25 rfl (sz25 _)) rfl ?_
          exact ⟨by rw [HR.out]; rfl, HB10.out⟩
        · have HR : Aside0 (rp s = (z25, false)) := ⟨by rw [hrp]; simp only [heq, and_false, if_false]⟩
          have hq1 := list_ne heq
          have hq2 := eq_false heq
          clear hrp heq
          go_wp2_with (first | ((with_reducible refine gate_dst (N := 8) rfl ?_); refine box_event ?hg8 (N := 8) ?hd8 (cs := #[.int .u8 0, .int .u8 0, .int .u8 0, .int .u8 0, .int .u8 0, .int .u8 0, .int .u8 0, .int .u8 0, .int .u8 0, .int .u8 0, .int .u8 0, .int .u8 0, .int .u8 0, .int .u8 0, .int .u8 0, .int .u8 0, .int .u8 0, .int .u8 0, .int .u8 0, .int .u8 0, .int .u8 0, .int .u8 0, .int .u8 0, .int .u8 0, .int .u8 0, .int .u8 0, .int .u8 0, .int .u8 0, .int .u8 0, .int .u8 0, .int .u8 0, .int .u8 0, .int .i64 0]) (t := 25) ?hr8 ?_; (case hd8 => rfl); (case hg8 => rfl); (case hr8 => first | (go_simp; done) | (go_simp; rfl)); intro g8 hg w7 hbox hb; have HB7 := Aside0.mk (below_step HB.out hb); have BK7 := Aside0.mk (blk_below BK.out hb); have BP7 := Aside0.mk hbox; have HG8 := Aside0.mk (show w.heap.size ≤ g8 by rw [hg]; exact HB.out.size); have HN8 := Aside0.mk (show g2 ≠ g8 by rw [hg]; exact fun e => by have := blk_lt BK.out; omega); clear hbox hb hg) | (refine Go.Proofs.YtmoecidfmgeafaaDoor.PutW.store_event rfl rfl 25 (.tmp 8) (.tmp 40) rfl (g := g8) (cells := #[.int .u8 (ofL hs 0).f0.f0, .int .u8 (ofL hs 0).f0.f1, .int .u8 (ofL hs 0).f0.f2, .int .u8 (ofL hs 0).f0.f3, .int .u8 (ofL hs 0).f0.f4, .int .u8 (ofL hs 0).f0.f5, .int .u8 (ofL hs 0).f0.f6, .int .u8 (ofL hs 0).f0.f7, .int .u8 (ofL hs 0).f0.f8, .int .u8 (ofL hs 0).f0.f9, .int .u8 (ofL hs 0).f0.f10, .int .u8 (ofL hs 0).f0.f11, .int .u8 (ofL hs 0).f0.f12, .int .u8 (ofL hs 0).f0.f13, .int .u8 (ofL hs 0).f0.f14, .int .u8 (ofL hs 0).f0.f15, .int .u8 (ofL hs 0).f0.f16, .int .u8 (ofL hs 0).f0.f17, .int .u8 (ofL hs 0).f0.f18, .int .u8 (ofL hs 0).f0.f19, .int .u8 (ofL hs 0).f0.f20, .int .u8 (ofL hs 0).f0.f21, .int .u8 (ofL hs 0).f0.f22, .int .u8 (ofL hs 0).f0.f23, .int .u8 (ofL hs 0).f0.f24, .int .u8 (ofL hs 0).f0.f25, .int .u8 (ofL hs 0).f0.f26, .int .u8 (ofL hs 0).f0.f27, .int .u8 (ofL hs 0).f0.f28, .int .u8 (ofL hs 0).f0.f29, .int .u8 (ofL hs 0).f0.f30, .int .u8 (ofL hs 0).f0.f31, .int .i64 n]) rfl rfl BP7.out rfl (by kernel_rfl) (by kernel_rfl) ?_; intro w8 hz hs6 hg; have BP8 : Aside0 (w8.heap[g8]? = some (.cells (encO (ofL hs n)).toArray 25 (0, 0))) := ⟨hz⟩; have HB8 := Aside0.mk (pw_below_grown HB7.out (some g8) HB7.out.size hg (fun k e => by cases e; exact HG8.out)); have BK8 := Aside0.mk ((hg.block g2 (blk_lt BK7.out) (fun e => HN8.out (by injection e))).trans BK7.out); have hl8 : Go.Proofs.YtmoecidfmgeafaaDoor.Wide.cellsAt w8 ⟨g8, 0, none⟩ 33 = some (encO (ofL hs n)) := row25 (x := ofL hs n) hz; clear hz hs6 hg) | (go_at_call 11; refine (ptext11 (ofL hs n) (HWF.out n) _).mono ?_; rintro e w9 ⟨rfl, hb⟩; have BK9 := Aside0.mk (blk_below BK8.out hb); have BP9 := Aside0.mk (blk_below BP8.out hb); have HB9 := Aside0.mk (below_step HB8.out hb); have hl9 : Go.Proofs.YtmoecidfmgeafaaDoor.Wide.cellsAt w9 ⟨g8, 0, none⟩ 33 = some (encO (ofL hs n)) := row25 BP9.out; clear hb) | (refine Go.Proofs.YtmoecidfmgeafaaDoor.PutW.store_event rfl rfl 25 (.tmp 2) (.tmp 49) rfl (g := g2) (cells := #[.int .u8 0, .int .u8 0, .int .u8 0, .int .u8 0, .int .u8 0, .int .u8 0, .int .u8 0, .int .u8 0, .int .u8 0, .int .u8 0, .int .u8 0, .int .u8 0, .int .u8 0, .int .u8 0, .int .u8 0, .int .u8 0, .int .u8 0, .int .u8 0, .int .u8 0, .int .u8 0, .int .u8 0, .int .u8 0, .int .u8 0, .int .u8 0, .int .u8 0, .int .u8 0, .int .u8 0, .int .u8 0, .int .u8 0, .int .u8 0, .int .u8 0, .int .u8 0, .int .i64 0]) rfl rfl BK9.out rfl (by kernel_rfl) (by kernel_rfl) ?_; intro w10 hz10 hs10 hg10; have BK10 := Aside0.mk hz10; have HB10 := Aside0.mk (pw_below_grown HB9.out (some g2) HB9.out.size hg10 (fun k e => by cases e; exact HG.out)); clear hz10 hs10 hg10))
          refine bodyPost_ret (results_ct rfl _ _ g2 25 #[.int .u8 0, .int .u8 0, .int .u8 0, .int .u8 0, .int .u8 0, .int .u8 0, .int .u8 0, .int .u8 0, .int .u8 0, .int .u8 0, .int .u8 0, .int .u8 0, .int .u8 0, .int .u8 0, .int .u8 0, .int .u8 0, .int .u8 0, .int .u8 0, .int .u8 0, .int .u8 0, .int .u8 0, .int .u8 0, .int .u8 0, .int .u8 0, .int .u8 0, .int .u8 0, .int .u8 0, .int .u8 0, .int .u8 0, .int .u8 0, .int .u8 0, .int .u8 0, .int .i64 0] (0, 0) _ rfl BK10.out Tryd.underlying25 rfl (by kernel_rfl)) rfl ?_
          exact ⟨by rw [HR.out]; rfl, HB10.out⟩
end Go.Proofs.YtmoecidfmgeafaaDoor.Txt
