/- A hash as a text: what the document's Text answers. -/
import Derived.Test.YtmoecidfmgeafaaDoorTxtD
namespace Go.Proofs.YtmoecidfmgeafaaDoor.Txt
open Go.RowKit Go.Proofs.YtmoecidfmgeafaaDoor.QPnt Go.Proofs.YtmoecidfmgeafaaDoorW.PrintWords Go.Proofs.YtmoecidfmgeafaaDoorW.PrintLast Go.Proofs.YtmoecidfmgeafaaDoorW.PrintMore
set_option linter.unusedVariables false
set_option linter.unusedSimpArgs false
def T30 : Bool × List (List Nat × List Nat) := (true, [([], []), ([], []), ([1], [1]), ([2], [2]), ([3], [3]), ([4], [4]), ([], []), ([6], [6]), ([7], [7]), ([8], [8]), ([9], [9]), ([5, 10], [5, 10]), ([0, 11], [0, 11]), ([12, 12, 0, 1, 2, 3, 4, 5, 6, 7, 8, 9, 10, 11, 12], [0, 12])])
def B30 : List Nat := [0, 0, 2, 6, 14, 30, 0, 64, 192, 448, 960, 2046, 4095, 8191]
theorem tab30 : rtab .any (opsOf Tryd.f30 5) = T30 := by kernel_rfl
theorem bits30 : waitsOk T30.2 B30 = true := by kernel_rfl
theorem and15 (v : Int) (h0 : 0 ≤ v) (h1 : v < 256) : Go.bits .and .u8 v 15 = v % 16 := by
  obtain ⟨n, rfl⟩ := Int.eq_ofNat_of_zero_le h0
  have h : ∀ n : Fin 256, Go.bits .and .u8 ((n.val : Nat) : Int) 15 = ((n.val : Nat) : Int) % 16 := by decide +kernel
  exact h ⟨n, by omega⟩
def ints (l : List UInt8) : List Int := l.map fun b => ((b.toNat : Nat) : Int)
theorem ints_str (l : List UInt8) : strOfNums (ints l) = ⟨l.toArray⟩ := by
  unfold strOfNums ints
  rw [List.map_map]
  have : ((fun n : Int => UInt8.ofNat n.toNat) ∘ fun b : UInt8 => ((b.toNat : Nat) : Int)) = id := by
    funext b
    simp
  rw [this, List.map_id]
set_option maxHeartbeats 8000000 in
set_option maxRecDepth 100000 in
theorem rtext (hs : List Int) (hl : hs.length = 32) (hb : ∀ v ∈ hs, 0 ≤ v ∧ v < 256) (w : World) :
    Calls Tryd.prog 30 #[.agg (hs.map (Value.int .u8)).toArray] w fun e w' => e = .returned (.string ⟨(htext hs).toArray⟩) ∧ Below w.heap.size w w' := by
  have HL := Aside0.mk hl
  have HV := Aside0.mk hb
  clear hl hb
  obtain ⟨cs, hcs⟩ : ∃ cs, cs = (hs.map (Value.int .u8)).toArray := ⟨_, rfl⟩
  rw [← hcs]
  have HC := Aside0.mk hcs
  clear hcs
  have HB := Aside0.mk (Below.refl w.heap.size w)
  go_enter Tryd.func30, Tryd.ntmps30
  go_wp2_with ((with_reducible refine gate_dst (N := 1) rfl ?_); refine box_event ?hg (N := 1) ?hd (cs := cs) (t := 23) ?hr ?_; (case hd => rfl); (case hg => rfl); (case hr => first | (go_simp; done) | (go_simp; rfl)); intro g1 hg w3 hbox hb; have HB3 := Aside0.mk (below_step HB.out hb); have BK3 := Aside0.mk hbox; have HW := Aside0.mk (show g1 + 1 ≤ w3.heap.size from blk_lt hbox); have HG := Aside0.mk (show w.heap.size ≤ g1 by rw [hg]; exact Nat.le_refl _); clear HB hbox hb hg)
  go_loopg [3, 4] 33 (fun kq v3 v4 w' => ∃ j : Nat, v4 = .int .i64 ((j : Int) - 1) ∧ Aside0 (j ≤ 32) ∧ Aside0 (kq = j + 1) ∧ Aside0 (Kd.R (Kd.int .u8) 5 w' (g1 + 1) (fun _ => True) v3 (ints (htext (hs.drop j)))) ∧ Aside0 (Below (g1 + 1) w3 w'))
  case atStart => exact ⟨32, rfl, ⟨by omega⟩, ⟨rfl⟩, ⟨by rw [List.drop_of_length_le (by rw [HL.out]; omega)]; exact Kd.R_nil _ _ _ _ _⟩, ⟨Below.refl _ _⟩⟩
  case round =>
    obtain ⟨j, rfl, HJ, HK, HO, HB⟩ := hrel
    cases j with
    | zero =>
      have c0 : decide (((0 : Nat) : Int) - 1 ≥ 0) = false := rfl
      have hcv := own_string (P := Tryd.prog) Tryd.underlying62 Tryd.underlying5 Tryd.underlying9 (Kd.own_of_R HO.out)
      rw [ints_str] at hcv
      go_wp2
      go_ret
      exact ⟨rfl, HB3.out.trans (HB.out.mono (Nat.le_trans HG.out (Nat.le_succ _)))⟩
    | succ j =>
      have hj : j < hs.length := by have := HJ.out; rw [HL.out]; omega
      obtain ⟨v, hv⟩ : ∃ v, v = hs[j] := ⟨_, rfl⟩
      obtain ⟨hv0, hv1⟩ := HV.out v (by rw [hv]; exact List.getElem_mem hj)
      rw [show ((j + 1 : Nat) : Int) - 1 = (j : Int) by omega]
      have HCJ : Aside0 (cs[j]? = some (Value.int .u8 v)) := ⟨by rw [HC.out, hv]; simp [hj]⟩
      have hc : wr.cell? ⟨g1, j, none⟩ = some (.int .u8 v) := by
        rw [blk_cell ((HB.out.block g1 (Nat.lt_succ_self g1)).trans BK3.out) j]
        exact HCJ.out
      have HNX := Aside0.mk (show ints (htext (hs.drop j)) = ints (htext (hs.drop (j + 1))) ++ [((dg (v / 16)).toNat : Int), ((dg (v % 16)).toNat : Int)] by rw [htext_next hj, ← hv]; simp [ints, two])
      obtain ⟨xs, hxs⟩ : ∃ xs, xs = ints (htext (hs.drop (j + 1))) := ⟨_, rfl⟩
      have HXL := Aside0.mk (show xs.length ≤ 64 by rw [hxs, ints, List.length_map, htext_len, List.length_drop, HL.out]; omega)
      rw [← hxs] at HO HNX
      have p1 := eq_true (show (0 : Int) ≤ (j : Int) by omega)
      have p2 := eq_true (show (j : Int) < 32 by have := HJ.out; omega)
      have p3 := eq_true (show j < 32 by have := HJ.out; omega)
      have b1 : (v / 16).toNat < dgs.size := by have : dgs.size = 16 := rfl; omega
      have b2 : (v % 16).toNat < dgs.size := by have : dgs.size = 16 := rfl; omega
      have e1 := dg_run2 (v / 16) (by omega) (by omega) b1
      have e2 := dg_run2 (v % 16) (by omega) (by omega) b2
      have hand := and15 v hv0 hv1
      have q1 := eq_true (show 0 ≤ v / 16 by omega)
      have q2 := eq_true (show v / 16 < 16 by omega)
      have r1 := eq_true (show 0 ≤ v % 16 by omega)
      have r2 := eq_true (show v % 16 < 16 by omega)
      clear hv hv0 hv1 hxs hj
      go_wp2
      have n0_ := Aside0.mk (Kd.R_drew HO.out)
      have n1_ := Aside0.mk (below_drew1 HB.out)
      have hcd : wr.drew.cell? ⟨g1, j, none⟩ = some (.int .u8 v) := hc
      refine start_ (n := 14) (S := fun w' => w'.cell? ⟨g1, j, none⟩ = some (.int .u8 v)) (ds := []) #[false, false, false, false, false, false, false, false, false, false, false, false, false, false] (by kernel_rfl) rfl rfl hcd (fun hHeld => ?_)
      refine with_tabW tab30 bits30 (fun HT_ HW_ => ?_)
      clear HO HB hc
      have HO := n0_
      have HB := n1_
      clear n0_ n1_
      generalize wr.drew = w5 at HO HB hcd hHeld ⊢
      refine pure_ (i := 0) (N := some 9) (v := ?_) (a' := ?_) #[true, false, false, false, false, false, false, false, false, false, false, false, false, false] rfl rfl (any_of HT_.out (by kernel_rfl)) (fun _ _ _ h => h) (Or.inl ⟨by rfl, ?_⟩) ?_ ?_
      rotate_left
      · intro w'
        go_simp
        with_reducible rfl
      rotate_left
      · simp only [Act.put, List.setIfInBounds_toArray, List.set_cons_zero, List.set_cons_succ, i64_w, i32_w]
        rfl
      refine pure_ (i := 1) (N := some 10) (v := ?_) (a' := ?_) #[true, true, false, false, false, false, false, false, false, false, false, false, false, false] rfl rfl (any_of HT_.out (by kernel_rfl)) (fun _ _ _ h => h) (Or.inl ⟨by rfl, ?_⟩) ?_ ?_
      rotate_left
      · intro w'
        go_simp
        with_reducible rfl
      rotate_left
      · simp only [Act.put, List.setIfInBounds_toArray, List.set_cons_zero, List.set_cons_succ, i64_w, i32_w]
        rfl
      refine pure_ (i := 2) (N := some 11) (v := ?_) (a' := ?_) #[true, true, true, false, false, false, false, false, false, false, false, false, false, false] rfl rfl (any_of HT_.out (by kernel_rfl)) (fun _ _ _ h => h) (Or.inl ⟨by rfl, ?_⟩) ?_ ?_
      rotate_left
      · intro w'
        go_simp
        with_reducible rfl
      rotate_left
      · simp only [Act.put, List.setIfInBounds_toArray, List.set_cons_zero, List.set_cons_succ, i64_w, i32_w]
        rfl
      refine pure_ (i := 6) (N := some 15) (v := ?_) (a' := ?_) #[true, true, true, false, false, false, true, false, false, false, false, false, false, false] rfl rfl (any_of HT_.out (by kernel_rfl)) (fun _ _ _ h => h) (Or.inl ⟨by rfl, ?_⟩) ?_ ?_
      rotate_left
      · intro w'
        go_simp
        with_reducible rfl
      rotate_left
      · simp only [Act.put, List.setIfInBounds_toArray, List.set_cons_zero, List.set_cons_succ, i64_w, i32_w]
        rfl
      refine pure_ (i := 7) (N := some 16) (v := ?_) (a' := ?_) #[true, true, true, false, false, false, true, true, false, false, false, false, false, false] rfl rfl (any_of HT_.out (by kernel_rfl)) (fun _ _ _ h => h) (Or.inl ⟨by rfl, ?_⟩) ?_ ?_
      rotate_left
      · intro w'
        go_simp
        with_reducible rfl
      rotate_left
      · simp only [Act.put, List.setIfInBounds_toArray, List.set_cons_zero, List.set_cons_succ, i64_w, i32_w]
        rfl
      refine take_ (i := 3) (N := some 12) (v := ?_) (a' := ?_) #[true, true, true, true, false, false, true, true, false, false, false, false, false, false] rfl rfl (take_ofW HT_.out HW_.out (by kernel_rfl)) (fun _ _ _ h => h) (Or.inl ⟨by rfl, ?_⟩) hHeld ?_ ?_
      rotate_left
      · intro w' s0
        go_simp
        with_reducible rfl
      rotate_left
      · simp only [Act.put, List.setIfInBounds_toArray, List.set_cons_zero, List.set_cons_succ, i64_w, i32_w]
        rfl
      refine pure_ (i := 4) (N := some 13) (v := ?_) (a' := ?_) #[true, true, true, true, true, false, true, true, false, false, false, false, false, false] rfl rfl (any_of HT_.out (by kernel_rfl)) (fun _ _ _ h => h) (Or.inl ⟨by rfl, ?_⟩) ?_ ?_
      rotate_left
      · intro w'
        go_simp
        with_reducible rfl
      rotate_left
      · simp only [Act.put, List.setIfInBounds_toArray, List.set_cons_zero, List.set_cons_succ, i64_w, i32_w]
        rfl
      refine take_ (i := 5) (N := some 14) (v := ?_) (a' := ?_) #[true, true, true, true, true, true, true, true, false, false, false, false, false, false] rfl rfl (take_ofW HT_.out HW_.out (by kernel_rfl)) (fun _ _ _ h => h) (Or.inl ⟨by rfl, ?_⟩) hHeld ?_ ?_
      rotate_left
      · intro w' s0
        go_simp
        with_reducible rfl
      rotate_left
      · simp only [Act.put, List.setIfInBounds_toArray, List.set_cons_zero, List.set_cons_succ, i64_w, i32_w]
        rfl
      refine take_ (i := 8) (N := some 17) (v := ?_) (a' := ?_) #[true, true, true, true, true, true, true, true, true, false, false, false, false, false] rfl rfl (take_ofW HT_.out HW_.out (by kernel_rfl)) (fun _ _ _ h => h) (Or.inl ⟨by rfl, ?_⟩) hHeld ?_ ?_
      rotate_left
      · intro w' s0
        go_simp
        with_reducible rfl
      rotate_left
      · simp only [Act.put, List.setIfInBounds_toArray, List.set_cons_zero, List.set_cons_succ, i64_w, i32_w]
        rfl
      refine pure_ (i := 9) (N := some 18) (v := ?_) (a' := ?_) #[true, true, true, true, true, true, true, true, true, true, false, false, false, false] rfl rfl (any_of HT_.out (by kernel_rfl)) (fun _ _ _ h => h) (Or.inl ⟨by rfl, ?_⟩) ?_ ?_
      rotate_left
      · intro w'
        go_simp
        with_reducible rfl
      rotate_left
      · simp only [Act.put, List.setIfInBounds_toArray, List.set_cons_zero, List.set_cons_succ, i64_w, i32_w]
        rfl
      refine take_ (i := 10) (N := some 19) (v := ?_) (a' := ?_) #[true, true, true, true, true, true, true, true, true, true, true, false, false, false] rfl rfl (take_ofW HT_.out HW_.out (by kernel_rfl)) (fun _ _ _ h => h) (Or.inl ⟨by rfl, ?_⟩) hHeld ?_ ?_
      rotate_left
      · intro w' s0
        go_simp
        with_reducible rfl
      rotate_left
      · simp only [Act.put, List.setIfInBounds_toArray, List.set_cons_zero, List.set_cons_succ, i64_w, i32_w]
        rfl
      refine one_ (i := 11) (N := some 20) #[true, true, true, true, true, true, true, true, true, true, true, true, false, false] rfl rfl (one_of HT_.out (by kernel_rfl)) (by decide) (fun K hK => ?_)
      refine Kd.R_lit_step (Kd.int .u8) (w0 := w3) (W := w5) (g1 + 1) 5 (by rfl) (N := 20) rfl (xs := [((dg (v / 16)).toNat : Int), ((dg (v % 16)).toNat : Int)]) (inner := [.int .u8 ((dg (v / 16)).toNat : Int), .int .u8 ((dg (v % 16)).toNat : Int)]) (ok := fun _ => True) (okp := fun _ => False) ?hr ?hp (fun _ hk => hk.elim) trivial HB.out (Nat.le_trans HW.out HB.out.size) (by simp) ?_
      case hr => go_simp; rw [← e1, ← e2]; rfl
      case hp => exact Reps.one (show Kd.M (Kd.int .u8) _ _ _ ((dg (v / 16)).toNat : Int) [.int .u8 ((dg (v / 16)).toNat : Int)] from rfl) (Reps.one (show Kd.M (Kd.int .u8) _ _ _ ((dg (v % 16)).toNat : Int) [.int .u8 ((dg (v % 16)).toNat : Int)] from rfl) (Reps.none _ _))
      intro v20 w6 ho hb hg hnew
      obtain ⟨A20, c20, e20⟩ := Kd.R_slice ho
      have n0_ := Aside0.mk (Kd.R_mono (Kd.R_grown (Kd.R_bound HO.out) hg (fun _ _ => by simp)) (fun k hk => show some k ≠ v20.ownBlock by obtain ⟨q, hq, hle⟩ := hnew; rw [hq]; intro e; injection e with e; have := hk.2.2.1; omega))
      have n1_ := Aside0.mk hb
      have n2_ := Aside0.mk ho
      have n3_ := Aside0.mk ((hb.block g1 (Nat.lt_succ_self g1)).trans BK3.out)
      clear ho hb hg hnew
      have HO6 := n0_
      have HB6 := n1_
      have HV20 := n2_
      clear n0_ n1_ n2_
      have hc6 : w6.cell? ⟨g1, j, none⟩ = some (.int .u8 v) := by rw [blk_cell n3_.out j]; exact HCJ.out
      subst e20
      refine hK.out _ _ hc6 (fun hHeld => ?_)
      clear hK K
      refine norm_ (a' := ?_) ?_ ?_
      rotate_left
      · show Act.put _ (some 20) _ = _
        simp only [Act.put, List.setIfInBounds_toArray, List.set_cons_zero, List.set_cons_succ, i64_w, i32_w]
        rfl
      refine one_ (i := 12) (N := some 21) #[true, true, true, true, true, true, true, true, true, true, true, true, true, false] rfl rfl (one_of HT_.out (by kernel_rfl)) (by decide) (fun K hK => ?_)
      refine Kd.R_append_rows_step (Kd.int .u8) (w0 := w3) (W := w6) (g1 + 1) (by rfl) (.tmp 9) (.tmp 20) 62 5 (.int .u8 0) 1 rfl Tryd.underlying62 (show (Tryd.prog.info? 5).map (fun i => (i.zero, i.size, i.bytes)) = some (some (.int .u8 0), 1, 1) by kernel_rfl) rfl (by decide) (by omega) u3 xs [((dg (v / 16)).toNat : Int), ((dg (v % 16)).toNat : Int)] _ _ _ (fun k_ => some k_ ≠ (.slice A20 [((dg (v / 16)).toNat : Int), ((dg (v % 16)).toNat : Int)].length c20 : Value).ownBlock) (fun _ => False) rfl rfl ?aO ?aR (fun _ _ h => h) (fun _ h => h.elim) ?aF ?aB ?aS ?aL ?_
      case aR => exact (Kd.R_reads' HV20.out).2.2
      case aB => exact HB6.out
      case aF => exact fun k_ hk => Kd.fresh' (Kd.R_lt HV20.out) k_ hk
      case aO => exact HO6.out
      case aS => exact Nat.le_trans HW.out HB6.out.size
      case aL => have := HXL.out; simp only [List.length_cons, List.length_nil]; omega
      intro v21 w7 ho hb hg hat
      have HO7 := Aside0.mk (Kd.R_mono (ok' := fun _ => True) ho (fun _ _ => trivial))
      have HB7 := Aside0.mk hb
      have hc7 : w7.cell? ⟨g1, j, none⟩ = some (.int .u8 v) := by rw [blk_cell ((hb.block g1 (Nat.lt_succ_self g1)).trans BK3.out) j]; exact HCJ.out
      clear ho hb hg hat
      refine hK.out _ _ hc7 (fun hHeld => ?_)
      clear hK K
      refine norm_ (a' := ?_) ?_ ?_
      rotate_left
      · show Act.put _ (some 21) _ = _
        simp only [Act.put, List.setIfInBounds_toArray, List.set_cons_zero, List.set_cons_succ, i64_w, i32_w]
        rfl
      refine pure_ (i := 13) (N := some 3) (v := ?_) (a' := ?_) #[true, true, true, true, true, true, true, true, true, true, true, true, true, true] rfl rfl (any_of HT_.out (by kernel_rfl)) (fun _ _ _ h => h) (Or.inl ⟨by rfl, ?_⟩) ?_ ?_
      rotate_left
      · intro w'
        go_simp
        with_reducible rfl
      rotate_left
      · simp only [Act.put, List.setIfInBounds_toArray, List.set_cons_zero, List.set_cons_succ, i64_w, i32_w]
        rfl
      refine done_ (done_of HT_.out (by kernel_rfl)) ?_
      try go_wp2
      go_roundg (j + 1)
      case measure => have := HK.out; omega
      case rel => exact ⟨j, by rw [show wrap64 ((j : Int) - 1) = (j : Int) - 1 by have := HJ.out; unfold wrap64; omega], ⟨by have := HJ.out; omega⟩, ⟨rfl⟩, ⟨by rw [HNX.out]; exact HO7.out⟩, HB7⟩
end Go.Proofs.YtmoecidfmgeafaaDoor.Txt
