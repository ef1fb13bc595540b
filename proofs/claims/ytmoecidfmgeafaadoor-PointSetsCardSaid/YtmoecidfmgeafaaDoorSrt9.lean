/- Region 9 of the document's Sorted: whatever the order in which its lists are built, what comes is the first part, the new one, the other part. -/
import Derived.Test.YtmoecidfmgeafaaDoorQPntx0
import Derived.Test.YtmoecidfmgeafaaDoorQPntx2
import Derived.Test.YtmoecidfmgeafaaDoorQPntx5
namespace Go.Proofs.YtmoecidfmgeafaaDoor.QPnt
open Go.RowKit Go.Proofs.YtmoecidfmgeafaaDoorW.PrintWords Go.Proofs.YtmoecidfmgeafaaDoorW.PrintLast Go.Proofs.YtmoecidfmgeafaaDoorW.PrintMore
attribute [local go_sem] max2_int min2_int max_two min_two max_three min_three max_four min_four  run_fop run_feq run_fne run_flt run_fle run_fgt run_fge run_fint run_toi run_real' run_imag' run_complex' run_ceq run_cne run_cadd run_csub run_cmul Go.Proofs.YtmoecidfmgeafaaDoor.Wide.cellsAt_drewN Go.Proofs.YtmoecidfmgeafaaDoor.Wide.cellsAt_drew Go.Proofs.YtmoecidfmgeafaaDoor.Wide.lw32 Go.Proofs.YtmoecidfmgeafaaDoor.Wide.lw33
attribute [local go_sem ↓ high] Go.Proofs.YtmoecidfmgeafaaDoor.Wide.hv32 Go.Proofs.YtmoecidfmgeafaaDoor.Wide.hv33
set_option linter.unusedVariables false
set_option linter.unusedSimpArgs false

attribute [local go_sem high] eqA25
/-- Not the block of the literal's row. -/
def okg (b9 : Bool) (g k : Nat) : Prop := b9 = true → k ≠ g
theorem putSel_skip {b : Nat → Bool} {t : Tmp} : ∀ {L : List (Nat × Tmp × Value)} {a : Act}, (L.all fun e => !(e.2.1 == t) || !(b e.1)) = true → (putSel a b L).tmps[t]? = a.tmps[t]?
  | [], _, _ => rfl
  | e :: r, a, h => by
    rw [List.all_cons, Bool.and_eq_true] at h
    unfold putSel
    by_cases hb : b e.1 = true
    · have he : e.2.1 ≠ t := by simpa [hb] using h.1
      rw [if_pos hb, putSel_skip h.2]
      simp [Act.put, Array.getElem?_setIfInBounds_ne he]
    · rw [if_neg hb]
      exact putSel_skip h.2
theorem putSel_last {b : Nat → Bool} {e : Nat × Tmp × Value} (he : b e.1 = false) : ∀ {L : List (Nat × Tmp × Value)} {a : Act}, putSel a b (L ++ [e]) = putSel a b L
  | [], a => by simp [putSel, he]
  | x :: r, a => by
    simp only [List.cons_append, putSel]
    exact putSel_last he
theorem up_z (b : Nat → Bool) (i j : Nat) : up b i j = if j = i then true else b j := rfl
/-- What holds in region 9, by what has come up so far. -/
structure R9 (xs : List S25) (y : S25) (n : Nat) (wc : World) (b0 b4 b9 b10 b14 : Bool) (m44 m48 m53 m54 m58 : Value) (g : Nat) (w : World) : Prop where
  below : Below wc.heap.size wc w
  lt : b9 = true → g < w.heap.size
  r44 : b0 = true → b4 = false → Kd.R k25 25 w wc.heap.size (okg b9 g) m44 []
  r48 : b4 = true → b10 = false → Kd.R k25 25 w wc.heap.size (okg b9 g) m48 (xs.take n)
  r53 : b9 = true → b10 = false → Kd.R k25 25 w wc.heap.size (fun k => k = g) m53 [y]
  r54 : b10 = true → b14 = false → Kd.R k25 25 w wc.heap.size (fun _ => True) m54 (xs.take n ++ [y])
  r58 : b14 = true → Kd.R k25 25 w wc.heap.size (fun _ => True) m58 (xs.take n ++ [y] ++ xs.drop n)
section
variable {xs : List S25} {y : S25} {n : Nat} {wc w w1 : World} {b0 b4 b9 b10 b14 : Bool} {m44 m48 m53 m54 m58 : Value} {g : Nat}
theorem R9.lit0 (h : R9 xs y n wc false false b9 false false m44 m48 m53 m54 m58 g w) {v : Value} (hv : Kd.R k25 25 w1 wc.heap.size (okg b9 g) v []) (hb : Below wc.heap.size wc w1) (hg : w.grownBy w1 none) : R9 xs y n wc true false b9 false false v m48 m53 m54 m58 g w1 where
  below := hb
  lt := fun e => Nat.lt_of_lt_of_le (h.lt e) hg.size
  r44 := fun _ _ => hv
  r48 := fun e => by cases e
  r53 := fun e e' => Kd.R_grown (h.r53 e e') hg (fun _ _ => by simp)
  r54 := fun e => by cases e
  r58 := fun e => by cases e
theorem R9.app4 (h : R9 xs y n wc true false b9 false false m44 m48 m53 m54 m58 g w) {v : Value} (hv : Kd.R k25 25 w1 wc.heap.size (okg b9 g) v (xs.take n)) (hb : Below wc.heap.size wc w1) (hg : w.grownBy w1 m44.ownBlock) : R9 xs y n wc true true b9 false false m44 v m53 m54 m58 g w1 where
  below := hb
  lt := fun e => Nat.lt_of_lt_of_le (h.lt e) hg.size
  r44 := fun _ e => by cases e
  r48 := fun _ _ => hv
  r53 := fun e e' => Kd.R_grown (h.r53 e e') hg (fun k hk he => (h.r44 rfl rfl).1 k he.symm e hk)
  r54 := fun e => by cases e
  r58 := fun e => by cases e
theorem okg_9 {k : Nat} (h : k < w.heap.size) : okg true w.heap.size k := fun _ => by omega
theorem R9.lit9 (h : R9 xs y n wc b0 b4 false false false m44 m48 m53 m54 m58 g w) {v : Value} (hv : Kd.R k25 25 w1 wc.heap.size (fun k => k = w.heap.size) v [y]) (hb : Below wc.heap.size wc w1) (hg : w.grownBy w1 none) (hs : w.heap.size < w1.heap.size) : R9 xs y n wc b0 b4 true false false m44 m48 v m54 m58 w.heap.size w1 where
  below := hb
  lt := fun _ => hs
  r44 := fun e e' => Kd.R_grown (Kd.R_mono (Kd.R_bound (h.r44 e e')) (fun _ hk => okg_9 hk.2.2.1)) hg (fun _ _ => by simp)
  r48 := fun e e' => Kd.R_grown (Kd.R_mono (Kd.R_bound (h.r48 e e')) (fun _ hk => okg_9 hk.2.2.1)) hg (fun _ _ => by simp)
  r53 := fun _ _ => hv
  r54 := fun e => by cases e
  r58 := fun e => by cases e
theorem R9.app10 (h : R9 xs y n wc true true true false false m44 m48 m53 m54 m58 g w) {v : Value} (hv : Kd.R k25 25 w1 wc.heap.size (fun _ => True) v (xs.take n ++ [y])) (hb : Below wc.heap.size wc w1) (hs : w.heap.size ≤ w1.heap.size) : R9 xs y n wc true true true true false m44 m48 m53 v m58 g w1 where
  below := hb
  lt := fun e => Nat.lt_of_lt_of_le (h.lt e) hs
  r44 := fun _ e => by cases e
  r48 := fun _ e => by cases e
  r53 := fun _ e => by cases e
  r54 := fun _ _ => hv
  r58 := fun e => by cases e
theorem R9.app14 (h : R9 xs y n wc true true true true false m44 m48 m53 m54 m58 g w) {v : Value} (hv : Kd.R k25 25 w1 wc.heap.size (fun _ => True) v (xs.take n ++ [y] ++ xs.drop n)) (hb : Below wc.heap.size wc w1) (hs : w.heap.size ≤ w1.heap.size) : R9 xs y n wc true true true true true m44 m48 m53 m54 v g w1 where
  below := hb
  lt := fun e => Nat.lt_of_lt_of_le (h.lt e) hs
  r44 := fun _ e => by cases e
  r48 := fun _ e => by cases e
  r53 := fun _ e => by cases e
  r54 := fun _ e => by cases e
  r58 := fun _ => hv
end

def sorted.T9 : Bool × List (List Nat × List Nat) := (true, [([], []), ([], []), ([], []), ([1, 2], [1, 2]), ([0, 3], [0, 3]), ([], []), ([], []), ([5, 6], [5, 6]), ([7], [7]), ([8], [8]), ([4, 9, 4], [4, 9]), ([], []), ([], []), ([11, 12], [11, 12]), ([10, 13, 10], [10, 13]), ([14, 14, 0, 1, 2, 3, 4, 5, 6, 7, 8, 9, 10, 11, 12, 13, 14], [1, 11, 14])])
def sorted.B9 : List Nat := [0, 0, 0, 6, 15, 0, 0, 96, 224, 480, 1023, 0, 0, 6144, 16383, 32767]
theorem sorted.tab9 : rtab .any (opsOf Tryd.f15 9) = sorted.T9 := by kernel_rfl
theorem sorted.bits9 : waitsOk sorted.T9.2 sorted.B9 = true := by kernel_rfl
set_option maxHeartbeats 8000000 in
set_option maxRecDepth 100000 in
/-- Region 9. -/
theorem sorted.reg9 {l0 xs : List S25} {ad : Addr} {AX : Option Addr} {c0 cx : Nat} {i x5 : Int} {a : Act} {w0 wc : World} {ok : Nat → Prop} {Q : Exit → Act → World → Prop} (hsz : Nat.ble 60 a.tmps.size = true) (h0 : a.tmps[0]? = some (.slice (some ad) l0.length c0)) (h3 : a.tmps[3]? = some (.slice AX xs.length cx)) (h4 : a.tmps[4]? = some (.int .i64 i)) (h5 : a.tmps[5]? = some (.int .i64 x5))
    (hi0 : 0 ≤ i) (hi1 : i < (l0.length : Int)) (hx0 : 0 ≤ x5) (hx1 : x5 ≤ (xs.length : Int)) (hl : xs.length + 1 < 3518437208883) (HO : Kd.R k25 25 wc w0.heap.size ok (.slice AX xs.length cx) xs) (HC : Kd.C k25 w0 (some ad) l0.length l0) (HB : Below w0.heap.size w0 wc)
    (hend : ∀ (m44 m48 m53 m54 m57 m58 : Value) (w : World), Kd.R k25 25 w w0.heap.size (fun _ => True) m58 (xs.take x5.toNat ++ [(rd_T25 l0 i)] ++ xs.drop x5.toNat) → Below w0.heap.size w0 w →
      Q .normal ((((((((((((((((a.put (some 44) (m44)).put (some 45) (.slice AX xs.length cx)).put (some 46) (.int .i64 x5)).put (some 47) (.slice AX x5.toNat cx)).put (some 48) (m48)).put (some 49) (.slice (some ad) l0.length c0)).put (some 50) (.int .i64 i)).put (some 51) (.pointer (some (ad.add (i.toNat * 33))))).put (some 52) (.agg (List.toArray (Value.int .u8 (rd_T25 l0 i).f0.f0 :: Value.int .u8 (rd_T25 l0 i).f0.f1 :: Value.int .u8 (rd_T25 l0 i).f0.f2 :: Value.int .u8 (rd_T25 l0 i).f0.f3 :: Value.int .u8 (rd_T25 l0 i).f0.f4 :: Value.int .u8 (rd_T25 l0 i).f0.f5 :: Value.int .u8 (rd_T25 l0 i).f0.f6 :: Value.int .u8 (rd_T25 l0 i).f0.f7 :: Value.int .u8 (rd_T25 l0 i).f0.f8 :: Value.int .u8 (rd_T25 l0 i).f0.f9 :: Value.int .u8 (rd_T25 l0 i).f0.f10 :: Value.int .u8 (rd_T25 l0 i).f0.f11 :: Value.int .u8 (rd_T25 l0 i).f0.f12 :: Value.int .u8 (rd_T25 l0 i).f0.f13 :: Value.int .u8 (rd_T25 l0 i).f0.f14 :: Value.int .u8 (rd_T25 l0 i).f0.f15 :: Value.int .u8 (rd_T25 l0 i).f0.f16 :: Value.int .u8 (rd_T25 l0 i).f0.f17 :: Value.int .u8 (rd_T25 l0 i).f0.f18 :: Value.int .u8 (rd_T25 l0 i).f0.f19 :: Value.int .u8 (rd_T25 l0 i).f0.f20 :: Value.int .u8 (rd_T25 l0 i).f0.f21 :: Value.int .u8 (rd_T25 l0 i).f0.f22 :: Value.int .u8 (rd_T25 l0 i).f0.f23 :: Value.int .u8 (rd_T25 l0 i).f0.f24 :: Value.int .u8 (rd_T25 l0 i).f0.f25 :: Value.int .u8 (rd_T25 l0 i).f0.f26 :: Value.int .u8 (rd_T25 l0 i).f0.f27 :: Value.int .u8 (rd_T25 l0 i).f0.f28 :: Value.int .u8 (rd_T25 l0 i).f0.f29 :: Value.int .u8 (rd_T25 l0 i).f0.f30 :: Value.int .u8 (rd_T25 l0 i).f0.f31 :: Value.int .i64 (rd_T25 l0 i).f1 :: [])))).put (some 53) (m53)).put (some 54) (m54)).put (some 55) (.slice AX xs.length cx)).put (some 56) (.int .i64 x5)).put (some 57) (m57)).put (some 58) (m58)).put (some 3) (m58)) w) :
    Code.wp Tryd.prog (Code.region 9 (opsOf Tryd.f15 9) true) Q a wc := by
  have HX := Aside0.mk (Kd.R_reads' HO).2.2
  have HX1 := Aside0.mk (Kd.R_reads' HO).2.1
  have HL := Aside0.mk HC
  have HBc := Aside0.mk HB
  have HE := Aside0.mk hend
  have HLL := Aside0.mk hl
  have HS : ∀ n, n < 60 → Nat.ble (n + 1) a.tmps.size = true := fun n hn => Nat.ble_eq_true_of_le (Nat.le_trans hn (Nat.le_of_ble_eq_true hsz))
  have H0 := Aside0.mk h0
  have H3 := Aside0.mk h3
  have H4 := Aside0.mk h4
  have H5 := Aside0.mk h5
  have I0 := Aside0.mk hi0
  have I1 := Aside0.mk hi1
  have J0 := Aside0.mk hx0
  have J1 := Aside0.mk hx1
  clear HO HC HB hend hl h0 h3 h4 h5 hi0 hi1 hx0 hx1
  conv => arg 2; arg 2; whnf
  refine start_ (n := 16) (S := fun w' => True) (ds := []) #[false, false, false, false, false, false, false, false, false, false, false, false, false, false, false, false] (by kernel_rfl) (by kernel_rfl) rfl trivial (fun hHeld => ?_)
  refine with_tabW sorted.tab9 sorted.bits9 (fun HT_ HW_ => ?_)
  refine inv_at [0, 1, 2, 3, 4, 5, 6, 7, 8, 9, 10, 11, 12, 13, 14, 15] (fun a0_ b a w' => ∃ (m44 m48 m53 m54 m58 : Value) (g : Nat), a = putSel a0_ b [(0, 44, m44), (1, 45, .slice AX xs.length cx), (2, 46, .int .i64 x5), (3, 47, .slice AX x5.toNat cx), (4, 48, m48), (5, 49, .slice (some ad) l0.length c0), (6, 50, .int .i64 i), (7, 51, .pointer (some (ad.add (i.toNat * 33)))), (8, 52, .agg (List.toArray (Value.int .u8 (rd_T25 l0 i).f0.f0 :: Value.int .u8 (rd_T25 l0 i).f0.f1 :: Value.int .u8 (rd_T25 l0 i).f0.f2 :: Value.int .u8 (rd_T25 l0 i).f0.f3 :: Value.int .u8 (rd_T25 l0 i).f0.f4 :: Value.int .u8 (rd_T25 l0 i).f0.f5 :: Value.int .u8 (rd_T25 l0 i).f0.f6 :: Value.int .u8 (rd_T25 l0 i).f0.f7 :: Value.int .u8 (rd_T25 l0 i).f0.f8 :: Value.int .u8 (rd_T25 l0 i).f0.f9 :: Value.int .u8 (rd_T25 l0 i).f0.f10 :: Value.int .u8 (rd_T25 l0 i).f0.f11 :: Value.int .u8 (rd_T25 l0 i).f0.f12 :: Value.int .u8 (rd_T25 l0 i).f0.f13 :: Value.int .u8 (rd_T25 l0 i).f0.f14 :: Value.int .u8 (rd_T25 l0 i).f0.f15 :: Value.int .u8 (rd_T25 l0 i).f0.f16 :: Value.int .u8 (rd_T25 l0 i).f0.f17 :: Value.int .u8 (rd_T25 l0 i).f0.f18 :: Value.int .u8 (rd_T25 l0 i).f0.f19 :: Value.int .u8 (rd_T25 l0 i).f0.f20 :: Value.int .u8 (rd_T25 l0 i).f0.f21 :: Value.int .u8 (rd_T25 l0 i).f0.f22 :: Value.int .u8 (rd_T25 l0 i).f0.f23 :: Value.int .u8 (rd_T25 l0 i).f0.f24 :: Value.int .u8 (rd_T25 l0 i).f0.f25 :: Value.int .u8 (rd_T25 l0 i).f0.f26 :: Value.int .u8 (rd_T25 l0 i).f0.f27 :: Value.int .u8 (rd_T25 l0 i).f0.f28 :: Value.int .u8 (rd_T25 l0 i).f0.f29 :: Value.int .u8 (rd_T25 l0 i).f0.f30 :: Value.int .u8 (rd_T25 l0 i).f0.f31 :: Value.int .i64 (rd_T25 l0 i).f1 :: []))), (9, 53, m53), (10, 54, m54), (11, 55, .slice AX xs.length cx), (12, 56, .int .i64 x5), (13, 57, .slice (if cx = x5.toNat then AX else AX.map (·.add (x5.toNat * 33))) (xs.length - x5.toNat) (cx - x5.toNat)), (14, 58, m58), (15, 3, m58)] ∧ R9 xs (rd_T25 l0 i) x5.toNat wc (b 0) (b 4) (b 9) (b 10) (b 14) m44 m48 m53 m54 m58 g w') HT_.out HW_.out (by kernel_rfl) (by kernel_rfl) ?_ ?_ ?_
  · exact ⟨.bool false, .bool false, .bool false, .bool false, .bool false, 0, by simp only [putSel, Bool.false_eq_true, if_false], ⟨below_drew1 (Below.refl _ _), fun e => absurd e (by decide), fun e => absurd e (by decide), fun e => absurd e (by decide), fun e => absurd e (by decide), fun e => absurd e (by decide), fun e => absurd e (by decide)⟩⟩
  refine steps_cons ?_ ?_
  · rintro b a w' ⟨m44, m48, m53, m54, m58, g, ha, hR⟩ hb_ hon hoff
    refine ⟨_, rfl, fun K hK => ?_⟩
    have off4 := hoff 4 (by kernel_rfl)
    have off10 := hoff 10 (by kernel_rfl)
    have off14 := hoff 14 (by kernel_rfl)
    have HR := Aside0.mk hR
    have HA := Aside0.mk ha
    clear ha hR
    have hr := HR.out
    rw [hb_, off4, off10, off14] at hr
    have HR0 := Aside0.mk hr
    clear hr
    refine Kd.R_lit_step k25 (w0 := wc) (W := w') wc.heap.size 25 (by rfl) (N := 44) rfl (xs := ([] : List S25)) (inner := []) (ok := okg (b 9) g) (okp := fun _ => False) ?hr_0 ?hp_0 (fun _ hk => hk.elim) ?hf_0 HR.out.below HR.out.below.size (by simp) ?_
    case hr_0 => first | (go_simp; done) | (go_simp; rfl)
    case hp_0 => exact Reps.none _ _
    case hf_0 => exact fun e he => by have := HR.out.lt e; omega
    intro v1 w1 hv hb hg _
    have h1 := R9.lit0 HR0.out hv hb hg
    refine hK.out _ _ ⟨v1, m48, m53, m54, m58, g, ?_, by simpa only [up_z, reduceIte, Nat.reduceEqDiff, off4, off10, off14] using h1⟩
    rw [HA.out]
    exact putSel_upk 0 hb_ rfl rfl rfl
  refine steps_cons ?_ ?_
  · rintro b a w' ⟨m44, m48, m53, m54, m58, g, ha, hR⟩ hb_ hon hoff
    refine ⟨_, rfl, fun K hK => ?_⟩
    have off15 := hoff 15 (by kernel_rfl)
    have e3 : a.tmps[3]? = some (.slice AX xs.length cx) := by rw [ha]; exact (putSel_skip (by simp only [List.all_cons, List.all_nil, off15]; rfl)).trans H3.out
    have off4 := hoff 4 (by kernel_rfl)
    have off10 := hoff 10 (by kernel_rfl)
    have off14 := hoff 14 (by kernel_rfl)
    have HR := Aside0.mk hR
    have HA := Aside0.mk ha
    clear ha hR
    refine value_ (w1 := w') (v := .slice AX xs.length cx) (by rfl) rfl ?_ ?_
    · go_simp; try rfl
    · refine hK.out _ _ ⟨m44, m48, m53, m54, m58, g, ?_, HR.out⟩
      rw [HA.out]
      exact putSel_upk 1 hb_ rfl rfl rfl
  refine steps_cons ?_ ?_
  · rintro b a w' ⟨m44, m48, m53, m54, m58, g, ha, hR⟩ hb_ hon hoff
    refine ⟨_, rfl, fun K hK => ?_⟩
    have off15 := hoff 15 (by kernel_rfl)
    have e5 : a.tmps[5]? = some (.int .i64 x5) := by rw [ha]; exact (putSel_skip (by simp only [List.all_cons, List.all_nil, off15]; rfl)).trans H5.out
    have off4 := hoff 4 (by kernel_rfl)
    have off10 := hoff 10 (by kernel_rfl)
    have off14 := hoff 14 (by kernel_rfl)
    have HR := Aside0.mk hR
    have HA := Aside0.mk ha
    clear ha hR
    refine value_ (w1 := w') (v := .int .i64 x5) (by rfl) rfl ?_ ?_
    · go_simp; try rfl
    · refine hK.out _ _ ⟨m44, m48, m53, m54, m58, g, ?_, HR.out⟩
      rw [HA.out]
      exact putSel_upk 2 hb_ rfl rfl rfl
  refine steps_cons ?_ ?_
  · rintro b a w' ⟨m44, m48, m53, m54, m58, g, ha, hR⟩ hb_ hon hoff
    refine ⟨_, rfl, fun K hK => ?_⟩
    have e45 : a.tmps[45]? = some (.slice AX xs.length cx) := by rw [ha]; exact putSel_on (e := (1, 45, .slice AX xs.length cx)) 1 rfl rfl (hon 1 (by kernel_rfl)) (HS 45 (by decide))
    have e46 : a.tmps[46]? = some (.int .i64 x5) := by rw [ha]; exact putSel_on (e := (2, 46, .int .i64 x5)) 2 rfl rfl (hon 2 (by kernel_rfl)) (HS 46 (by decide))
    have off4 := hoff 4 (by kernel_rfl)
    have off10 := hoff 10 (by kernel_rfl)
    have off14 := hoff 14 (by kernel_rfl)
    have HR := Aside0.mk hR
    have HA := Aside0.mk ha
    clear ha hR
    obtain ⟨i0, hi0, _, hsz0, _⟩ := info_parts info25
    have hcut := cut_to (P := Tryd.prog) 31 25 .i64 Tryd.underlying31 hi0 AX xs.length cx x5 J0.out J1.out HX1.out
    clear hi0 hsz0
    refine value_ (w1 := w') (v := .slice AX x5.toNat cx) (by rfl) rfl ?_ ?_
    · go_simp; try rfl
    · refine hK.out _ _ ⟨m44, m48, m53, m54, m58, g, ?_, HR.out⟩
      rw [HA.out]
      exact putSel_upk 3 hb_ rfl rfl rfl
  refine steps_cons ?_ ?_
  · rintro b a w' ⟨m44, m48, m53, m54, m58, g, ha, hR⟩ hb_ hon hoff
    refine ⟨_, rfl, fun K hK => ?_⟩
    have e44 : a.tmps[44]? = some (m44) := by rw [ha]; exact putSel_on (e := (0, 44, m44)) 0 rfl rfl (hon 0 (by kernel_rfl)) (HS 44 (by decide))
    have e47 : a.tmps[47]? = some (.slice AX x5.toNat cx) := by rw [ha]; exact putSel_on (e := (3, 47, .slice AX x5.toNat cx)) 3 rfl rfl (hon 3 (by kernel_rfl)) (HS 47 (by decide))
    have on0 := hon 0 (by kernel_rfl)
    have off10 := hoff 10 (by kernel_rfl)
    have off14 := hoff 14 (by kernel_rfl)
    have HR := Aside0.mk hR
    have HA := Aside0.mk ha
    clear ha hR
    have hr := HR.out
    rw [hb_, on0, off10, off14] at hr
    have HR0 := Aside0.mk hr
    clear hr
    refine Kd.R_append_rows_step k25 (w0 := wc) (W := w') wc.heap.size (by rfl) (.tmp 44) (.tmp 47) 31 25 (.agg (List.toArray (Value.int .u8 0 :: Value.int .u8 0 :: Value.int .u8 0 :: Value.int .u8 0 :: Value.int .u8 0 :: Value.int .u8 0 :: Value.int .u8 0 :: Value.int .u8 0 :: Value.int .u8 0 :: Value.int .u8 0 :: Value.int .u8 0 :: Value.int .u8 0 :: Value.int .u8 0 :: Value.int .u8 0 :: Value.int .u8 0 :: Value.int .u8 0 :: Value.int .u8 0 :: Value.int .u8 0 :: Value.int .u8 0 :: Value.int .u8 0 :: Value.int .u8 0 :: Value.int .u8 0 :: Value.int .u8 0 :: Value.int .u8 0 :: Value.int .u8 0 :: Value.int .u8 0 :: Value.int .u8 0 :: Value.int .u8 0 :: Value.int .u8 0 :: Value.int .u8 0 :: Value.int .u8 0 :: Value.int .u8 0 :: Value.int .i64 0 :: []))) 40 rfl Tryd.underlying31 info25 rfl (by decide) (by omega) m44 ([] : List S25) (xs.take x5.toNat) AX x5.toNat cx (okg (b 9) g) (fun _ => False) ?s1_4 ?s2_4 ?aO_4 ?aR_4 (fun _ _ h => h) (fun _ h => h.elim) ?aF_4 ?aB_4 ?aS_4 ?aL_4 ?_
    case s1_4 => go_simp; try rfl
    case s2_4 => go_simp; try rfl
    case aO_4 => exact HR0.out.r44 rfl rfl
    case aR_4 => have h := Kd.C_take (m := x5.toNat) (Kd.C_below HX.out HR0.out.below) (by have := J1.out; omega); rwa [List.length_take, Nat.min_eq_left (by have := J1.out; omega)] at h
    case aF_4 => exact fun k hk e he => by have := HR0.out.lt e; omega
    case aB_4 => exact HR0.out.below
    case aS_4 => exact HR0.out.below.size
    case aL_4 => have := HLL.out; have := J1.out; simp only [List.length_nil]; omega
    intro v1 w1 hv hb hg hat
    rw [List.nil_append] at hv
    have h1 := R9.app4 HR0.out hv hb hg
    refine hK.out _ _ ⟨m44, v1, m53, m54, m58, g, ?_, by simpa only [up_z, reduceIte, Nat.reduceEqDiff, on0, off10, off14] using h1⟩
    rw [HA.out]
    exact putSel_upk 4 hb_ rfl rfl rfl
  refine steps_cons ?_ ?_
  · rintro b a w' ⟨m44, m48, m53, m54, m58, g, ha, hR⟩ hb_ hon hoff
    refine ⟨_, rfl, fun K hK => ?_⟩
    have off15 := hoff 15 (by kernel_rfl)
    have e0 : a.tmps[0]? = some (.slice (some ad) l0.length c0) := by rw [ha]; exact (putSel_skip (by simp only [List.all_cons, List.all_nil, off15]; rfl)).trans H0.out
    have off9 := hoff 9 (by kernel_rfl)
    have off10 := hoff 10 (by kernel_rfl)
    have off14 := hoff 14 (by kernel_rfl)
    have HR := Aside0.mk hR
    have HA := Aside0.mk ha
    clear ha hR
    refine value_ (w1 := w') (v := .slice (some ad) l0.length c0) (by rfl) rfl ?_ ?_
    · go_simp; try rfl
    · refine hK.out _ _ ⟨m44, m48, m53, m54, m58, g, ?_, HR.out⟩
      rw [HA.out]
      exact putSel_upk 5 hb_ rfl rfl rfl
  refine steps_cons ?_ ?_
  · rintro b a w' ⟨m44, m48, m53, m54, m58, g, ha, hR⟩ hb_ hon hoff
    refine ⟨_, rfl, fun K hK => ?_⟩
    have off15 := hoff 15 (by kernel_rfl)
    have e4 : a.tmps[4]? = some (.int .i64 i) := by rw [ha]; exact (putSel_skip (by simp only [List.all_cons, List.all_nil, off15]; rfl)).trans H4.out
    have off9 := hoff 9 (by kernel_rfl)
    have off10 := hoff 10 (by kernel_rfl)
    have off14 := hoff 14 (by kernel_rfl)
    have HR := Aside0.mk hR
    have HA := Aside0.mk ha
    clear ha hR
    refine value_ (w1 := w') (v := .int .i64 i) (by rfl) rfl ?_ ?_
    · go_simp; try rfl
    · refine hK.out _ _ ⟨m44, m48, m53, m54, m58, g, ?_, HR.out⟩
      rw [HA.out]
      exact putSel_upk 6 hb_ rfl rfl rfl
  refine steps_cons ?_ ?_
  · rintro b a w' ⟨m44, m48, m53, m54, m58, g, ha, hR⟩ hb_ hon hoff
    refine ⟨_, rfl, fun K hK => ?_⟩
    have e49 : a.tmps[49]? = some (.slice (some ad) l0.length c0) := by rw [ha]; exact putSel_on (e := (5, 49, .slice (some ad) l0.length c0)) 5 rfl rfl (hon 5 (by kernel_rfl)) (HS 49 (by decide))
    have e50 : a.tmps[50]? = some (.int .i64 i) := by rw [ha]; exact putSel_on (e := (6, 50, .int .i64 i)) 6 rfl rfl (hon 6 (by kernel_rfl)) (HS 50 (by decide))
    have off9 := hoff 9 (by kernel_rfl)
    have off10 := hoff 10 (by kernel_rfl)
    have off14 := hoff 14 (by kernel_rfl)
    have HR := Aside0.mk hR
    have HA := Aside0.mk ha
    clear ha hR
    have p_ := eq_true I0.out
    have q_ := eq_true I1.out
    have q2_ := eq_true (show i.toNat < l0.length by have := I0.out; have := I1.out; omega)
    refine value_ (w1 := w') (v := .pointer (some (ad.add (i.toNat * 33)))) (by rfl) rfl ?_ ?_
    · go_simp; try rfl
    · refine hK.out _ _ ⟨m44, m48, m53, m54, m58, g, ?_, HR.out⟩
      rw [HA.out]
      exact putSel_upk 7 hb_ rfl rfl rfl
  refine steps_cons ?_ ?_
  · rintro b a w' ⟨m44, m48, m53, m54, m58, g, ha, hR⟩ hb_ hon hoff
    refine ⟨_, rfl, fun K hK => ?_⟩
    have e51 : a.tmps[51]? = some (.pointer (some (ad.add (i.toNat * 33)))) := by rw [ha]; exact putSel_on (e := (7, 51, .pointer (some (ad.add (i.toNat * 33))))) 7 rfl rfl (hon 7 (by kernel_rfl)) (HS 51 (by decide))
    have off9 := hoff 9 (by kernel_rfl)
    have off10 := hoff 10 (by kernel_rfl)
    have off14 := hoff 14 (by kernel_rfl)
    have HR := Aside0.mk hR
    have HA := Aside0.mk ha
    clear ha hR
    obtain ⟨ad1, e1, h0, h1, h2, h3, h4, h5, h6, h7, h8, h9, h10, h11, h12, h13, h14, h15, h16, h17, h18, h19, h20, h21, h22, h23, h24, h25, h26, h27, h28, h29, h30, h31, h32⟩ := at_T25 (Kd.C_below HL.out (HBc.out.trans (HR.out.below.mono HBc.out.size))) i I0.out I1.out
    obtain rfl : ad = ad1 := by injection e1
    have hcell := Go.Proofs.YtmoecidfmgeafaaDoor.Wide.mk33 h0 h1 h2 h3 h4 h5 h6 h7 h8 h9 h10 h11 h12 h13 h14 h15 h16 h17 h18 h19 h20 h21 h22 h23 h24 h25 h26 h27 h28 h29 h30 h31 h32
    clear h0 h1 h2 h3 h4 h5 h6 h7 h8 h9 h10 h11 h12 h13 h14 h15 h16 h17 h18 h19 h20 h21 h22 h23 h24 h25 h26 h27 h28 h29 h30 h31 h32
    clear e1
    refine value_ (w1 := w') (v := .agg (List.toArray (Value.int .u8 (rd_T25 l0 i).f0.f0 :: Value.int .u8 (rd_T25 l0 i).f0.f1 :: Value.int .u8 (rd_T25 l0 i).f0.f2 :: Value.int .u8 (rd_T25 l0 i).f0.f3 :: Value.int .u8 (rd_T25 l0 i).f0.f4 :: Value.int .u8 (rd_T25 l0 i).f0.f5 :: Value.int .u8 (rd_T25 l0 i).f0.f6 :: Value.int .u8 (rd_T25 l0 i).f0.f7 :: Value.int .u8 (rd_T25 l0 i).f0.f8 :: Value.int .u8 (rd_T25 l0 i).f0.f9 :: Value.int .u8 (rd_T25 l0 i).f0.f10 :: Value.int .u8 (rd_T25 l0 i).f0.f11 :: Value.int .u8 (rd_T25 l0 i).f0.f12 :: Value.int .u8 (rd_T25 l0 i).f0.f13 :: Value.int .u8 (rd_T25 l0 i).f0.f14 :: Value.int .u8 (rd_T25 l0 i).f0.f15 :: Value.int .u8 (rd_T25 l0 i).f0.f16 :: Value.int .u8 (rd_T25 l0 i).f0.f17 :: Value.int .u8 (rd_T25 l0 i).f0.f18 :: Value.int .u8 (rd_T25 l0 i).f0.f19 :: Value.int .u8 (rd_T25 l0 i).f0.f20 :: Value.int .u8 (rd_T25 l0 i).f0.f21 :: Value.int .u8 (rd_T25 l0 i).f0.f22 :: Value.int .u8 (rd_T25 l0 i).f0.f23 :: Value.int .u8 (rd_T25 l0 i).f0.f24 :: Value.int .u8 (rd_T25 l0 i).f0.f25 :: Value.int .u8 (rd_T25 l0 i).f0.f26 :: Value.int .u8 (rd_T25 l0 i).f0.f27 :: Value.int .u8 (rd_T25 l0 i).f0.f28 :: Value.int .u8 (rd_T25 l0 i).f0.f29 :: Value.int .u8 (rd_T25 l0 i).f0.f30 :: Value.int .u8 (rd_T25 l0 i).f0.f31 :: Value.int .i64 (rd_T25 l0 i).f1 :: []))) (by rfl) rfl ?_ ?_
    · go_simp; try rfl
    · refine hK.out _ _ ⟨m44, m48, m53, m54, m58, g, ?_, HR.out⟩
      rw [HA.out]
      exact putSel_upk 8 hb_ rfl rfl rfl
  refine steps_cons ?_ ?_
  · rintro b a w' ⟨m44, m48, m53, m54, m58, g, ha, hR⟩ hb_ hon hoff
    refine ⟨_, rfl, fun K hK => ?_⟩
    have e52 : a.tmps[52]? = some (.agg (List.toArray (Value.int .u8 (rd_T25 l0 i).f0.f0 :: Value.int .u8 (rd_T25 l0 i).f0.f1 :: Value.int .u8 (rd_T25 l0 i).f0.f2 :: Value.int .u8 (rd_T25 l0 i).f0.f3 :: Value.int .u8 (rd_T25 l0 i).f0.f4 :: Value.int .u8 (rd_T25 l0 i).f0.f5 :: Value.int .u8 (rd_T25 l0 i).f0.f6 :: Value.int .u8 (rd_T25 l0 i).f0.f7 :: Value.int .u8 (rd_T25 l0 i).f0.f8 :: Value.int .u8 (rd_T25 l0 i).f0.f9 :: Value.int .u8 (rd_T25 l0 i).f0.f10 :: Value.int .u8 (rd_T25 l0 i).f0.f11 :: Value.int .u8 (rd_T25 l0 i).f0.f12 :: Value.int .u8 (rd_T25 l0 i).f0.f13 :: Value.int .u8 (rd_T25 l0 i).f0.f14 :: Value.int .u8 (rd_T25 l0 i).f0.f15 :: Value.int .u8 (rd_T25 l0 i).f0.f16 :: Value.int .u8 (rd_T25 l0 i).f0.f17 :: Value.int .u8 (rd_T25 l0 i).f0.f18 :: Value.int .u8 (rd_T25 l0 i).f0.f19 :: Value.int .u8 (rd_T25 l0 i).f0.f20 :: Value.int .u8 (rd_T25 l0 i).f0.f21 :: Value.int .u8 (rd_T25 l0 i).f0.f22 :: Value.int .u8 (rd_T25 l0 i).f0.f23 :: Value.int .u8 (rd_T25 l0 i).f0.f24 :: Value.int .u8 (rd_T25 l0 i).f0.f25 :: Value.int .u8 (rd_T25 l0 i).f0.f26 :: Value.int .u8 (rd_T25 l0 i).f0.f27 :: Value.int .u8 (rd_T25 l0 i).f0.f28 :: Value.int .u8 (rd_T25 l0 i).f0.f29 :: Value.int .u8 (rd_T25 l0 i).f0.f30 :: Value.int .u8 (rd_T25 l0 i).f0.f31 :: Value.int .i64 (rd_T25 l0 i).f1 :: []))) := by rw [ha]; exact putSel_on (e := (8, 52, .agg (List.toArray (Value.int .u8 (rd_T25 l0 i).f0.f0 :: Value.int .u8 (rd_T25 l0 i).f0.f1 :: Value.int .u8 (rd_T25 l0 i).f0.f2 :: Value.int .u8 (rd_T25 l0 i).f0.f3 :: Value.int .u8 (rd_T25 l0 i).f0.f4 :: Value.int .u8 (rd_T25 l0 i).f0.f5 :: Value.int .u8 (rd_T25 l0 i).f0.f6 :: Value.int .u8 (rd_T25 l0 i).f0.f7 :: Value.int .u8 (rd_T25 l0 i).f0.f8 :: Value.int .u8 (rd_T25 l0 i).f0.f9 :: Value.int .u8 (rd_T25 l0 i).f0.f10 :: Value.int .u8 (rd_T25 l0 i).f0.f11 :: Value.int .u8 (rd_T25 l0 i).f0.f12 :: Value.int .u8 (rd_T25 l0 i).f0.f13 :: Value.int .u8 (rd_T25 l0 i).f0.f14 :: Value.int .u8 (rd_T25 l0 i).f0.f15 :: Value.int .u8 (rd_T25 l0 i).f0.f16 :: Value.int .u8 (rd_T25 l0 i).f0.f17 :: Value.int .u8 (rd_T25 l0 i).f0.f18 :: Value.int .u8 (rd_T25 l0 i).f0.f19 :: Value.int .u8 (rd_T25 l0 i).f0.f20 :: Value.int .u8 (rd_T25 l0 i).f0.f21 :: Value.int .u8 (rd_T25 l0 i).f0.f22 :: Value.int .u8 (rd_T25 l0 i).f0.f23 :: Value.int .u8 (rd_T25 l0 i).f0.f24 :: Value.int .u8 (rd_T25 l0 i).f0.f25 :: Value.int .u8 (rd_T25 l0 i).f0.f26 :: Value.int .u8 (rd_T25 l0 i).f0.f27 :: Value.int .u8 (rd_T25 l0 i).f0.f28 :: Value.int .u8 (rd_T25 l0 i).f0.f29 :: Value.int .u8 (rd_T25 l0 i).f0.f30 :: Value.int .u8 (rd_T25 l0 i).f0.f31 :: Value.int .i64 (rd_T25 l0 i).f1 :: [])))) 8 rfl rfl (hon 8 (by kernel_rfl)) (HS 52 (by decide))
    have off10 := hoff 10 (by kernel_rfl)
    have off14 := hoff 14 (by kernel_rfl)
    have HR := Aside0.mk hR
    have HA := Aside0.mk ha
    clear ha hR
    have hr := HR.out
    rw [hb_, off10, off14] at hr
    have HR0 := Aside0.mk hr
    clear hr
    refine Kd.R_lit_step k25 (w0 := wc) (W := w') wc.heap.size 25 (by rfl) (N := 53) rfl (xs := [(rd_T25 l0 i)]) (inner := (Value.int .u8 (rd_T25 l0 i).f0.f0 :: Value.int .u8 (rd_T25 l0 i).f0.f1 :: Value.int .u8 (rd_T25 l0 i).f0.f2 :: Value.int .u8 (rd_T25 l0 i).f0.f3 :: Value.int .u8 (rd_T25 l0 i).f0.f4 :: Value.int .u8 (rd_T25 l0 i).f0.f5 :: Value.int .u8 (rd_T25 l0 i).f0.f6 :: Value.int .u8 (rd_T25 l0 i).f0.f7 :: Value.int .u8 (rd_T25 l0 i).f0.f8 :: Value.int .u8 (rd_T25 l0 i).f0.f9 :: Value.int .u8 (rd_T25 l0 i).f0.f10 :: Value.int .u8 (rd_T25 l0 i).f0.f11 :: Value.int .u8 (rd_T25 l0 i).f0.f12 :: Value.int .u8 (rd_T25 l0 i).f0.f13 :: Value.int .u8 (rd_T25 l0 i).f0.f14 :: Value.int .u8 (rd_T25 l0 i).f0.f15 :: Value.int .u8 (rd_T25 l0 i).f0.f16 :: Value.int .u8 (rd_T25 l0 i).f0.f17 :: Value.int .u8 (rd_T25 l0 i).f0.f18 :: Value.int .u8 (rd_T25 l0 i).f0.f19 :: Value.int .u8 (rd_T25 l0 i).f0.f20 :: Value.int .u8 (rd_T25 l0 i).f0.f21 :: Value.int .u8 (rd_T25 l0 i).f0.f22 :: Value.int .u8 (rd_T25 l0 i).f0.f23 :: Value.int .u8 (rd_T25 l0 i).f0.f24 :: Value.int .u8 (rd_T25 l0 i).f0.f25 :: Value.int .u8 (rd_T25 l0 i).f0.f26 :: Value.int .u8 (rd_T25 l0 i).f0.f27 :: Value.int .u8 (rd_T25 l0 i).f0.f28 :: Value.int .u8 (rd_T25 l0 i).f0.f29 :: Value.int .u8 (rd_T25 l0 i).f0.f30 :: Value.int .u8 (rd_T25 l0 i).f0.f31 :: Value.int .i64 (rd_T25 l0 i).f1 :: [])) (ok := fun k => k = w'.heap.size) (okp := fun _ => False) ?hr_9 ?hp_9 (fun _ hk => hk.elim) rfl HR.out.below HR.out.below.size (by simp) ?_
    case hr_9 => first | (go_simp; done) | (go_simp; rfl)
    case hp_9 => exact Reps.snoc (Reps.none _ _) (k25_mkM _ _ _ (rd_T25 l0 i)) rfl
    intro v1 w1 hv hb hg hat
    have h1 := R9.lit9 HR0.out hv hb hg (by obtain ⟨q, hq, hle⟩ := hat; have := Kd.R_lt hv q hq; omega)
    refine hK.out _ _ ⟨m44, m48, v1, m54, m58, w'.heap.size, ?_, by simpa only [up_z, reduceIte, Nat.reduceEqDiff, off10, off14] using h1⟩
    rw [HA.out]
    exact putSel_upk 9 hb_ rfl rfl rfl
  refine steps_cons ?_ ?_
  · rintro b a w' ⟨m44, m48, m53, m54, m58, g, ha, hR⟩ hb_ hon hoff
    refine ⟨_, rfl, fun K hK => ?_⟩
    have e48 : a.tmps[48]? = some (m48) := by rw [ha]; exact putSel_on (e := (4, 48, m48)) 4 rfl rfl (hon 4 (by kernel_rfl)) (HS 48 (by decide))
    have e53 : a.tmps[53]? = some (m53) := by rw [ha]; exact putSel_on (e := (9, 53, m53)) 9 rfl rfl (hon 9 (by kernel_rfl)) (HS 53 (by decide))
    have on0 := hon 0 (by kernel_rfl)
    have on4 := hon 4 (by kernel_rfl)
    have on9 := hon 9 (by kernel_rfl)
    have off14 := hoff 14 (by kernel_rfl)
    have HR := Aside0.mk hR
    have HA := Aside0.mk ha
    clear ha hR
    have hr := HR.out
    rw [hb_, on0, on4, on9, off14] at hr
    have HR0 := Aside0.mk hr
    clear hr
    obtain ⟨A, c, hv53⟩ := Kd.R_slice (HR0.out.r53 rfl rfl)
    have hK53 := HR0.out.r53 rfl rfl
    rw [hv53] at hK53
    have HK53 := Aside0.mk hK53
    clear hK53
    rw [hv53] at e53
    refine Kd.R_append_rows_step k25 (w0 := wc) (W := w') wc.heap.size (by rfl) (.tmp 48) (.tmp 53) 31 25 (.agg (List.toArray (Value.int .u8 0 :: Value.int .u8 0 :: Value.int .u8 0 :: Value.int .u8 0 :: Value.int .u8 0 :: Value.int .u8 0 :: Value.int .u8 0 :: Value.int .u8 0 :: Value.int .u8 0 :: Value.int .u8 0 :: Value.int .u8 0 :: Value.int .u8 0 :: Value.int .u8 0 :: Value.int .u8 0 :: Value.int .u8 0 :: Value.int .u8 0 :: Value.int .u8 0 :: Value.int .u8 0 :: Value.int .u8 0 :: Value.int .u8 0 :: Value.int .u8 0 :: Value.int .u8 0 :: Value.int .u8 0 :: Value.int .u8 0 :: Value.int .u8 0 :: Value.int .u8 0 :: Value.int .u8 0 :: Value.int .u8 0 :: Value.int .u8 0 :: Value.int .u8 0 :: Value.int .u8 0 :: Value.int .u8 0 :: Value.int .i64 0 :: []))) 40 rfl Tryd.underlying31 info25 rfl (by decide) (by omega) m48 (xs.take x5.toNat) [(rd_T25 l0 i)] A 1 c (fun _ => True) (fun _ => False) ?s1_10 ?s2_10 ?aO_10 ?aR_10 (fun _ _ h => h) (fun _ h => h.elim) ?aF_10 ?aB_10 ?aS_10 ?aL_10 ?_
    case s1_10 => go_simp; try rfl
    case s2_10 => go_simp; try rfl
    case aO_10 => exact Kd.R_mono (HR0.out.r48 rfl rfl) (fun _ _ => trivial)
    case aR_10 => exact (Kd.R_reads' HK53.out).2.2
    case aF_10 => exact fun _ _ => trivial
    case aB_10 => exact HR0.out.below
    case aS_10 => exact HR0.out.below.size
    case aL_10 => have := HLL.out; simp only [List.length_take, List.length_cons, List.length_nil]; omega
    intro v1 w1 hv hb hg hat
    have h1 := R9.app10 HR0.out hv hb hg.size
    refine hK.out _ _ ⟨m44, m48, m53, v1, m58, g, ?_, by simpa only [up_z, reduceIte, Nat.reduceEqDiff, on0, on4, on9, off14] using h1⟩
    rw [HA.out]
    exact putSel_upk 10 hb_ rfl rfl rfl
  refine steps_cons ?_ ?_
  · rintro b a w' ⟨m44, m48, m53, m54, m58, g, ha, hR⟩ hb_ hon hoff
    refine ⟨_, rfl, fun K hK => ?_⟩
    have off15 := hoff 15 (by kernel_rfl)
    have e3 : a.tmps[3]? = some (.slice AX xs.length cx) := by rw [ha]; exact (putSel_skip (by simp only [List.all_cons, List.all_nil, off15]; rfl)).trans H3.out
    have off14 := hoff 14 (by kernel_rfl)
    have HR := Aside0.mk hR
    have HA := Aside0.mk ha
    clear ha hR
    refine value_ (w1 := w') (v := .slice AX xs.length cx) (by rfl) rfl ?_ ?_
    · go_simp; try rfl
    · refine hK.out _ _ ⟨m44, m48, m53, m54, m58, g, ?_, HR.out⟩
      rw [HA.out]
      exact putSel_upk 11 hb_ rfl rfl rfl
  refine steps_cons ?_ ?_
  · rintro b a w' ⟨m44, m48, m53, m54, m58, g, ha, hR⟩ hb_ hon hoff
    refine ⟨_, rfl, fun K hK => ?_⟩
    have off15 := hoff 15 (by kernel_rfl)
    have e5 : a.tmps[5]? = some (.int .i64 x5) := by rw [ha]; exact (putSel_skip (by simp only [List.all_cons, List.all_nil, off15]; rfl)).trans H5.out
    have off14 := hoff 14 (by kernel_rfl)
    have HR := Aside0.mk hR
    have HA := Aside0.mk ha
    clear ha hR
    refine value_ (w1 := w') (v := .int .i64 x5) (by rfl) rfl ?_ ?_
    · go_simp; try rfl
    · refine hK.out _ _ ⟨m44, m48, m53, m54, m58, g, ?_, HR.out⟩
      rw [HA.out]
      exact putSel_upk 12 hb_ rfl rfl rfl
  refine steps_cons ?_ ?_
  · rintro b a w' ⟨m44, m48, m53, m54, m58, g, ha, hR⟩ hb_ hon hoff
    refine ⟨_, rfl, fun K hK => ?_⟩
    have e55 : a.tmps[55]? = some (.slice AX xs.length cx) := by rw [ha]; exact putSel_on (e := (11, 55, .slice AX xs.length cx)) 11 rfl rfl (hon 11 (by kernel_rfl)) (HS 55 (by decide))
    have e56 : a.tmps[56]? = some (.int .i64 x5) := by rw [ha]; exact putSel_on (e := (12, 56, .int .i64 x5)) 12 rfl rfl (hon 12 (by kernel_rfl)) (HS 56 (by decide))
    have off14 := hoff 14 (by kernel_rfl)
    have HR := Aside0.mk hR
    have HA := Aside0.mk ha
    clear ha hR
    obtain ⟨i0, hi0, _, hsz0, _⟩ := info_parts info25
    have hcut := cut_from (P := Tryd.prog) 31 25 .i64 Tryd.underlying31 hi0 33 hsz0 AX xs.length cx x5 J0.out J1.out
    clear hi0 hsz0
    refine value_ (w1 := w') (v := .slice (if cx = x5.toNat then AX else AX.map (·.add (x5.toNat * 33))) (xs.length - x5.toNat) (cx - x5.toNat)) (by rfl) rfl ?_ ?_
    · go_simp; try rfl
    · refine hK.out _ _ ⟨m44, m48, m53, m54, m58, g, ?_, HR.out⟩
      rw [HA.out]
      exact putSel_upk 13 hb_ rfl rfl rfl
  refine steps_cons ?_ ?_
  · rintro b a w' ⟨m44, m48, m53, m54, m58, g, ha, hR⟩ hb_ hon hoff
    refine ⟨_, rfl, fun K hK => ?_⟩
    have e54 : a.tmps[54]? = some (m54) := by rw [ha]; exact putSel_on (e := (10, 54, m54)) 10 rfl rfl (hon 10 (by kernel_rfl)) (HS 54 (by decide))
    have e57 : a.tmps[57]? = some (.slice (if cx = x5.toNat then AX else AX.map (·.add (x5.toNat * 33))) (xs.length - x5.toNat) (cx - x5.toNat)) := by rw [ha]; exact putSel_on (e := (13, 57, .slice (if cx = x5.toNat then AX else AX.map (·.add (x5.toNat * 33))) (xs.length - x5.toNat) (cx - x5.toNat))) 13 rfl rfl (hon 13 (by kernel_rfl)) (HS 57 (by decide))
    have on0 := hon 0 (by kernel_rfl)
    have on4 := hon 4 (by kernel_rfl)
    have on9 := hon 9 (by kernel_rfl)
    have on10 := hon 10 (by kernel_rfl)
    have HR := Aside0.mk hR
    have HA := Aside0.mk ha
    clear ha hR
    have hr := HR.out
    rw [hb_, on0, on4, on9, on10] at hr
    have HR0 := Aside0.mk hr
    clear hr
    refine Kd.R_append_rows_step k25 (w0 := wc) (W := w') wc.heap.size (by rfl) (.tmp 54) (.tmp 57) 31 25 (.agg (List.toArray (Value.int .u8 0 :: Value.int .u8 0 :: Value.int .u8 0 :: Value.int .u8 0 :: Value.int .u8 0 :: Value.int .u8 0 :: Value.int .u8 0 :: Value.int .u8 0 :: Value.int .u8 0 :: Value.int .u8 0 :: Value.int .u8 0 :: Value.int .u8 0 :: Value.int .u8 0 :: Value.int .u8 0 :: Value.int .u8 0 :: Value.int .u8 0 :: Value.int .u8 0 :: Value.int .u8 0 :: Value.int .u8 0 :: Value.int .u8 0 :: Value.int .u8 0 :: Value.int .u8 0 :: Value.int .u8 0 :: Value.int .u8 0 :: Value.int .u8 0 :: Value.int .u8 0 :: Value.int .u8 0 :: Value.int .u8 0 :: Value.int .u8 0 :: Value.int .u8 0 :: Value.int .u8 0 :: Value.int .u8 0 :: Value.int .i64 0 :: []))) 40 rfl Tryd.underlying31 info25 rfl (by decide) (by omega) m54 (xs.take x5.toNat ++ [(rd_T25 l0 i)]) (xs.drop x5.toNat) (if cx = x5.toNat then AX else AX.map (·.add (x5.toNat * 33))) (xs.length - x5.toNat) (cx - x5.toNat) (fun _ => True) (fun _ => False) ?s1_14 ?s2_14 ?aO_14 ?aR_14 (fun _ _ h => h) (fun _ h => h.elim) ?aF_14 ?aB_14 ?aS_14 ?aL_14 ?_
    case s1_14 => go_simp; try rfl
    case s2_14 => go_simp; try rfl
    case aO_14 => exact HR0.out.r54 rfl rfl
    case aR_14 => have h := Kd.C_drop (m := x5.toNat) (c := cx) (Kd.C_below HX.out HR0.out.below) (by have := J1.out; omega) HX1.out; rwa [List.length_drop] at h
    case aF_14 => exact fun _ _ => trivial
    case aB_14 => exact HR0.out.below
    case aS_14 => exact HR0.out.below.size
    case aL_14 => have := HLL.out; have := J1.out; have := J0.out; simp only [List.length_append, List.length_take, List.length_cons, List.length_nil]; omega
    intro v1 w1 hv hb hg hat
    have h1 := R9.app14 HR0.out hv hb hg.size
    refine hK.out _ _ ⟨m44, m48, m53, m54, v1, g, ?_, by simpa only [up_z, reduceIte, Nat.reduceEqDiff, on0, on4, on9, on10] using h1⟩
    have off15 := hoff 15 (by kernel_rfl)
    rw [HA.out.trans (putSel_last (L := [(0, 44, m44), (1, 45, .slice AX xs.length cx), (2, 46, .int .i64 x5), (3, 47, .slice AX x5.toNat cx), (4, 48, m48), (5, 49, .slice (some ad) l0.length c0), (6, 50, .int .i64 i), (7, 51, .pointer (some (ad.add (i.toNat * 33)))), (8, 52, .agg (List.toArray (Value.int .u8 (rd_T25 l0 i).f0.f0 :: Value.int .u8 (rd_T25 l0 i).f0.f1 :: Value.int .u8 (rd_T25 l0 i).f0.f2 :: Value.int .u8 (rd_T25 l0 i).f0.f3 :: Value.int .u8 (rd_T25 l0 i).f0.f4 :: Value.int .u8 (rd_T25 l0 i).f0.f5 :: Value.int .u8 (rd_T25 l0 i).f0.f6 :: Value.int .u8 (rd_T25 l0 i).f0.f7 :: Value.int .u8 (rd_T25 l0 i).f0.f8 :: Value.int .u8 (rd_T25 l0 i).f0.f9 :: Value.int .u8 (rd_T25 l0 i).f0.f10 :: Value.int .u8 (rd_T25 l0 i).f0.f11 :: Value.int .u8 (rd_T25 l0 i).f0.f12 :: Value.int .u8 (rd_T25 l0 i).f0.f13 :: Value.int .u8 (rd_T25 l0 i).f0.f14 :: Value.int .u8 (rd_T25 l0 i).f0.f15 :: Value.int .u8 (rd_T25 l0 i).f0.f16 :: Value.int .u8 (rd_T25 l0 i).f0.f17 :: Value.int .u8 (rd_T25 l0 i).f0.f18 :: Value.int .u8 (rd_T25 l0 i).f0.f19 :: Value.int .u8 (rd_T25 l0 i).f0.f20 :: Value.int .u8 (rd_T25 l0 i).f0.f21 :: Value.int .u8 (rd_T25 l0 i).f0.f22 :: Value.int .u8 (rd_T25 l0 i).f0.f23 :: Value.int .u8 (rd_T25 l0 i).f0.f24 :: Value.int .u8 (rd_T25 l0 i).f0.f25 :: Value.int .u8 (rd_T25 l0 i).f0.f26 :: Value.int .u8 (rd_T25 l0 i).f0.f27 :: Value.int .u8 (rd_T25 l0 i).f0.f28 :: Value.int .u8 (rd_T25 l0 i).f0.f29 :: Value.int .u8 (rd_T25 l0 i).f0.f30 :: Value.int .u8 (rd_T25 l0 i).f0.f31 :: Value.int .i64 (rd_T25 l0 i).f1 :: []))), (9, 53, m53), (10, 54, m54), (11, 55, .slice AX xs.length cx), (12, 56, .int .i64 x5), (13, 57, .slice (if cx = x5.toNat then AX else AX.map (·.add (x5.toNat * 33))) (xs.length - x5.toNat) (cx - x5.toNat)), (14, 58, m58)]) (e := (15, 3, m58)) off15)]
    exact (putSel_upk (L := [(0, 44, m44), (1, 45, .slice AX xs.length cx), (2, 46, .int .i64 x5), (3, 47, .slice AX x5.toNat cx), (4, 48, m48), (5, 49, .slice (some ad) l0.length c0), (6, 50, .int .i64 i), (7, 51, .pointer (some (ad.add (i.toNat * 33)))), (8, 52, .agg (List.toArray (Value.int .u8 (rd_T25 l0 i).f0.f0 :: Value.int .u8 (rd_T25 l0 i).f0.f1 :: Value.int .u8 (rd_T25 l0 i).f0.f2 :: Value.int .u8 (rd_T25 l0 i).f0.f3 :: Value.int .u8 (rd_T25 l0 i).f0.f4 :: Value.int .u8 (rd_T25 l0 i).f0.f5 :: Value.int .u8 (rd_T25 l0 i).f0.f6 :: Value.int .u8 (rd_T25 l0 i).f0.f7 :: Value.int .u8 (rd_T25 l0 i).f0.f8 :: Value.int .u8 (rd_T25 l0 i).f0.f9 :: Value.int .u8 (rd_T25 l0 i).f0.f10 :: Value.int .u8 (rd_T25 l0 i).f0.f11 :: Value.int .u8 (rd_T25 l0 i).f0.f12 :: Value.int .u8 (rd_T25 l0 i).f0.f13 :: Value.int .u8 (rd_T25 l0 i).f0.f14 :: Value.int .u8 (rd_T25 l0 i).f0.f15 :: Value.int .u8 (rd_T25 l0 i).f0.f16 :: Value.int .u8 (rd_T25 l0 i).f0.f17 :: Value.int .u8 (rd_T25 l0 i).f0.f18 :: Value.int .u8 (rd_T25 l0 i).f0.f19 :: Value.int .u8 (rd_T25 l0 i).f0.f20 :: Value.int .u8 (rd_T25 l0 i).f0.f21 :: Value.int .u8 (rd_T25 l0 i).f0.f22 :: Value.int .u8 (rd_T25 l0 i).f0.f23 :: Value.int .u8 (rd_T25 l0 i).f0.f24 :: Value.int .u8 (rd_T25 l0 i).f0.f25 :: Value.int .u8 (rd_T25 l0 i).f0.f26 :: Value.int .u8 (rd_T25 l0 i).f0.f27 :: Value.int .u8 (rd_T25 l0 i).f0.f28 :: Value.int .u8 (rd_T25 l0 i).f0.f29 :: Value.int .u8 (rd_T25 l0 i).f0.f30 :: Value.int .u8 (rd_T25 l0 i).f0.f31 :: Value.int .i64 (rd_T25 l0 i).f1 :: []))), (9, 53, m53), (10, 54, m54), (11, 55, .slice AX xs.length cx), (12, 56, .int .i64 x5), (13, 57, .slice (if cx = x5.toNat then AX else AX.map (·.add (x5.toNat * 33))) (xs.length - x5.toNat) (cx - x5.toNat)), (14, 58, m58)]) (L' := [(0, 44, m44), (1, 45, .slice AX xs.length cx), (2, 46, .int .i64 x5), (3, 47, .slice AX x5.toNat cx), (4, 48, m48), (5, 49, .slice (some ad) l0.length c0), (6, 50, .int .i64 i), (7, 51, .pointer (some (ad.add (i.toNat * 33)))), (8, 52, .agg (List.toArray (Value.int .u8 (rd_T25 l0 i).f0.f0 :: Value.int .u8 (rd_T25 l0 i).f0.f1 :: Value.int .u8 (rd_T25 l0 i).f0.f2 :: Value.int .u8 (rd_T25 l0 i).f0.f3 :: Value.int .u8 (rd_T25 l0 i).f0.f4 :: Value.int .u8 (rd_T25 l0 i).f0.f5 :: Value.int .u8 (rd_T25 l0 i).f0.f6 :: Value.int .u8 (rd_T25 l0 i).f0.f7 :: Value.int .u8 (rd_T25 l0 i).f0.f8 :: Value.int .u8 (rd_T25 l0 i).f0.f9 :: Value.int .u8 (rd_T25 l0 i).f0.f10 :: Value.int .u8 (rd_T25 l0 i).f0.f11 :: Value.int .u8 (rd_T25 l0 i).f0.f12 :: Value.int .u8 (rd_T25 l0 i).f0.f13 :: Value.int .u8 (rd_T25 l0 i).f0.f14 :: Value.int .u8 (rd_T25 l0 i).f0.f15 :: Value.int .u8 (rd_T25 l0 i).f0.f16 :: Value.int .u8 (rd_T25 l0 i).f0.f17 :: Value.int .u8 (rd_T25 l0 i).f0.f18 :: Value.int .u8 (rd_T25 l0 i).f0.f19 :: Value.int .u8 (rd_T25 l0 i).f0.f20 :: Value.int .u8 (rd_T25 l0 i).f0.f21 :: Value.int .u8 (rd_T25 l0 i).f0.f22 :: Value.int .u8 (rd_T25 l0 i).f0.f23 :: Value.int .u8 (rd_T25 l0 i).f0.f24 :: Value.int .u8 (rd_T25 l0 i).f0.f25 :: Value.int .u8 (rd_T25 l0 i).f0.f26 :: Value.int .u8 (rd_T25 l0 i).f0.f27 :: Value.int .u8 (rd_T25 l0 i).f0.f28 :: Value.int .u8 (rd_T25 l0 i).f0.f29 :: Value.int .u8 (rd_T25 l0 i).f0.f30 :: Value.int .u8 (rd_T25 l0 i).f0.f31 :: Value.int .i64 (rd_T25 l0 i).f1 :: []))), (9, 53, m53), (10, 54, m54), (11, 55, .slice AX xs.length cx), (12, 56, .int .i64 x5), (13, 57, .slice (if cx = x5.toNat then AX else AX.map (·.add (x5.toNat * 33))) (xs.length - x5.toNat) (cx - x5.toNat)), (14, 58, v1)]) 14 hb_ rfl rfl rfl).trans (putSel_last (b := up b 14) (L := [(0, 44, m44), (1, 45, .slice AX xs.length cx), (2, 46, .int .i64 x5), (3, 47, .slice AX x5.toNat cx), (4, 48, m48), (5, 49, .slice (some ad) l0.length c0), (6, 50, .int .i64 i), (7, 51, .pointer (some (ad.add (i.toNat * 33)))), (8, 52, .agg (List.toArray (Value.int .u8 (rd_T25 l0 i).f0.f0 :: Value.int .u8 (rd_T25 l0 i).f0.f1 :: Value.int .u8 (rd_T25 l0 i).f0.f2 :: Value.int .u8 (rd_T25 l0 i).f0.f3 :: Value.int .u8 (rd_T25 l0 i).f0.f4 :: Value.int .u8 (rd_T25 l0 i).f0.f5 :: Value.int .u8 (rd_T25 l0 i).f0.f6 :: Value.int .u8 (rd_T25 l0 i).f0.f7 :: Value.int .u8 (rd_T25 l0 i).f0.f8 :: Value.int .u8 (rd_T25 l0 i).f0.f9 :: Value.int .u8 (rd_T25 l0 i).f0.f10 :: Value.int .u8 (rd_T25 l0 i).f0.f11 :: Value.int .u8 (rd_T25 l0 i).f0.f12 :: Value.int .u8 (rd_T25 l0 i).f0.f13 :: Value.int .u8 (rd_T25 l0 i).f0.f14 :: Value.int .u8 (rd_T25 l0 i).f0.f15 :: Value.int .u8 (rd_T25 l0 i).f0.f16 :: Value.int .u8 (rd_T25 l0 i).f0.f17 :: Value.int .u8 (rd_T25 l0 i).f0.f18 :: Value.int .u8 (rd_T25 l0 i).f0.f19 :: Value.int .u8 (rd_T25 l0 i).f0.f20 :: Value.int .u8 (rd_T25 l0 i).f0.f21 :: Value.int .u8 (rd_T25 l0 i).f0.f22 :: Value.int .u8 (rd_T25 l0 i).f0.f23 :: Value.int .u8 (rd_T25 l0 i).f0.f24 :: Value.int .u8 (rd_T25 l0 i).f0.f25 :: Value.int .u8 (rd_T25 l0 i).f0.f26 :: Value.int .u8 (rd_T25 l0 i).f0.f27 :: Value.int .u8 (rd_T25 l0 i).f0.f28 :: Value.int .u8 (rd_T25 l0 i).f0.f29 :: Value.int .u8 (rd_T25 l0 i).f0.f30 :: Value.int .u8 (rd_T25 l0 i).f0.f31 :: Value.int .i64 (rd_T25 l0 i).f1 :: []))), (9, 53, m53), (10, 54, m54), (11, 55, .slice AX xs.length cx), (12, 56, .int .i64 x5), (13, 57, .slice (if cx = x5.toNat then AX else AX.map (·.add (x5.toNat * 33))) (xs.length - x5.toNat) (cx - x5.toNat)), (14, 58, v1)]) (e := (15, 3, v1)) off15).symm
  refine steps_cons ?_ ?_
  · rintro b a w' ⟨m44, m48, m53, m54, m58, g, ha, hR⟩ hb_ hon hoff
    refine ⟨_, rfl, fun K hK => ?_⟩
    have e58 : a.tmps[58]? = some (m58) := by rw [ha]; exact putSel_on (e := (14, 58, m58)) 14 rfl rfl (hon 14 (by kernel_rfl)) (HS 58 (by decide))
    have on0 := hon 0 (by kernel_rfl)
    have on4 := hon 4 (by kernel_rfl)
    have on9 := hon 9 (by kernel_rfl)
    have on10 := hon 10 (by kernel_rfl)
    have on14 := hon 14 (by kernel_rfl)
    have HR := Aside0.mk hR
    have HA := Aside0.mk ha
    clear ha hR
    refine value_ (w1 := w') (v := m58) (by rfl) rfl ?_ ?_
    · go_simp; try rfl
    · refine hK.out _ _ ⟨m44, m48, m53, m54, m58, g, ?_, HR.out⟩
      rw [HA.out]
      exact putSel_upk 15 hb_ rfl rfl rfl
  exact steps_nil
  · rintro b a w' hall ⟨m44, m48, m53, m54, m58, g, ha, hR⟩
    have hb0_ := hall 0 (by kernel_rfl)
    have hb1_ := hall 1 (by kernel_rfl)
    have hb2_ := hall 2 (by kernel_rfl)
    have hb3_ := hall 3 (by kernel_rfl)
    have hb4_ := hall 4 (by kernel_rfl)
    have hb5_ := hall 5 (by kernel_rfl)
    have hb6_ := hall 6 (by kernel_rfl)
    have hb7_ := hall 7 (by kernel_rfl)
    have hb8_ := hall 8 (by kernel_rfl)
    have hb9_ := hall 9 (by kernel_rfl)
    have hb10_ := hall 10 (by kernel_rfl)
    have hb11_ := hall 11 (by kernel_rfl)
    have hb12_ := hall 12 (by kernel_rfl)
    have hb13_ := hall 13 (by kernel_rfl)
    have hb14_ := hall 14 (by kernel_rfl)
    have hb15_ := hall 15 (by kernel_rfl)
    have h := HE.out m44 m48 m53 m54 (.slice (if cx = x5.toNat then AX else AX.map (·.add (x5.toNat * 33))) (xs.length - x5.toNat) (cx - x5.toNat)) m58 w' (Kd.R_lower (hR.r58 hb14_) HBc.out.size) (HBc.out.trans (hR.below.mono HBc.out.size))
    subst ha
    simp only [putSel, hb0_, hb1_, hb2_, hb3_, hb4_, hb5_, hb6_, hb7_, hb8_, hb9_, hb10_, hb11_, hb12_, hb13_, hb14_, hb15_, if_true]
    exact h
end Go.Proofs.YtmoecidfmgeafaaDoor.QPnt
