import Derived.Test.YtiodebjjbgcbhaaGreatRfI
namespace Go.Proofs.YtiodebjjbgcbhaaGreat.RfB
open Go.RowKit Go.Sort Go.Lib Go.Shelf Go.Proofs YtiodebjjbgcbhaaGreatW.PrintWords YtiodebjjbgcbhaaGreatW.PrintLast YtiodebjjbgcbhaaGreatW.PrintMore YtiodebjjbgcbhaaGreat Hand Inp RowK Fill OrdO QLef LefL
attribute [local go_sem ↓ high] Wide.hv44 Wide.hv33 Wide.hv37 Wide.hv32 Wide.hv38
set_option linter.unusedVariables false
set_option linter.unusedSimpArgs false
abbrev zB : Array Value := #[.slice none 0 0, .slice none 0 0, .int .i64 0, .int .i64 0, .int .i64 0]
structure MJ (w : World) (gm gt : Nat) (tc : Array Value) (v0 v9 : Value) (ins : List S79) (vals : List Int) (W : World) : Prop where
 bm : W.heap[gm]? = some (.cells zB 53 (0, 0))
 bt : W.heap[gt]? = some (.cells tc 48 (0, 0))
 r0 : Kd.R k79 79 W w.heap.size (fun _ => True) v0 ins
 r9 : Kd.R (Kd.int .i64) 3 W w.heap.size (fun _ => True) v9 vals
 hb : Below w.heap.size w W
 gm0 : w.heap.size ≤ gm
 gt0 : w.heap.size ≤ gt
section
variable {w W W' : World} {gm gt : Nat} {tc : Array Value} {v0 v9 v : Value} {ins ins' : List S79} {vals vals' : List Int}
theorem MJ.below (h : MJ w gm gt tc v0 v9 ins vals W) (hb : Below W.heap.size W W') : MJ w gm gt tc v0 v9 ins vals W' := ⟨blk_below h.bm hb, blk_below h.bt hb, Kd.R_below h.r0 hb, Kd.R_below h.r9 hb, below_step h.hb hb, h.gm0, h.gt0⟩
theorem MJ.app0 (h : MJ w gm gt tc v0 v9 ins vals W) (hg : W.grownBy W' v0.ownBlock) (hv : Kd.R k79 79 W' w.heap.size (fun _ => True) v ins') (hb : Below w.heap.size w W') : MJ w gm gt tc v v9 ins' vals W' := ⟨blk_grown h.bm hg (Kd.R_ne h.r0 h.bm (by decide)), blk_grown h.bt hg (Kd.R_ne h.r0 h.bt (by decide)), hv, Kd.R_grown2 h.r9 rfl hg (R_apart h.r0 h.r9 (by decide)), hb, h.gm0, h.gt0⟩
theorem MJ.app9 (h : MJ w gm gt tc v0 v9 ins vals W) (hg : W.grownBy W' v9.ownBlock) (hv : Kd.R (Kd.int .i64) 3 W' w.heap.size (fun _ => True) v vals') (hb : Below w.heap.size w W') : MJ w gm gt tc v0 v ins vals' W' := ⟨blk_grown h.bm hg (Kd.R_ne h.r9 h.bm (by decide)), blk_grown h.bt hg (Kd.R_ne h.r9 h.bt (by decide)), Kd.R_grown2 h.r0 rfl hg (R_apart h.r9 h.r0 (by decide)), hv, hb, h.gm0, h.gt0⟩
theorem MJ.put (h : MJ w gm gt tc v0 v9 ins vals W) (j : Nat) (u : Value) {tc' : Array Value} (e : tc.setIfInBounds j u = tc') : MJ w gm gt tc' v0 v9 ins vals (W.setCell ⟨gt, j, none⟩ u) :=
 have hgs : W.grownBy (W.setCell ⟨gt, j, none⟩ u) (some gt) := grown_setCells gt [u] j W
 ⟨blk_far (p := ⟨gt, j, none⟩) h.bm (blk_ne h.bm h.bt (by decide)) u, blk_put h.bt j u e, Kd.R_grown2 h.r0 rfl hgs (fun k e => by cases e; exact Kd.R_ne h.r0 h.bt (by decide)), Kd.R_grown2 h.r9 rfl hgs (fun k e => by cases e; exact Kd.R_ne h.r9 h.bt (by decide)), below_set (j := j) (v := u) h.hb h.gt0, h.gm0, h.gt0⟩
end
def zcIn : Value := .agg #[(.int .u8 0), (.int .u8 0), (.int .u8 0), (.int .u8 0), (.int .u8 0), (.int .u8 0), (.int .u8 0), (.int .u8 0), (.int .u8 0), (.int .u8 0), (.int .u8 0), (.int .u8 0), (.int .u8 0), (.int .u8 0), (.int .u8 0), (.int .u8 0), (.int .u8 0), (.int .u8 0), (.int .u8 0), (.int .u8 0), (.int .u8 0), (.int .u8 0), (.int .u8 0), (.int .u8 0), (.int .u8 0), (.int .u8 0), (.int .u8 0), (.int .u8 0), (.int .u8 0), (.int .u8 0), (.int .u8 0), (.int .u8 0), (.int .i64 0), (.int .i64 0), (.int .i64 0), (.int .i64 0), (.string ⟨#[]⟩)]
theorem info_in : (Tryz.prog.info? 79).map (fun i => (i.zero, i.size, i.bytes)) = some (some zcIn, 37, 80) := by kernel_rfl
theorem MJ.out {w W : World} {gm gt g : Nat} {tc cs : Array Value} {v0 v9 : Value} {ins : List S79} {vals : List Int} (h : MJ w gm gt tc v0 v9 ins vals W) (hO : W.heap[g]? = some (.cells cs 90 (0, 0))) (hg : w.heap.size ≤ g) (j : Nat) (u : Value) : MJ w gm gt tc v0 v9 ins vals (W.setCell ⟨g, j, none⟩ u) :=
 have hgs : W.grownBy (W.setCell ⟨g, j, none⟩ u) (some g) := grown_setCells g [u] j W
 ⟨blk_far (p := ⟨g, j, none⟩) h.bm (blk_ne h.bm hO (by decide)) u, blk_far (p := ⟨g, j, none⟩) h.bt (blk_ne h.bt hO (by decide)) u, Kd.R_grown2 h.r0 rfl hgs (fun k e => by cases e; exact Kd.R_ne h.r0 hO (by decide)), Kd.R_grown2 h.r9 rfl hgs (fun k e => by cases e; exact Kd.R_ne h.r9 hO (by decide)), below_set (j := j) (v := u) h.hb hg, h.gm0, h.gt0⟩
theorem tot_two : ∀ (l : List Int) (s : Int), (totS s l).2 = 0 ∨ (totS s l).2 = 11
 | [], _ => .inl rfl
 | a :: l, s => by
  have e : (addS s a).2 = 0 ∨ (addS s a).2 = 11 := by unfold addS; split <;> simp
  unfold totS
  split
  ·exact tot_two l _
  ·exact e
theorem fee_two (w r : Int) : (feeS w r).2 = 0 ∨ (feeS w r).2 = 11 := by unfold feeS; split <;> simp
set_option maxHeartbeats 8000000 in
set_option maxRecDepth 100000 in
theorem refmake_calls (l : List S42) (n : Nat) (hn : l.length = n) (hl : n < 100000) (A : Option Addr) (c : Nat) (hc : n ≤ c) (rate key : Int) (w : World) (hr : Kd.C k42 w A n l) :
 Calls Tryz.prog 13 #[.slice A n c, .int .i64 rate, .int .i64 key] w fun e w' => Made w e w' (makeC J68 l rate key) := by
 have mixed : Tryz.prog.follows .mixedOrders = true := by kernel_rfl
 have HR := Ak (rd42 hr)
 have HN := Ak hn
 have HL := Ak hl
 have HC := Ak hc
 have MV := Ak (show makeC J68 l rate key = if n = 0 then none else if wiB key 0 1073741824 = false then none else if (l.all fun x => chkC J68 x == 0) = false then none else
  if (totS 0 (l.map J68.value)).2 ≠ 0 then none else if (feeS (weightV (l.map J68.inS) 1) rate).2 ≠ 0 then none else if (feeS (weightV (l.map J68.inS) 1) rate).1 > budV J68 l then none else if wrap64 ((totS 0 (l.map J68.value)).1 - (feeS (weightV (l.map J68.inS) 1) rate).1) < 330 then none else
  if tcC (l.map J68.inS) [outS (wrap64 ((totS 0 (l.map J68.value)).1 - (feeS (weightV (l.map J68.inS) 1) rate).1)) key] (lockV J68 l) ≠ 0 then none else some ⟨l.map J68.inS, [outS (wrap64 ((totS 0 (l.map J68.value)).1 - (feeS (weightV (l.map J68.inS) 1) rate).1)) key], lockV J68 l, (feeS (weightV (l.map J68.inS) 1) rate).1, rate⟩ by
  unfold makeC makeV
  simp only [show (l = []) = (n = 0) by rw [← hn]; exact propext List.length_eq_zero_iff.symm]
  rcases tot_two (l.map J68.value) 0 with h1 | h1 <;> rcases fee_two (weightV (l.map J68.inS) 1) rate with h2 | h2 <;> simp only [h1, h2] <;> rfl)
 generalize makeC J68 l rate key = res at MV ⊢
 clear hr hn hl hc
 have HB := Ak (Below.refl w.heap.size w)
 have hu1 := Tryz.underlying42
 have hu2 := Tryz.underlying40
 have hu3 := Tryz.underlying48
 have hu4 := Tryz.underlying90
 have hu5 := Tryz.underlying53
 go_enter Tryz.func13, Tryz.ntmps13
 go_upto_region 1 with (first | ((with_reducible refine gate_dst (N := 6) rfl ?_); refine box_event ?hg (N := 6) ?hd (cs := zB) (t := 53) ?hr ?_; (case hd => rfl); (case hg => rfl); (case hr => first | (go_simp; done) | (go_simp; rfl)); intro gm hg w1 hbox hb; replace HB := Ak (below_step HB.1 hb); have BM := Ak hbox; have GM := Ak (show w.heap.size ≤ gm by rw [hg]; exact Nat.le_refl _); clear hbox hb hg))
 by_cases h0 : n = 0
 ·obtain rfl : none = res := by rw [MV.1, if_pos h0]
  subst h0
  go_wp2_with (first | ((with_reducible refine gate_store (t := 53) (p := 6) rfl ?_); refine PutW.store_event ?b1 ?b2 53 (.tmp 6) (.tmp 27) ?b3 (g := gm) (t := 53) (cells := zB) ?a1 ?a2 BM.1 rfl ?a4 ?a5 ?_; (case b1 => rfl); (case b2 => rfl); (case b3 => rfl); (case a1 => first | rfl | (go_simp; done)); (case a2 => first | rfl | (go_simp; done)); (case a4 => kernel_rfl); (case a5 => kernel_rfl); intro w3 hz3 hs3 hg3; have HB3 := Ak (pw_below_grown HB.1 (some gm) HB.1.size hg3 (fun k e => by cases e; exact GM.1)); have BM3 := Ak hz3; clear hz3 hs3 hg3))
  refine bodyPost_ret (results_ct rfl _ _ gm 53 zB (0, 0) _ rfl BM3.1 Tryz.underlying53 rfl (by kernel_rfl)) rfl ?_
  exact Made.no rfl HB3.1
 ·replace MV := Ak (show res = _ from by rw [MV.1, if_neg h0])
  have h0a : ((n : Int) == 0) = false := by simpa using h0
  have HP := Ak (show 0 < n by omega)
  clear h0
  by_cases h1 : key < 0
  ·obtain rfl : none = res := by rw [MV.1, if_pos (by unfold wiB; simp; omega)]
   have h1a := decide_eq_true h1
   go_wp2_with (first | ((with_reducible refine gate_store (t := 53) (p := 6) rfl ?_); refine PutW.store_event ?b1 ?b2 53 (.tmp 6) (.tmp 27) ?b3 (g := gm) (t := 53) (cells := zB) ?a1 ?a2 BM.1 rfl ?a4 ?a5 ?_; (case b1 => rfl); (case b2 => rfl); (case b3 => rfl); (case a1 => first | rfl | (go_simp; done)); (case a2 => first | rfl | (go_simp; done)); (case a4 => kernel_rfl); (case a5 => kernel_rfl); intro w3 hz3 hs3 hg3; have HB3 := Ak (pw_below_grown HB.1 (some gm) HB.1.size hg3 (fun k e => by cases e; exact GM.1)); have BM3 := Ak hz3; clear hz3 hs3 hg3))
   refine bodyPost_ret (results_ct rfl _ _ gm 53 zB (0, 0) _ rfl BM3.1 Tryz.underlying53 rfl (by kernel_rfl)) rfl ?_
   exact Made.no rfl HB3.1
  ·have h1a := decide_eq_false h1
   by_cases h2 : 1073741824 < key
   ·obtain rfl : none = res := by rw [MV.1, if_pos (by unfold wiB; simp; omega)]
    have h2a := decide_eq_true h2
    go_wp2_with (first | ((with_reducible refine gate_store (t := 53) (p := 6) rfl ?_); refine PutW.store_event ?b1 ?b2 53 (.tmp 6) (.tmp 27) ?b3 (g := gm) (t := 53) (cells := zB) ?a1 ?a2 BM.1 rfl ?a4 ?a5 ?_; (case b1 => rfl); (case b2 => rfl); (case b3 => rfl); (case a1 => first | rfl | (go_simp; done)); (case a2 => first | rfl | (go_simp; done)); (case a4 => kernel_rfl); (case a5 => kernel_rfl); intro w3 hz3 hs3 hg3; have HB3 := Ak (pw_below_grown HB.1 (some gm) HB.1.size hg3 (fun k e => by cases e; exact GM.1)); have BM3 := Ak hz3; clear hz3 hs3 hg3))
    refine bodyPost_ret (results_ct rfl _ _ gm 53 zB (0, 0) _ rfl BM3.1 Tryz.underlying53 rfl (by kernel_rfl)) rfl ?_
    exact Made.no rfl HB3.1
   ·have h2a := decide_eq_false h2
    replace MV := Ak (show res = _ from by rw [MV.1, if_neg (by unfold wiB; simp; omega)])
    clear h1 h2
    go_wp2_with (first | ((with_reducible refine gate_dst (N := 8) rfl ?_); refine box_event ?hg (N := 8) ?hd (cs := #[.slice none 0 0, .slice none 0 0, .int .i64 0]) (t := 48) ?hr ?_; (case hd => rfl); (case hg => rfl); (case hr => first | (go_simp; done) | (go_simp; rfl)); intro gt hg w2 hbox hb; replace BM := Ak (blk_below BM.1 hb); have BT := Ak hbox; have GT := Ak (show w.heap.size ≤ gt by rw [hg]; exact HB.1.size); replace HB := Ak (below_step HB.1 hb); clear hbox hb hg))
    have MM := Ak (show MJ w gm gt #[.slice none 0 0, .slice none 0 0, .int .i64 0] (.slice none 0 0) (.slice none 0 0) [] [] w2 from ⟨BM.1, BT.1, Kd.R_nil _ _ _ _ _, Kd.R_nil _ _ _ _ _, HB.1, GM.1, GT.1⟩)
    clear BM BT HB h0a h1a h2a
    go_loopg [9, 10, 11] n (fun kq v9 v10 v11 wr => ∃ (i : Nat) (v0 : Value), v11 = .int .i64 i ∧ v10 = .int .i64 (budV J68 (l.take i)) ∧ i ≤ n ∧ n - i ≤ kq ∧ Aside0 ((l.take i).all (fun x => chkC J68 x == 0) = true) ∧ Aside0 (MJ w gm gt #[v0, .slice none 0 0, .int .i64 (lockV J68 (l.take i))] v0 v9 ((l.take i).map J68.inS) ((l.take i).map J68.value) wr))
    case atStart => exact ⟨0, .slice none 0 0, rfl, rfl, by omega, by omega, ⟨rfl⟩, MM⟩
    case round =>
     clear MM
     obtain ⟨i, v0, rfl, rfl, hin, hkq, OK, MM⟩ := hrel
     by_cases hlt : i < n
     ·have hltz : (i : Int) < (n : Int) := by omega
      have hil : i < l.length := by rw [HN.1]; exact hlt
      have HT := Ak (List.take_succ_eq_append_getElem hil)
      have YR := Ak (show l[i]? = some l[i] from List.getElem?_eq_getElem hil)
      have ME := Ak (List.getElem_mem hil)
      generalize l[i] = x at HT YR ME
      clear hil
      obtain ⟨ad, rfl, _⟩ := HR.1.2.2 (by omega)
      have HRL := Ak (show ReadsRow (fun x c => c = J68.enc x) 44 w (some ad) l.length l by rw [HN.1]; exact HR.1)
      have LD := Ak (fun W (hb : Below w.heap.size w W) => reads_at J68 HRL.1 hb rfl YR.1)
      have KE := Ak (fun (j : Nat) (hj : 0 < j) (u : Value) (hu : (J68.enc x)[j]? = some u) (V : World) (hb : Below w.heap.size w V) => row_cell (enc := J68.enc) (kk := 44) HRL.1 hb rfl YR.1 (by have := HN.1; omega) j hj u hu)
      have HK := Ak (fun W => refcheck_calls J68 x W)
      have IX := Ak (fun W => refin_calls J68 x W)
      have IM := Ak (And.intro (J68.hin x) (fun W base ok => J68.inS_M x W base ok))
      have hld := LD.1 wr MM.1.hb
      have EL := Ak (And.intro (show (J68.enc x)[38]? = some (.int .i64 (J68.lock x)) from J68.at_ x 5) (And.intro (J68.at_value x) (J68.at_budget x)))
      by_cases hck : chkC J68 x = 0
      ·rw [hck] at HK
       have CK := Ak hck
       clear hck
       have hz2 : IntKind.i64.wrap ((i : Int) + 1) = ((i + 1 : Nat) : Int) := by have := HL.1; rw [IntKind.wrap_i64]; omega
       have hlb := HL.1
       go_upto_region 11 with (go_at_call 9; (with_reducible refine (HK.1 _).mono ?_); rintro e w4 ⟨rfl, hb⟩; replace MM := Ak (MM.1.below hb); clear hb hld)
       have CXL := Ak (J68.hk x)
       generalize J68.enc x = cx at LD KE HK IX EL CXL ⊢
       generalize J68.inCells x = ic at IX IM
       refine Mix.region (fun V => V.cell? ⟨gt, 0, none⟩ = some v0 ∧ Sem.run Tryz.prog (Wide.heavy0 (ad.add (i * 44)) 44) V = .ok cx.toArray V) [10] (.p 0 (.t 1 (.p 2 (.p 3 (.p 4 (.t 5 (.e 6 (.e 7 (.e 8 (.p 9 (.l 10 .done))))))))))) mixed (by kernel_rfl) (fun _ _ N _ _ h => by cases N <;> exact h) ?_
       simp only [Mix.Plan.of, Mix.get]
       replace MM := Ak (MM.1.below (below_drew1 (Below.refl _ _)))
       generalize w4.drew = w5 at MM ⊢
       have FS := Ak (fun (V : World) (v ins vals) (h : MJ w gm gt #[v0, .slice none 0 0, .int .i64 (lockV J68 (l.take i))] v u9 ins vals V) => And.intro (show V.cell? ⟨gt, 0, none⟩ = some v0 from (blk_cell h.bt 0).trans rfl) (LD.1 V h.hb))
       have hSS := FS.1 _ _ _ _ MM.1
       repeat (first | (refine Mix.sp (v := ?_) (a' := ?_) rfl (Or.inl ⟨by rfl, ?_⟩) ?_ ?_; rotate_left 2; (intro w'; go_simp; with_reducible rfl); (simp only [Act.put, ls_, l0_, l1_]; rfl)) | (refine Mix.st (v := ?_) (a' := ?_) hSS rfl (Or.inl ⟨by rfl, ?_⟩) ?_ ?_; rotate_left 2; (rintro w' ⟨s1, s2⟩; go_simp; with_reducible rfl); (simp only [Act.put, ls_, l0_, l1_]; rfl)))
       refine Mix.ev rfl (fun K hK => ?_)
       refine goes_ Tryz.func27 (by kernel_rfl) rfl #[.agg cx.toArray] (by rfl) rfl rfl (by (try simp only [lm_, lc_, ln_]); first | done | rfl) ?_
       with_reducible refine (IX.1 _).mono ?_
       rintro e w6 ⟨rfl, hb⟩
       replace MM := Ak (MM.1.below hb)
       refine ⟨_, rfl, hK.out _ _ ⟨FS.1 _ _ _ _ MM.1, ?_⟩⟩
       clear hK K hb
       refine Mix.ev rfl (fun K hK => ?_)
       refine value_ (w1 := w6.alloc (.cells ic.toArray 79)) (v := .slice (some ⟨w6.heap.size, 0, none⟩) 1 1) (by rfl) rfl ?_ ?_
       ·obtain ⟨hcl, _⟩ := IM.1
        clear LD KE HK IX IM EL FS hSS
        obtain ⟨u0, u1, u2, u3, u4, u5, u6, u7, u8, u9, u10, u11, u12, u13, u14, u15, u16, u17, u18, u19, u20, u21, u22, u23, u24, u25, u26, u27, u28, u29, u30, u31, u32, u33, u34, u35, u36, rfl⟩ := list37 hcl
        first | (go_simp; done) | (go_simp; rfl)
       refine hK.out _ _ ⟨FS.1 _ _ _ _ (MM.1.below (below_alloc (Below.refl _ _) _)), ?_⟩
       clear hK K
       refine Mix.ev rfl (fun K hK => ?_)
       refine Kd.R_append_step k79 (w0 := w) (W := w6) w.heap.size (by rfl) (.tmp 42) (.tmp 48) 45 79 zcIn 80 rfl Tryz.underlying45 info_in rfl (by decide) (by decide) v0 ((l.take i).map J68.inS) (J68.inS x) ic (fun _ => True) (fun _ => False) (by kernel_rfl) (by kernel_rfl) (IM.1.2 _ _ _) (fun _ h => h.elim) (fun _ _ => trivial) MM.1.r0 MM.1.hb MM.1.hb.size (by rw [List.length_map, List.length_take]; omega) ?_
       intro v49 w7 hv hb hg _
       rw [show (l.take i).map J68.inS ++ [J68.inS x] = (l.take (i + 1)).map J68.inS by rw [HT.1, List.map_append]; rfl] at hv
       replace MM := Ak (MM.1.app0 hg hv hb)
       refine hK.out _ _ ⟨FS.1 _ _ _ _ MM.1, ?_⟩
       clear hK K hv hb hg
       obtain ⟨A49, c49, rfl⟩ := Kd.R_slice MM.1.r0
       repeat (first | (refine Mix.sp (v := ?_) (a' := ?_) rfl (Or.inl ⟨by rfl, ?_⟩) ?_ ?_; rotate_left 2; (intro w'; go_simp; with_reducible rfl); (simp only [Act.put, ls_, l0_, l1_]; rfl)) | (refine Mix.st (v := ?_) (a' := ?_) hSS rfl (Or.inl ⟨by rfl, ?_⟩) ?_ ?_; rotate_left 2; (rintro w' ⟨s1, s2⟩; go_simp; with_reducible rfl); (simp only [Act.put, ls_, l0_, l1_]; rfl)))
       refine Mix.ev rfl (fun K hK => ?_)
       have k0 := (FS.1 _ _ _ _ MM.1).1
       have f0 := blk_frozen MM.1.bt 0
       refine skip_ (w1 := w7.setCell ⟨gt, 0, none⟩ (.slice A49 ((l.take (i + 1)).map J68.inS).length c49)) (by rfl) rfl (by first | (go_simp; done) | (go_simp; rfl)) (hK.out _ _ ?_)
       clear hK K k0 f0 hSS FS
       refine Mix.dn ?_
       replace MM := Ak (MM.1.put 0 (.slice A49 ((l.take (i + 1)).map J68.inS).length c49) rfl)
       generalize w7.setCell ⟨gt, 0, none⟩ (.slice A49 ((l.take (i + 1)).map J68.inS).length c49) = w8 at MM ⊢
       generalize (Value.slice A49 ((l.take (i + 1)).map J68.inS).length c49) = v49 at MM ⊢
       go_upto_region 12 with (fail)
       have PL := Ak (fun V (hb : Below w.heap.size w V) => KE.1 38 (by decide) _ EL.1.1 V hb)
       have PV := Ak (fun V (hb : Below w.heap.size w V) => KE.1 33 (by decide) _ EL.1.2.1 V hb)
       have PB := Ak (fun V (hb : Below w.heap.size w V) => KE.1 43 (by decide) _ EL.1.2.2 V hb)
       have LS := Ak (show lockV J68 (l.take (i + 1)) = max (lockV J68 (l.take i)) (J68.lock x) ∧ (l.take (i + 1)).map J68.value = (l.take i).map J68.value ++ [J68.value x] ∧ budV J68 (l.take (i + 1)) = min (IntKind.i64.wrap (budV J68 (l.take i) + J68.budget x)) 1152921504606846976 by
        rw [HT.1, lockV_snoc, budV_snoc, List.map_append, i64_w]
        exact ⟨rfl, rfl, rfl⟩)
       generalize J68.lock x = xl at PL LS
       generalize J68.value x = xv at PV LS
       generalize J68.budget x = xb at PB LS
       generalize lockV J68 (l.take i) = lk at MM LS
       generalize budV J68 (l.take i) = bu at LS ⊢
       clear LD KE EL IX IM
       refine Mix.region (fun V => V.cell? ⟨gt, 2, none⟩ = some (.int .i64 lk) ∧ V.cell? ⟨(ad.add (i * 44)).block, (ad.add (i * 44)).off + 38, none⟩ = some (.int .i64 xl)) [10] (.p 0 (.t 1 (.p 2 (.p 3 (.p 4 (.p 5 (.p 6 (.t 7 (.p 8 (.p 9 (.l 10 .done))))))))))) mixed (by kernel_rfl) (fun _ _ N _ _ h => by cases N <;> exact h) ?_
       simp only [Mix.Plan.of, Mix.get]
       replace MM := Ak (MM.1.below (below_drew1 (Below.refl _ _)))
       generalize w8.drew = w9 at MM ⊢
       have hSS : w9.cell? ⟨gt, 2, none⟩ = some (.int .i64 lk) ∧ w9.cell? ⟨(ad.add (i * 44)).block, (ad.add (i * 44)).off + 38, none⟩ = some (.int .i64 xl) := And.intro ((blk_cell MM.1.bt 2).trans rfl) (PL.1 w9 MM.1.hb)
       have hmx : ∀ W, Sem.run Tryz.prog (Builtin.max_ #[3, 3] 3 #[.int .i64 lk, .int .i64 xl]) W = .ok (.int .i64 (max lk xl)) W := fun W => by
        rw [max_two, max2_int, show (if lk < xl then xl else lk) = max lk xl by split <;> omega]
        rfl
       repeat (first | (refine Mix.sp (v := ?_) (a' := ?_) rfl (Or.inl ⟨by rfl, ?_⟩) ?_ ?_; rotate_left 2; (intro w'; go_simp; with_reducible rfl); (simp only [Act.put, ls_, l0_, l1_]; rfl)) | (refine Mix.st (v := ?_) (a' := ?_) hSS rfl (Or.inl ⟨by rfl, ?_⟩) ?_ ?_; rotate_left 2; (rintro w' ⟨s1, s2⟩; go_simp; with_reducible rfl); (simp only [Act.put, ls_, l0_, l1_]; rfl)))
       refine Mix.ev rfl (fun K hK => ?_)
       have k0 := hSS.1
       have f0 := blk_frozen MM.1.bt 2
       refine skip_ (w1 := w9.setCell ⟨gt, 2, none⟩ (.int .i64 (max lk xl))) (by rfl) rfl (by first | (go_simp; done) | (go_simp; rfl)) (hK.out _ _ ?_)
       clear hK K k0 f0 hSS hmx
       refine Mix.dn ?_
       replace MM := Ak (MM.1.put 2 (.int .i64 (max lk xl)) rfl)
       generalize w9.setCell ⟨gt, 2, none⟩ (.int .i64 (max lk xl)) = wa at MM ⊢
       rw [← LS.1.1] at MM
       have kv := PV.1 wa MM.1.hb
       go_wp2_with ((with_reducible refine gate_builtin (b := .append) (xs := #[.tmp 61, .tmp 67]) rfl ?_); at_builtin; refine Kd.R_append (Kd.int .i64) (w0 := w) (W := wa) w.heap.size rfl (.tmp 61) (.tmp 67) 85 3 (.int .i64 0) 8 rfl Tryz.underlying85 info_int rfl (by decide) (by omega) u9 ((l.take i).map J68.value) xv [.int .i64 xv] (fun _ => True) (fun _ => False) rfl rfl ?aP (fun _ hk => hk.elim) (fun _ _ => trivial) MM.1.r9 MM.1.hb MM.1.hb.size ?aL ?_; (case aP => exact rfl); (case aL => rw [List.length_map, List.length_take]; omega); intro v68 wb hv hb hg hat; rw [← LS.1.2.1] at hv; replace MM := Ak (MM.1.app9 hg hv hb); have kb := PB.1 wb MM.1.hb; clear hv hb hg hat kv)
       go_roundg (n - (i + 1))
       case measure => omega
       case rel => exact ⟨i + 1, v49, by first | rfl | go_num, by rw [LS.1.2.2, i64_w], by omega, by omega, ⟨by rw [HT.1, List.all_append, OK.out]; simp [CK.1]⟩, MM⟩
      ·have c0 : (chkC J68 x == 0) = false := by simpa using hck
       obtain rfl : none = res := by rw [MV.1, if_pos (List.all_eq_false.2 ⟨x, ME.1, by rw [c0]; decide⟩)]
       generalize chkC J68 x = ck at HK c0
       generalize J68.enc x = cx at LD KE HK IX hld EL
       have BM := Ak MM.1.bm
       have HB := Ak MM.1.hb
       clear hck
       go_wp2_with (first | ((with_reducible refine gate_store (t := 53) (p := 6) rfl ?_); refine PutW.store_event ?b1 ?b2 53 (.tmp 6) (.tmp 40) ?b3 (g := gm) (t := 53) (cells := zB) ?a1 ?a2 BM.1 rfl ?a4 ?a5 ?_; (case b1 => rfl); (case b2 => rfl); (case b3 => rfl); (case a1 => first | rfl | (go_simp; done)); (case a2 => first | rfl | (go_simp; done)); (case a4 => kernel_rfl); (case a5 => kernel_rfl); intro w3 hz3 hs3 hg3; have HB3 := Ak (pw_below_grown HB.1 (some gm) HB.1.size hg3 (fun k e => by cases e; exact GM.1)); have BM3 := Ak hz3; clear hz3 hs3 hg3) | (go_at_call 9; (with_reducible refine (HK.1 _).mono ?_); rintro e w4 ⟨rfl, hb⟩; replace HB := Ak (below_step HB.1 hb); replace BM := Ak (blk_below BM.1 hb); clear hb hld))
       refine bodyPost_ret (results_ct rfl _ _ gm 53 zB (0, 0) _ rfl BM3.1 Tryz.underlying53 rfl (by kernel_rfl)) rfl ?_
       exact Made.no rfl HB3.1
     ·obtain rfl : i = n := by omega
      have hnl : ¬ (i : Int) < (i : Int) := by omega
      have e0 : l.take i = l := List.take_of_length_le (by rw [HN.1]; exact Nat.le_refl _)
      rw [e0] at OK MM
      rw [e0]
      replace MV := Ak (show res = _ from by rw [MV.1, if_neg (by rw [OK.out]; decide)])
      clear e0 OK
      have LN := Ak (And.intro (show (l.map J68.inS).length = i by rw [List.length_map, HN.1]) (show (l.map J68.value).length = i by rw [List.length_map, HN.1]))
      generalize lockV J68 l = lk at MV MM
      generalize budV J68 l = bud at MV ⊢
      generalize l.map J68.inS = ins at MV MM LN
      generalize l.map J68.value = vals at MV MM LN
      obtain ⟨tv, te, htv⟩ : ∃ a b, totS 0 vals = (a, b) := ⟨_, _, rfl⟩
      obtain ⟨fv, fe, hfv⟩ : ∃ a b, feeS (weightV ins 1) rate = (a, b) := ⟨_, _, rfl⟩
      rw [htv, hfv] at MV
      have hlb := HL.1
      have HTot := Ak (show QRfa.coracleref1_Total.f (vals.length + 1) vals = some (tv, te) from by rw [RfA.rtotal_f vals (by have := LN.1; omega) _ (by omega), htv])
      have FF := Ak (show QRfa.coracleref1_Fee.f 1 (weightV ins 1) rate = some (fv, fe) from by rw [RfA.rfee_f _ _ 0, hfv])
      have WW := Ak (fun A1 c1 W A0 c0 (hr : Kd.C k79 W A0 ins.length ins) (hc : ins.length ≤ c0) => refweight_calls A0 c0 ins ins.length rfl A1 c1 1 lk W hr (by have := LN.1; omega) (by decide) hc)
      have HTxc := Ak (fun v A1 c1 W A0 c0 => reftx_calls A0 c0 ins ins.length rfl A1 c1 [outS v key] 1 rfl lk W)
      clear htv hfv
      generalize weightV ins 1 = wt at FF WW
      obtain ⟨A9, c9, rfl⟩ := Kd.R_slice MM.1.r9
      obtain ⟨A0, c0, rfl⟩ := Kd.R_slice MM.1.r0
      go_upto_region 16 with (go_at_call 38; refine (QRfa.coracleref1_Total.calls _ A9 c9 vals tv te _ (Kd.R_reads' MM.1.r9).2.2 (Kd.R_reads' MM.1.r9).2.1 HTot.1).mono ?_; rintro e w3 ⟨rfl, hd⟩; replace MM := Ak (MM.1.below (below_drawn0 hd)); clear hd)
      by_cases h1 : te = 0
      ·replace MV := Ak (show res = _ from by rw [MV.1, if_neg (fun h => h h1)])
       subst h1
       have k1 : ∀ o, (w3.alloc o).cell? ⟨gt, 1, none⟩ = some (.slice none 0 0) := fun o => (blk_cell (blk_alloc MM.1.bt o) 1).trans rfl
       have f1 : ∀ o, (w3.alloc o).frozen? ⟨gt, 1, none⟩ = false := fun o => blk_frozen (blk_alloc MM.1.bt o) 1
       go_upto_region 19 with (fail)
       clear k1 f1
       have BO := Ak (show ((w3.alloc (.cells #[.int .i64 0, .int .i64 1, .int .i64 key, .int .i64 0, .int .i64 0, .int .i64 0, .int .i64 0, .int .u8 0, .int .u8 0, .int .u8 0, .int .u8 0, .int .u8 0, .int .u8 0, .int .u8 0, .int .u8 0, .int .u8 0, .int .u8 0, .int .u8 0, .int .u8 0, .int .u8 0, .int .u8 0, .int .u8 0, .int .u8 0, .int .u8 0, .int .u8 0, .int .u8 0, .int .u8 0, .int .u8 0, .int .u8 0, .int .u8 0, .int .u8 0, .int .u8 0, .int .u8 0, .int .u8 0, .int .u8 0, .int .u8 0, .int .u8 0, .int .u8 0, .int .u8 0] 90)).setCell ⟨gt, 1, none⟩ (.slice (some ⟨w3.heap.size, 0, none⟩) 1 1)).heap[w3.heap.size]? = some (.cells (outCells 0 key) 90 (0, 0)) from blk_far (p := ⟨gt, 1, none⟩) (blk_new w3 _) (by have := blk_lt MM.1.bt; show w3.heap.size ≠ gt; omega) _)
       have GO := Ak (show w.heap.size ≤ w3.heap.size from MM.1.hb.size)
       replace MM := Ak ((MM.1.below (below_alloc (Below.refl _ _) (.cells #[.int .i64 0, .int .i64 1, .int .i64 key, .int .i64 0, .int .i64 0, .int .i64 0, .int .i64 0, .int .u8 0, .int .u8 0, .int .u8 0, .int .u8 0, .int .u8 0, .int .u8 0, .int .u8 0, .int .u8 0, .int .u8 0, .int .u8 0, .int .u8 0, .int .u8 0, .int .u8 0, .int .u8 0, .int .u8 0, .int .u8 0, .int .u8 0, .int .u8 0, .int .u8 0, .int .u8 0, .int .u8 0, .int .u8 0, .int .u8 0, .int .u8 0, .int .u8 0, .int .u8 0, .int .u8 0, .int .u8 0, .int .u8 0, .int .u8 0, .int .u8 0, .int .u8 0] 90))).put 1 (.slice (some ⟨w3.heap.size, 0, none⟩) 1 1) (tc' := #[.slice A0 ins.length c0, .slice (some ⟨w3.heap.size, 0, none⟩) 1 1, .int .i64 lk]) rfl)
       generalize (w3.alloc (.cells #[.int .i64 0, .int .i64 1, .int .i64 key, .int .i64 0, .int .i64 0, .int .i64 0, .int .i64 0, .int .u8 0, .int .u8 0, .int .u8 0, .int .u8 0, .int .u8 0, .int .u8 0, .int .u8 0, .int .u8 0, .int .u8 0, .int .u8 0, .int .u8 0, .int .u8 0, .int .u8 0, .int .u8 0, .int .u8 0, .int .u8 0, .int .u8 0, .int .u8 0, .int .u8 0, .int .u8 0, .int .u8 0, .int .u8 0, .int .u8 0, .int .u8 0, .int .u8 0, .int .u8 0, .int .u8 0, .int .u8 0, .int .u8 0, .int .u8 0, .int .u8 0, .int .u8 0] 90)).setCell ⟨gt, 1, none⟩ (.slice (some ⟨w3.heap.size, 0, none⟩) 1 1) = w4 at BO MM ⊢
       generalize w3.heap.size = gO at BO GO MM ⊢
       have KT := Ak (fun (V : World) (h : V.heap[gt]? = some (.cells #[.slice A0 ins.length c0, .slice (some ⟨gO, 0, none⟩) 1 1, .int .i64 lk] 48 (0, 0))) => And.intro (show V.cell? ⟨gt, 0, none⟩ = some (.slice A0 ins.length c0) from (blk_cell h 0).trans rfl) (And.intro (show V.cell? ⟨gt, 1, none⟩ = some (.slice (some ⟨gO, 0, none⟩) 1 1) from (blk_cell h 1).trans rfl) (show V.cell? ⟨gt, 2, none⟩ = some (.int .i64 lk) from (blk_cell h 2).trans rfl)))
       obtain ⟨k0, k1, k2⟩ := KT.1 _ MM.1.bt
       go_upto_region 20 with (first | (go_at_call 40; (with_reducible refine (WW.1 _ _ _ _ _ (Kd.R_reads' MM.1.r0).2.2 (Kd.R_reads' MM.1.r0).2.1).mono ?_); rintro e w5 ⟨rfl, hb⟩; replace MM := Ak (MM.1.below hb); replace BO := Ak (blk_below BO.1 hb); clear hb k0 k1 k2) | (go_at_call 39; refine (QRfa.coracleref1_Fee.calls 1 wt rate fv fe _ FF.1).mono ?_; rintro e w6 ⟨rfl, hd⟩; replace MM := Ak (MM.1.below (below_drawn0 hd)); replace BO := Ak (blk_below BO.1 (below_drawn0 hd)); clear hd))
       have three : fe ≠ 0 ∨ (fe = 0 ∧ bud < fv) ∨ (fe = 0 ∧ ¬ bud < fv ∧ wrap64 (tv - fv) < 330) ∨ (fe = 0 ∧ ¬ bud < fv ∧ ¬ wrap64 (tv - fv) < 330) := by omega
       have hwr : IntKind.i64.wrap (tv - fv) = wrap64 (tv - fv) := i64_w _
       generalize wrap64 (tv - fv) = dv at MV hwr three
       rcases three with h2 | ⟨rfl, h2⟩ | ⟨rfl, h2, h3⟩ | ⟨rfl, h2, h3⟩
       ·obtain rfl : none = res := by rw [MV.1, if_pos h2]
        have h2a : (fe == 0) = false := by simpa using h2
        have h2b := eq_false h2
        have BM := Ak MM.1.bm
        have HB := Ak MM.1.hb
        clear h2
        go_wp2_with (first | ((with_reducible refine gate_store (t := 53) (p := 6) rfl ?_); refine PutW.store_event ?b1 ?b2 53 (.tmp 6) (.tmp 110) ?b3 (g := gm) (t := 53) (cells := zB) ?a1 ?a2 BM.1 rfl ?a4 ?a5 ?_; (case b1 => rfl); (case b2 => rfl); (case b3 => rfl); (case a1 => first | rfl | (go_simp; done)); (case a2 => first | rfl | (go_simp; done)); (case a4 => kernel_rfl); (case a5 => kernel_rfl); intro w3 hz3 hs3 hg3; have HB3 := Ak (pw_below_grown HB.1 (some gm) HB.1.size hg3 (fun k e => by cases e; exact GM.1)); have BM3 := Ak hz3; clear hz3 hs3 hg3))
        refine bodyPost_ret (results_ct rfl _ _ gm 53 zB (0, 0) _ rfl BM3.1 Tryz.underlying53 rfl (by kernel_rfl)) rfl ?_
        exact Made.no rfl HB3.1
       ·obtain rfl : none = res := by rw [MV.1, if_neg (fun h => h rfl), if_pos h2]
        have h2a := decide_eq_true h2
        have BM := Ak MM.1.bm
        have HB := Ak MM.1.hb
        go_wp2_with (first | ((with_reducible refine gate_store (t := 53) (p := 6) rfl ?_); refine PutW.store_event ?b1 ?b2 53 (.tmp 6) (.tmp 110) ?b3 (g := gm) (t := 53) (cells := zB) ?a1 ?a2 BM.1 rfl ?a4 ?a5 ?_; (case b1 => rfl); (case b2 => rfl); (case b3 => rfl); (case a1 => first | rfl | (go_simp; done)); (case a2 => first | rfl | (go_simp; done)); (case a4 => kernel_rfl); (case a5 => kernel_rfl); intro w3 hz3 hs3 hg3; have HB3 := Ak (pw_below_grown HB.1 (some gm) HB.1.size hg3 (fun k e => by cases e; exact GM.1)); have BM3 := Ak hz3; clear hz3 hs3 hg3))
        refine bodyPost_ret (results_ct rfl _ _ gm 53 zB (0, 0) _ rfl BM3.1 Tryz.underlying53 rfl (by kernel_rfl)) rfl ?_
        exact Made.no rfl HB3.1
       ·obtain rfl : none = res := by rw [MV.1, if_neg (fun h => h rfl), if_neg h2, if_pos h3]
        have h2a := decide_eq_false h2
        have h3a := decide_eq_true h3
        have BM := Ak MM.1.bm
        have HB := Ak MM.1.hb
        go_wp2_with (first | ((with_reducible refine gate_store (t := 53) (p := 6) rfl ?_); refine PutW.store_event ?b1 ?b2 53 (.tmp 6) (.tmp 110) ?b3 (g := gm) (t := 53) (cells := zB) ?a1 ?a2 BM.1 rfl ?a4 ?a5 ?_; (case b1 => rfl); (case b2 => rfl); (case b3 => rfl); (case a1 => first | rfl | (go_simp; done)); (case a2 => first | rfl | (go_simp; done)); (case a4 => kernel_rfl); (case a5 => kernel_rfl); intro w3 hz3 hs3 hg3; have HB3 := Ak (pw_below_grown HB.1 (some gm) HB.1.size hg3 (fun k e => by cases e; exact GM.1)); have BM3 := Ak hz3; clear hz3 hs3 hg3))
        refine bodyPost_ret (results_ct rfl _ _ gm 53 zB (0, 0) _ rfl BM3.1 Tryz.underlying53 rfl (by kernel_rfl)) rfl ?_
        exact Made.no rfl HB3.1
       ·replace MV := Ak (show res = _ from by rw [MV.1, if_neg (fun h => h rfl), if_neg h2, if_neg h3])
        have h2a := decide_eq_false h2
        have h3a := decide_eq_false h3
        obtain ⟨k0, k1, k2⟩ := KT.1 _ MM.1.bt
        have kO : w6.cell? ⟨gO, 0, none⟩ = some (.int .i64 0) := (blk_cell BO.1 0).trans rfl
        have fO := blk_frozen BO.1 0
        go_upto_region 23 with (fail)
        clear k0 k1 k2 kO fO
        replace MM := Ak (MM.1.out BO.1 GO.1 0 (.int .i64 dv))
        replace BO := Ak (show (w6.setCell ⟨gO, 0, none⟩ (.int .i64 dv)).heap[gO]? = some (.cells (outCells dv key) 90 (0, 0)) from blk_put BO.1 0 (.int .i64 dv) rfl)
        generalize w6.setCell ⟨gO, 0, none⟩ (.int .i64 dv) = w7 at MM BO ⊢
        obtain ⟨k0, k1, k2⟩ := KT.1 _ MM.1.bt
        have HX := Ak (fun W (h : MJ w gm gt #[.slice A0 ins.length c0, .slice (some ⟨gO, 0, none⟩) 1 1, .int .i64 lk] (.slice A0 ins.length c0) (.slice A9 vals.length c9) ins vals W) (hO : W.heap[gO]? = some (.cells (outCells dv key) 90 (0, 0))) => HTxc.1 dv (some ⟨gO, 0, none⟩) 1 W A0 c0 (Kd.R_reads' h.r0).2.2 (Kd.R_reads' h.r0).2.1 (Kd.R_reads' (outR dv key hO GO.1)).2.2 (Nat.le_refl _))
        generalize htc : tcC ins [outS dv key] lk = tcv at HX MV
        clear htc
        go_upto_region 23 with (fail)
        by_cases h4 : tcv = 0
        ·obtain rfl : some ⟨ins, [outS dv key], lk, fv, rate⟩ = res := by rw [MV.1, if_neg (fun h => h h4)]
         subst h4
         go_upto_region 25 with (go_at_call 41; (with_reducible refine (HX.1 _ MM.1 BO.1).mono ?_); rintro e w8 ⟨rfl, hb⟩; replace MM := Ak (MM.1.below hb); replace BO := Ak (blk_below BO.1 hb); clear hb k0 k1 k2)
         obtain ⟨k0, k1, k2⟩ := KT.1 _ MM.1.bt
         go_wp2_with (first | ((with_reducible refine gate_store (t := 53) (p := 6) rfl ?_); refine PutW.store_event ?b1 ?b2 53 (.tmp 6) (.tmp 125) ?b3 (g := gm) (t := 53) (cells := #[.slice A0 ins.length c0, .slice (some ⟨gO, 0, none⟩) 1 1, .int .i64 lk, .int .i64 fv, .int .i64 rate]) ?a1 ?a2 MM.1.bm rfl ?a4 ?a5 ?_; (case b1 => rfl); (case b2 => rfl); (case b3 => rfl); (case a1 => first | rfl | (go_simp; done)); (case a2 => first | rfl | (go_simp; done)); (case a4 => kernel_rfl); (case a5 => simp [Value.oneCell']); intro w9 hz9 hs9 hg9; have HB9 := Ak (pw_below_grown MM.1.hb (some gm) MM.1.hb.size hg9 (fun k e => by cases e; exact GM.1)); have BM9 := Ak hz9; have R9 := Ak (Kd.R_grown2 MM.1.r0 rfl hg9 (fun k e => by cases e; exact Kd.R_ne MM.1.r0 MM.1.bm (by decide))); have BO9 := Ak (blk_grown BO.1 hg9 (fun e => by cases e; exact blk_ne BO.1 MM.1.bm (by decide) rfl)); clear hz9 hs9 hg9))
         refine bodyPost_ret (results_ct rfl _ _ gm 53 #[.slice A0 ins.length c0, .slice (some ⟨gO, 0, none⟩) 1 1, .int .i64 lk, .int .i64 fv, .int .i64 rate] (0, 0) _ rfl BM9.1 Tryz.underlying53 rfl (by kernel_rfl)) rfl ?_
         exact ⟨_, _, rfl, R9.1, outR dv key BO9.1 GO.1, HB9.1⟩
        ·obtain rfl : none = res := by rw [MV.1, if_pos h4]
         have h4a : (tcv == 0) = false := by simpa using h4
         have h4b := eq_false h4
         have BM := Ak MM.1.bm
         have HB := Ak MM.1.hb
         clear h4
         go_wp2_with (first | ((with_reducible refine gate_store (t := 53) (p := 6) rfl ?_); refine PutW.store_event ?b1 ?b2 53 (.tmp 6) (.tmp 121) ?b3 (g := gm) (t := 53) (cells := zB) ?a1 ?a2 BM.1 rfl ?a4 ?a5 ?_; (case b1 => rfl); (case b2 => rfl); (case b3 => rfl); (case a1 => first | rfl | (go_simp; done)); (case a2 => first | rfl | (go_simp; done)); (case a4 => kernel_rfl); (case a5 => kernel_rfl); intro w3 hz3 hs3 hg3; have HB3 := Ak (pw_below_grown HB.1 (some gm) HB.1.size hg3 (fun k e => by cases e; exact GM.1)); have BM3 := Ak hz3; clear hz3 hs3 hg3) | (go_at_call 41; (with_reducible refine (HX.1 _ MM.1 BO.1).mono ?_); rintro e w8 ⟨rfl, hb⟩; replace HB := Ak (below_step HB.1 hb); replace BM := Ak (blk_below BM.1 hb); clear hb k0 k1 k2))
         refine bodyPost_ret (results_ct rfl _ _ gm 53 zB (0, 0) _ rfl BM3.1 Tryz.underlying53 rfl (by kernel_rfl)) rfl ?_
         exact Made.no rfl HB3.1
      ·obtain rfl : none = res := by rw [MV.1, if_pos h1]
       have h1a : (te == 0) = false := by simpa using h1
       have BM := Ak MM.1.bm
       have HB := Ak MM.1.hb
       clear h1
       go_wp2_with (first | ((with_reducible refine gate_store (t := 53) (p := 6) rfl ?_); refine PutW.store_event ?b1 ?b2 53 (.tmp 6) (.tmp 84) ?b3 (g := gm) (t := 53) (cells := zB) ?a1 ?a2 BM.1 rfl ?a4 ?a5 ?_; (case b1 => rfl); (case b2 => rfl); (case b3 => rfl); (case a1 => first | rfl | (go_simp; done)); (case a2 => first | rfl | (go_simp; done)); (case a4 => kernel_rfl); (case a5 => kernel_rfl); intro w3 hz3 hs3 hg3; have HB3 := Ak (pw_below_grown HB.1 (some gm) HB.1.size hg3 (fun k e => by cases e; exact GM.1)); have BM3 := Ak hz3; clear hz3 hs3 hg3))
       refine bodyPost_ret (results_ct rfl _ _ gm 53 zB (0, 0) _ rfl BM3.1 Tryz.underlying53 rfl (by kernel_rfl)) rfl ?_
       exact Made.no rfl HB3.1
end Go.Proofs.YtiodebjjbgcbhaaGreat.RfB
namespace Go.Proofs.YtiodebjjbgcbhaaGreat.RfB
open Go.RowKit Go.Sort Go.Lib Go.Shelf Go.Proofs YtiodebjjbgcbhaaGreatW.PrintWords YtiodebjjbgcbhaaGreatW.PrintLast YtiodebjjbgcbhaaGreatW.PrintMore YtiodebjjbgcbhaaGreat Hand Inp RowK Fill OrdO QLef LefL
attribute [local go_sem ↓ high] Wide.hv44 Wide.hv33 Wide.hv37 Wide.hv32 Wide.hv38 Wide.hv39
set_option linter.unusedVariables false
set_option linter.unusedSimpArgs false
variable {α : Type}
set_option maxHeartbeats 8000000 in
set_option maxRecDepth 100000 in
theorem flat_calls (I : Inp.Spec α) (x : α) (w : World) : Calls Tryz.prog 42 #[.agg (I.enc x).toArray] w fun e w' => e = .returned (.agg (I.enc x).toArray) ∧ Below w.heap.size w w' := by
 have tx := I.take_pt x
 have lx := I.hpt x
 have H1 := Ak (I.h1 x)
 have a0 : (I.enc x)[33]? = _ := I.at_ x 0
 have a1 : (I.enc x)[34]? = _ := I.at_ x 1
 have a2 : (I.enc x)[35]? = _ := I.at_ x 2
 have a3 : (I.enc x)[36]? = _ := I.at_ x 3
 have a4 : (I.enc x)[37]? = _ := I.at_ x 4
 have a5 : (I.enc x)[38]? = _ := I.at_ x 5
 have a6 : (I.enc x)[39]? = _ := I.at_ x 6
 have a7 : (I.enc x)[40]? = _ := I.at_ x 7
 have a8 : (I.enc x)[41]? = _ := I.at_ x 8
 have a9 : (I.enc x)[42]? = _ := I.at_ x 9
 have a10 : (I.enc x)[43]? = _ := I.at_ x 10
 change _ = some (Value.int .i64 (I.value x)) at a0
 change _ = some (Value.int .i64 (I.kind x)) at a1
 change _ = some (Value.int .i64 (I.key x)) at a2
 change _ = some (Value.string (I.pre x)) at a3
 change _ = some (Value.int .i64 (I.seq x)) at a4
 change _ = some (Value.int .i64 (I.lock x)) at a5
 change _ = some (Value.int .i64 (I.wait x)) at a6
 change _ = some (Value.int .i64 (I.conf x)) at a7
 change _ = some (Value.int .i64 (I.since x)) at a8
 change _ = some (Value.int .i64 (I.dl x)) at a9
 change _ = some (Value.int .i64 (I.budget x)) at a10
 have hspl : I.enc x = I.pt x ++ ([.int .i64 (I.value x), .int .i64 (I.kind x), .int .i64 (I.key x), .string (I.pre x), .int .i64 (I.seq x), .int .i64 (I.lock x), .int .i64 (I.wait x), .int .i64 (I.conf x), .int .i64 (I.since x), .int .i64 (I.dl x), .int .i64 (I.budget x)] : List Value) := rfl
 generalize I.pt x = px at tx lx hspl
 generalize I.value x = n0 at a0 hspl
 generalize I.kind x = n1 at a1 hspl
 generalize I.key x = n2 at a2 hspl
 generalize I.pre x = n3 at a3 hspl
 generalize I.seq x = n4 at a4 hspl
 generalize I.lock x = n5 at a5 hspl
 generalize I.wait x = n6 at a6 hspl
 generalize I.conf x = n7 at a7 hspl
 generalize I.since x = n8 at a8 hspl
 generalize I.dl x = n9 at a9 hspl
 generalize I.budget x = n10 at a10 hspl
 generalize I.enc x = cx at tx H1 hspl a0 a1 a2 a3 a4 a5 a6 a7 a8 a9 a10 ⊢
 obtain ⟨u0, u1, u2, u3, u4, u5, u6, u7, u8, u9, u10, u11, u12, u13, u14, u15, u16, u17, u18, u19, u20, u21, u22, u23, u24, u25, u26, u27, u28, u29, u30, u31, u32, rfl⟩ := list33 lx
 have HC := Ak (show cx = [u0, u1, u2, u3, u4, u5, u6, u7, u8, u9, u10, u11, u12, u13, u14, u15, u16, u17, u18, u19, u20, u21, u22, u23, u24, u25, u26, u27, u28, u29, u30, u31, u32, Value.int .i64 n0, Value.int .i64 n1, Value.int .i64 n2, Value.string n3, Value.int .i64 n4, Value.int .i64 n5, Value.int .i64 n6, Value.int .i64 n7, Value.int .i64 n8, Value.int .i64 n9, Value.int .i64 n10] from hspl)
 have HL := Ak (And.intro lx tx)
 clear lx tx hspl
 have HB := Ak (Below.refl w.heap.size w)
 go_enter Tryz.func42, Tryz.ntmps42
 go_upto_region 1 with (first | ((with_reducible refine gate_dst (N := 1) rfl ?_); refine box_event ?hg (N := 1) ?hd (cs := cx.toArray) (t := 38) ?hr ?_; (case hd => rfl); (case hg => rfl); (case hr => first | (go_simp; done) | (go_simp; rfl)); intro g1 hg w1 hbox hb; replace HB := Ak (below_step HB.1 hb); have BK := Ak hbox; clear hbox hb hg) | ((with_reducible refine gate_dst (N := 2) rfl ?_); refine box_event ?hg (N := 2) ?hd (cs := z44) (t := 42) ?hr ?_; (case hd => rfl); (case hg => rfl); (case hr => first | (go_simp; done) | (go_simp; rfl)); intro g2 hg w2 hbox hb; have GB := Ak (show w.heap.size ≤ g2 by rw [hg]; exact HB.1.size); replace HB := Ak (below_step HB.1 hb); replace BK := Ak (blk_below BK.1 hb); have BZ := Ak hbox; clear hbox hb hg))
 replace a0 := (blk_cell BK.1 33).trans (by simpa using a0)
 replace a1 := (blk_cell BK.1 34).trans (by simpa using a1)
 replace a2 := (blk_cell BK.1 35).trans (by simpa using a2)
 replace a3 := (blk_cell BK.1 36).trans (by simpa using a3)
 replace a4 := (blk_cell BK.1 37).trans (by simpa using a4)
 replace a5 := (blk_cell BK.1 38).trans (by simpa using a5)
 replace a6 := (blk_cell BK.1 39).trans (by simpa using a6)
 replace a7 := (blk_cell BK.1 40).trans (by simpa using a7)
 replace a8 := (blk_cell BK.1 41).trans (by simpa using a8)
 replace a9 := (blk_cell BK.1 42).trans (by simpa using a9)
 replace a10 := (blk_cell BK.1 43).trans (by simpa using a10)
 have hl : Sem.run Tryz.prog (Wide.heavy0 ⟨g1, 0, none⟩ 33) w2 = .ok #[u0, u1, u2, u3, u4, u5, u6, u7, u8, u9, u10, u11, u12, u13, u14, u15, u16, u17, u18, u19, u20, u21, u22, u23, u24, u25, u26, u27, u28, u29, u30, u31, u32] w2 := row_load BK.1 0 33 _ HL.1.1 (by rw [List.drop_zero]; exact HL.1.2)
 clear HL
 go_wp2_with (first | ((with_reducible refine gate_store (t := 42) (p := 2) rfl ?_); refine PutW.store_event ?b1 ?b2 42 (.tmp 2) (.tmp 28) ?b3 (g := g2) (t := 42) (cells := #[u0, u1, u2, u3, u4, u5, u6, u7, u8, u9, u10, u11, u12, u13, u14, u15, u16, u17, u18, u19, u20, u21, u22, u23, u24, u25, u26, u27, u28, u29, u30, u31, u32, .int .i64 n0, .int .i64 n1, .int .i64 n2, Value.string n3, .int .i64 n4, .int .i64 n5, .int .i64 n6, .int .i64 n7, .int .i64 n8, .int .i64 n9, .int .i64 n10]) ?a1 ?a2 BZ.1 rfl ?a4 ?a5 ?_; (case b1 => rfl); (case b2 => rfl); (case b3 => rfl); (case a1 => first | rfl | (go_simp; done)); (case a2 => first | rfl | (go_simp; done)); (case a4 => kernel_rfl); (case a5 => rw [Array.all_eq_true_iff_forall_mem]; intro v hv; rw [List.mem_toArray, ← HC.1] at hv; exact H1.1 v hv); intro w3 hz3 hs3 hg3; have HB3 := Ak (pw_below_grown HB.1 (some g2) HB.1.size hg3 (fun k e => by cases e; exact GB.1)); have BK3 := Ak hz3; clear hz3 hs3 hg3))
 refine bodyPost_ret (results_cell_row rfl _ _ g2 42 #[u0, u1, u2, u3, u4, u5, u6, u7, u8, u9, u10, u11, u12, u13, u14, u15, u16, u17, u18, u19, u20, u21, u22, u23, u24, u25, u26, u27, u28, u29, u30, u31, u32, .int .i64 n0, .int .i64 n1, .int .i64 n2, Value.string n3, .int .i64 n4, .int .i64 n5, .int .i64 n6, .int .i64 n7, .int .i64 n8, .int .i64 n9, .int .i64 n10] (0, 0) _ rfl BK3.1 Tryz.underlying42 rfl (by kernel_rfl)) rfl ?_
 exact ⟨by rw [HC.1], HB3.1⟩
theorem eqf_tt {P : Program} {d : Nat} {xs ys : Array Value} {f : Field} {fs : List Field} {a b : Value} {w : World} (hn : (f.name == "_") = false) (ha : (part f.type xs f.offset).run P w = .ok a w) (hb : (part f.type ys f.offset).run P w = .ok b w) (he : (Op.equalIn d f.type a b).run P w = .ok true w) (hr : (Op.eqFields d xs ys fs).run P w = .ok true w) : (Op.eqFields d xs ys (f :: fs)).run P w = .ok true w := by
 have := eqf_cons hn ha hb he hr
 simpa using this
theorem eqH (d : Nat) (W : World) (x : S30) : (Op.equalIn (d + 2) 30 (.agg #[.int .u8 x.f0, .int .u8 x.f1, .int .u8 x.f2, .int .u8 x.f3, .int .u8 x.f4, .int .u8 x.f5, .int .u8 x.f6, .int .u8 x.f7, .int .u8 x.f8, .int .u8 x.f9, .int .u8 x.f10, .int .u8 x.f11, .int .u8 x.f12, .int .u8 x.f13, .int .u8 x.f14, .int .u8 x.f15, .int .u8 x.f16, .int .u8 x.f17, .int .u8 x.f18, .int .u8 x.f19, .int .u8 x.f20, .int .u8 x.f21, .int .u8 x.f22, .int .u8 x.f23, .int .u8 x.f24, .int .u8 x.f25, .int .u8 x.f26, .int .u8 x.f27, .int .u8 x.f28, .int .u8 x.f29, .int .u8 x.f30, .int .u8 x.f31]) (.agg #[.int .u8 x.f0, .int .u8 x.f1, .int .u8 x.f2, .int .u8 x.f3, .int .u8 x.f4, .int .u8 x.f5, .int .u8 x.f6, .int .u8 x.f7, .int .u8 x.f8, .int .u8 x.f9, .int .u8 x.f10, .int .u8 x.f11, .int .u8 x.f12, .int .u8 x.f13, .int .u8 x.f14, .int .u8 x.f15, .int .u8 x.f16, .int .u8 x.f17, .int .u8 x.f18, .int .u8 x.f19, .int .u8 x.f20, .int .u8 x.f21, .int .u8 x.f22, .int .u8 x.f23, .int .u8 x.f24, .int .u8 x.f25, .int .u8 x.f26, .int .u8 x.f27, .int .u8 x.f28, .int .u8 x.f29, .int .u8 x.f30, .int .u8 x.f31])).run Tryz.prog W = .ok true W :=
 (EqP.eqA32 d W x.f0 x.f0 x.f1 x.f1 x.f2 x.f2 x.f3 x.f3 x.f4 x.f4 x.f5 x.f5 x.f6 x.f6 x.f7 x.f7 x.f8 x.f8 x.f9 x.f9 x.f10 x.f10 x.f11 x.f11 x.f12 x.f12 x.f13 x.f13 x.f14 x.f14 x.f15 x.f15 x.f16 x.f16 x.f17 x.f17 x.f18 x.f18 x.f19 x.f19 x.f20 x.f20 x.f21 x.f21 x.f22 x.f22 x.f23 x.f23 x.f24 x.f24 x.f25 x.f25 x.f26 x.f26 x.f27 x.f27 x.f28 x.f28 x.f29 x.f29 x.f30 x.f30 x.f31 x.f31).trans (by simp)
def encW (x : S34) : List Value := [.int .i64 x.f0, .int .i64 x.f1, .string x.f2]
def encC (x : S40) : List Value := [.int .i64 x.f0.f0, .int .i64 x.f0.f1, .string x.f0.f2, .int .i64 x.f1, .int .i64 x.f2, .int .i64 x.f3]
theorem eqW (d : Nat) (W : World) (x : S34) : (Op.equalIn (d + 2) 34 (.agg (encW x).toArray) (.agg (encW x).toArray)).run Tryz.prog W = .ok true W := by
 show (Op.equalIn (d + 2) 34 (.agg #[.int .i64 x.f0, .int .i64 x.f1, .string x.f2]) (.agg #[.int .i64 x.f0, .int .i64 x.f1, .string x.f2])).run Tryz.prog W = .ok true W
 refine eqA_of Tryz.underlying34 (by kernel_rfl) ?_
 refine eqf_tt (by rfl) (by go_simp; try rfl) (by go_simp; try rfl) (by go_simp) ?_
 refine eqf_tt (by rfl) (by go_simp; try rfl) (by go_simp; try rfl) (by go_simp) ?_
 refine eqf_tt (by rfl) (by go_simp; try rfl) (by go_simp; try rfl) (by go_simp) ?_
 exact eqf_nil
theorem eqC (d : Nat) (W : World) (x : S40) : (Op.equalIn (d + 3) 40 (.agg (encC x).toArray) (.agg (encC x).toArray)).run Tryz.prog W = .ok true W := by
 show (Op.equalIn (d + 3) 40 (.agg #[.int .i64 x.f0.f0, .int .i64 x.f0.f1, .string x.f0.f2, .int .i64 x.f1, .int .i64 x.f2, .int .i64 x.f3]) (.agg #[.int .i64 x.f0.f0, .int .i64 x.f0.f1, .string x.f0.f2, .int .i64 x.f1, .int .i64 x.f2, .int .i64 x.f3])).run Tryz.prog W = .ok true W
 refine eqA_of Tryz.underlying40 (by kernel_rfl) ?_
 refine eqf_tt (by rfl) (by go_simp; try rfl) (by go_simp; try rfl) (eqW d W x.f0) ?_
 refine eqf_tt (by rfl) (by go_simp; try rfl) (by go_simp; try rfl) (by go_simp) ?_
 refine eqf_tt (by rfl) (by go_simp; try rfl) (by go_simp; try rfl) (by go_simp) ?_
 refine eqf_tt (by rfl) (by go_simp; try rfl) (by go_simp; try rfl) (by go_simp) ?_
 exact eqf_nil
theorem eqP (d : Nat) (W : World) (x : S32) : (Op.equalIn (d + 3) 32 (.agg (encPt x).toArray) (.agg (encPt x).toArray)).run Tryz.prog W = .ok true W := by
 show (Op.equalIn (d + 3) 32 (.agg #[.int .u8 x.f0.f0, .int .u8 x.f0.f1, .int .u8 x.f0.f2, .int .u8 x.f0.f3, .int .u8 x.f0.f4, .int .u8 x.f0.f5, .int .u8 x.f0.f6, .int .u8 x.f0.f7, .int .u8 x.f0.f8, .int .u8 x.f0.f9, .int .u8 x.f0.f10, .int .u8 x.f0.f11, .int .u8 x.f0.f12, .int .u8 x.f0.f13, .int .u8 x.f0.f14, .int .u8 x.f0.f15, .int .u8 x.f0.f16, .int .u8 x.f0.f17, .int .u8 x.f0.f18, .int .u8 x.f0.f19, .int .u8 x.f0.f20, .int .u8 x.f0.f21, .int .u8 x.f0.f22, .int .u8 x.f0.f23, .int .u8 x.f0.f24, .int .u8 x.f0.f25, .int .u8 x.f0.f26, .int .u8 x.f0.f27, .int .u8 x.f0.f28, .int .u8 x.f0.f29, .int .u8 x.f0.f30, .int .u8 x.f0.f31, .int .i64 x.f1]) (.agg #[.int .u8 x.f0.f0, .int .u8 x.f0.f1, .int .u8 x.f0.f2, .int .u8 x.f0.f3, .int .u8 x.f0.f4, .int .u8 x.f0.f5, .int .u8 x.f0.f6, .int .u8 x.f0.f7, .int .u8 x.f0.f8, .int .u8 x.f0.f9, .int .u8 x.f0.f10, .int .u8 x.f0.f11, .int .u8 x.f0.f12, .int .u8 x.f0.f13, .int .u8 x.f0.f14, .int .u8 x.f0.f15, .int .u8 x.f0.f16, .int .u8 x.f0.f17, .int .u8 x.f0.f18, .int .u8 x.f0.f19, .int .u8 x.f0.f20, .int .u8 x.f0.f21, .int .u8 x.f0.f22, .int .u8 x.f0.f23, .int .u8 x.f0.f24, .int .u8 x.f0.f25, .int .u8 x.f0.f26, .int .u8 x.f0.f27, .int .u8 x.f0.f28, .int .u8 x.f0.f29, .int .u8 x.f0.f30, .int .u8 x.f0.f31, .int .i64 x.f1])).run Tryz.prog W = .ok true W
 refine eqA_of Tryz.underlying32 (by kernel_rfl) ?_
 refine eqf_tt (by rfl) (by go_simp; try rfl) (by go_simp; try rfl) (eqH d W x.f0) ?_
 refine eqf_tt (by rfl) (by go_simp; try rfl) (by go_simp; try rfl) (by go_simp) ?_
 exact eqf_nil
theorem eqIn (d : Nat) (W : World) (x : S79) : (Op.equalIn (d + 4) 79 (.agg (encIn x).toArray) (.agg (encIn x).toArray)).run Tryz.prog W = .ok true W := by
 show (Op.equalIn (d + 4) 79 (.agg #[.int .u8 x.f0.f0.f0, .int .u8 x.f0.f0.f1, .int .u8 x.f0.f0.f2, .int .u8 x.f0.f0.f3, .int .u8 x.f0.f0.f4, .int .u8 x.f0.f0.f5, .int .u8 x.f0.f0.f6, .int .u8 x.f0.f0.f7, .int .u8 x.f0.f0.f8, .int .u8 x.f0.f0.f9, .int .u8 x.f0.f0.f10, .int .u8 x.f0.f0.f11, .int .u8 x.f0.f0.f12, .int .u8 x.f0.f0.f13, .int .u8 x.f0.f0.f14, .int .u8 x.f0.f0.f15, .int .u8 x.f0.f0.f16, .int .u8 x.f0.f0.f17, .int .u8 x.f0.f0.f18, .int .u8 x.f0.f0.f19, .int .u8 x.f0.f0.f20, .int .u8 x.f0.f0.f21, .int .u8 x.f0.f0.f22, .int .u8 x.f0.f0.f23, .int .u8 x.f0.f0.f24, .int .u8 x.f0.f0.f25, .int .u8 x.f0.f0.f26, .int .u8 x.f0.f0.f27, .int .u8 x.f0.f0.f28, .int .u8 x.f0.f0.f29, .int .u8 x.f0.f0.f30, .int .u8 x.f0.f0.f31, .int .i64 x.f0.f1, .int .i64 x.f1, .int .i64 x.f2.f0, .int .i64 x.f2.f1, .string x.f2.f2]) (.agg #[.int .u8 x.f0.f0.f0, .int .u8 x.f0.f0.f1, .int .u8 x.f0.f0.f2, .int .u8 x.f0.f0.f3, .int .u8 x.f0.f0.f4, .int .u8 x.f0.f0.f5, .int .u8 x.f0.f0.f6, .int .u8 x.f0.f0.f7, .int .u8 x.f0.f0.f8, .int .u8 x.f0.f0.f9, .int .u8 x.f0.f0.f10, .int .u8 x.f0.f0.f11, .int .u8 x.f0.f0.f12, .int .u8 x.f0.f0.f13, .int .u8 x.f0.f0.f14, .int .u8 x.f0.f0.f15, .int .u8 x.f0.f0.f16, .int .u8 x.f0.f0.f17, .int .u8 x.f0.f0.f18, .int .u8 x.f0.f0.f19, .int .u8 x.f0.f0.f20, .int .u8 x.f0.f0.f21, .int .u8 x.f0.f0.f22, .int .u8 x.f0.f0.f23, .int .u8 x.f0.f0.f24, .int .u8 x.f0.f0.f25, .int .u8 x.f0.f0.f26, .int .u8 x.f0.f0.f27, .int .u8 x.f0.f0.f28, .int .u8 x.f0.f0.f29, .int .u8 x.f0.f0.f30, .int .u8 x.f0.f0.f31, .int .i64 x.f0.f1, .int .i64 x.f1, .int .i64 x.f2.f0, .int .i64 x.f2.f1, .string x.f2.f2])).run Tryz.prog W = .ok true W
 refine eqA_of Tryz.underlying79 (by kernel_rfl) ?_
 refine eqf_tt (by rfl) (by go_simp; try rfl) (by go_simp; try rfl) (eqP d W x.f0) ?_
 refine eqf_tt (by rfl) (by go_simp; try rfl) (by go_simp; try rfl) (by go_simp) ?_
 refine eqf_tt (by rfl) (by go_simp; try rfl) (by go_simp; try rfl) (eqW (d + 1) W x.f2) ?_
 exact eqf_nil
theorem eqSc (d : Nat) (W : World) (x : S87) : (Op.equalIn (d + 3) 87 (.agg (encSc x).toArray) (.agg (encSc x).toArray)).run Tryz.prog W = .ok true W := by
 show (Op.equalIn (d + 3) 87 (.agg #[.int .i64 x.f0, .int .i64 x.f1, .int .i64 x.f2, .int .i64 x.f3, .int .i64 x.f4, .int .i64 x.f5, .int .u8 x.f6.f0, .int .u8 x.f6.f1, .int .u8 x.f6.f2, .int .u8 x.f6.f3, .int .u8 x.f6.f4, .int .u8 x.f6.f5, .int .u8 x.f6.f6, .int .u8 x.f6.f7, .int .u8 x.f6.f8, .int .u8 x.f6.f9, .int .u8 x.f6.f10, .int .u8 x.f6.f11, .int .u8 x.f6.f12, .int .u8 x.f6.f13, .int .u8 x.f6.f14, .int .u8 x.f6.f15, .int .u8 x.f6.f16, .int .u8 x.f6.f17, .int .u8 x.f6.f18, .int .u8 x.f6.f19, .int .u8 x.f6.f20, .int .u8 x.f6.f21, .int .u8 x.f6.f22, .int .u8 x.f6.f23, .int .u8 x.f6.f24, .int .u8 x.f6.f25, .int .u8 x.f6.f26, .int .u8 x.f6.f27, .int .u8 x.f6.f28, .int .u8 x.f6.f29, .int .u8 x.f6.f30, .int .u8 x.f6.f31]) (.agg #[.int .i64 x.f0, .int .i64 x.f1, .int .i64 x.f2, .int .i64 x.f3, .int .i64 x.f4, .int .i64 x.f5, .int .u8 x.f6.f0, .int .u8 x.f6.f1, .int .u8 x.f6.f2, .int .u8 x.f6.f3, .int .u8 x.f6.f4, .int .u8 x.f6.f5, .int .u8 x.f6.f6, .int .u8 x.f6.f7, .int .u8 x.f6.f8, .int .u8 x.f6.f9, .int .u8 x.f6.f10, .int .u8 x.f6.f11, .int .u8 x.f6.f12, .int .u8 x.f6.f13, .int .u8 x.f6.f14, .int .u8 x.f6.f15, .int .u8 x.f6.f16, .int .u8 x.f6.f17, .int .u8 x.f6.f18, .int .u8 x.f6.f19, .int .u8 x.f6.f20, .int .u8 x.f6.f21, .int .u8 x.f6.f22, .int .u8 x.f6.f23, .int .u8 x.f6.f24, .int .u8 x.f6.f25, .int .u8 x.f6.f26, .int .u8 x.f6.f27, .int .u8 x.f6.f28, .int .u8 x.f6.f29, .int .u8 x.f6.f30, .int .u8 x.f6.f31])).run Tryz.prog W = .ok true W
 refine eqA_of Tryz.underlying87 (by kernel_rfl) ?_
 refine eqf_tt (by rfl) (by go_simp; try rfl) (by go_simp; try rfl) (by go_simp) ?_
 refine eqf_tt (by rfl) (by go_simp; try rfl) (by go_simp; try rfl) (by go_simp) ?_
 refine eqf_tt (by rfl) (by go_simp; try rfl) (by go_simp; try rfl) (by go_simp) ?_
 refine eqf_tt (by rfl) (by go_simp; try rfl) (by go_simp; try rfl) (by go_simp) ?_
 refine eqf_tt (by rfl) (by go_simp; try rfl) (by go_simp; try rfl) (by go_simp) ?_
 refine eqf_tt (by rfl) (by go_simp; try rfl) (by go_simp; try rfl) (by go_simp) ?_
 refine eqf_tt (by rfl) (by go_simp; try rfl) (by go_simp; try rfl) (eqH d W x.f6) ?_
 exact eqf_nil
theorem eqOut (d : Nat) (W : World) (x : S90) : (Op.equalIn (d + 4) 90 (.agg (encOut x).toArray) (.agg (encOut x).toArray)).run Tryz.prog W = .ok true W := by
 show (Op.equalIn (d + 4) 90 (.agg #[.int .i64 x.f0, .int .i64 x.f1.f0, .int .i64 x.f1.f1, .int .i64 x.f1.f2, .int .i64 x.f1.f3, .int .i64 x.f1.f4, .int .i64 x.f1.f5, .int .u8 x.f1.f6.f0, .int .u8 x.f1.f6.f1, .int .u8 x.f1.f6.f2, .int .u8 x.f1.f6.f3, .int .u8 x.f1.f6.f4, .int .u8 x.f1.f6.f5, .int .u8 x.f1.f6.f6, .int .u8 x.f1.f6.f7, .int .u8 x.f1.f6.f8, .int .u8 x.f1.f6.f9, .int .u8 x.f1.f6.f10, .int .u8 x.f1.f6.f11, .int .u8 x.f1.f6.f12, .int .u8 x.f1.f6.f13, .int .u8 x.f1.f6.f14, .int .u8 x.f1.f6.f15, .int .u8 x.f1.f6.f16, .int .u8 x.f1.f6.f17, .int .u8 x.f1.f6.f18, .int .u8 x.f1.f6.f19, .int .u8 x.f1.f6.f20, .int .u8 x.f1.f6.f21, .int .u8 x.f1.f6.f22, .int .u8 x.f1.f6.f23, .int .u8 x.f1.f6.f24, .int .u8 x.f1.f6.f25, .int .u8 x.f1.f6.f26, .int .u8 x.f1.f6.f27, .int .u8 x.f1.f6.f28, .int .u8 x.f1.f6.f29, .int .u8 x.f1.f6.f30, .int .u8 x.f1.f6.f31]) (.agg #[.int .i64 x.f0, .int .i64 x.f1.f0, .int .i64 x.f1.f1, .int .i64 x.f1.f2, .int .i64 x.f1.f3, .int .i64 x.f1.f4, .int .i64 x.f1.f5, .int .u8 x.f1.f6.f0, .int .u8 x.f1.f6.f1, .int .u8 x.f1.f6.f2, .int .u8 x.f1.f6.f3, .int .u8 x.f1.f6.f4, .int .u8 x.f1.f6.f5, .int .u8 x.f1.f6.f6, .int .u8 x.f1.f6.f7, .int .u8 x.f1.f6.f8, .int .u8 x.f1.f6.f9, .int .u8 x.f1.f6.f10, .int .u8 x.f1.f6.f11, .int .u8 x.f1.f6.f12, .int .u8 x.f1.f6.f13, .int .u8 x.f1.f6.f14, .int .u8 x.f1.f6.f15, .int .u8 x.f1.f6.f16, .int .u8 x.f1.f6.f17, .int .u8 x.f1.f6.f18, .int .u8 x.f1.f6.f19, .int .u8 x.f1.f6.f20, .int .u8 x.f1.f6.f21, .int .u8 x.f1.f6.f22, .int .u8 x.f1.f6.f23, .int .u8 x.f1.f6.f24, .int .u8 x.f1.f6.f25, .int .u8 x.f1.f6.f26, .int .u8 x.f1.f6.f27, .int .u8 x.f1.f6.f28, .int .u8 x.f1.f6.f29, .int .u8 x.f1.f6.f30, .int .u8 x.f1.f6.f31])).run Tryz.prog W = .ok true W
 refine eqA_of Tryz.underlying90 (by kernel_rfl) ?_
 refine eqf_tt (by rfl) (by go_simp; try rfl) (by go_simp; try rfl) (by go_simp) ?_
 refine eqf_tt (by rfl) (by go_simp; try rfl) (by go_simp; try rfl) (eqSc d W x.f1) ?_
 exact eqf_nil
theorem eqInp (d : Nat) (W : World) (x : S42) : (Op.equalIn (d + 4) 42 (.agg (J68.enc x).toArray) (.agg (J68.enc x).toArray)).run Tryz.prog W = .ok true W := by
 show (Op.equalIn (d + 4) 42 (.agg #[.int .u8 x.f0.f0.f0, .int .u8 x.f0.f0.f1, .int .u8 x.f0.f0.f2, .int .u8 x.f0.f0.f3, .int .u8 x.f0.f0.f4, .int .u8 x.f0.f0.f5, .int .u8 x.f0.f0.f6, .int .u8 x.f0.f0.f7, .int .u8 x.f0.f0.f8, .int .u8 x.f0.f0.f9, .int .u8 x.f0.f0.f10, .int .u8 x.f0.f0.f11, .int .u8 x.f0.f0.f12, .int .u8 x.f0.f0.f13, .int .u8 x.f0.f0.f14, .int .u8 x.f0.f0.f15, .int .u8 x.f0.f0.f16, .int .u8 x.f0.f0.f17, .int .u8 x.f0.f0.f18, .int .u8 x.f0.f0.f19, .int .u8 x.f0.f0.f20, .int .u8 x.f0.f0.f21, .int .u8 x.f0.f0.f22, .int .u8 x.f0.f0.f23, .int .u8 x.f0.f0.f24, .int .u8 x.f0.f0.f25, .int .u8 x.f0.f0.f26, .int .u8 x.f0.f0.f27, .int .u8 x.f0.f0.f28, .int .u8 x.f0.f0.f29, .int .u8 x.f0.f0.f30, .int .u8 x.f0.f0.f31, .int .i64 x.f0.f1, .int .i64 x.f1, .int .i64 x.f2.f0.f0, .int .i64 x.f2.f0.f1, .string x.f2.f0.f2, .int .i64 x.f2.f1, .int .i64 x.f2.f2, .int .i64 x.f2.f3, .int .i64 x.f3, .int .i64 x.f4, .int .i64 x.f5, .int .i64 x.f6]) (.agg #[.int .u8 x.f0.f0.f0, .int .u8 x.f0.f0.f1, .int .u8 x.f0.f0.f2, .int .u8 x.f0.f0.f3, .int .u8 x.f0.f0.f4, .int .u8 x.f0.f0.f5, .int .u8 x.f0.f0.f6, .int .u8 x.f0.f0.f7, .int .u8 x.f0.f0.f8, .int .u8 x.f0.f0.f9, .int .u8 x.f0.f0.f10, .int .u8 x.f0.f0.f11, .int .u8 x.f0.f0.f12, .int .u8 x.f0.f0.f13, .int .u8 x.f0.f0.f14, .int .u8 x.f0.f0.f15, .int .u8 x.f0.f0.f16, .int .u8 x.f0.f0.f17, .int .u8 x.f0.f0.f18, .int .u8 x.f0.f0.f19, .int .u8 x.f0.f0.f20, .int .u8 x.f0.f0.f21, .int .u8 x.f0.f0.f22, .int .u8 x.f0.f0.f23, .int .u8 x.f0.f0.f24, .int .u8 x.f0.f0.f25, .int .u8 x.f0.f0.f26, .int .u8 x.f0.f0.f27, .int .u8 x.f0.f0.f28, .int .u8 x.f0.f0.f29, .int .u8 x.f0.f0.f30, .int .u8 x.f0.f0.f31, .int .i64 x.f0.f1, .int .i64 x.f1, .int .i64 x.f2.f0.f0, .int .i64 x.f2.f0.f1, .string x.f2.f0.f2, .int .i64 x.f2.f1, .int .i64 x.f2.f2, .int .i64 x.f2.f3, .int .i64 x.f3, .int .i64 x.f4, .int .i64 x.f5, .int .i64 x.f6])).run Tryz.prog W = .ok true W
 refine eqA_of Tryz.underlying42 (by kernel_rfl) ?_
 refine eqf_tt (by rfl) (by go_simp; try rfl) (by go_simp; try rfl) (eqP d W x.f0) ?_
 refine eqf_tt (by rfl) (by go_simp; try rfl) (by go_simp; try rfl) (by go_simp) ?_
 refine eqf_tt (by rfl) (by go_simp; try rfl) (by go_simp; try rfl) (eqC d W x.f2) ?_
 refine eqf_tt (by rfl) (by go_simp; try rfl) (by go_simp; try rfl) (by go_simp) ?_
 refine eqf_tt (by rfl) (by go_simp; try rfl) (by go_simp; try rfl) (by go_simp) ?_
 refine eqf_tt (by rfl) (by go_simp; try rfl) (by go_simp; try rfl) (by go_simp) ?_
 refine eqf_tt (by rfl) (by go_simp; try rfl) (by go_simp; try rfl) (by go_simp) ?_
 exact eqf_nil
set_option maxHeartbeats 8000000 in
set_option maxRecDepth 100000 in
theorem refsame_calls (l0 : List S79) (n : Nat) (hn : l0.length = n) (l1 : List S90) (m : Nat) (hm : l1.length = m) (lock : Int) (A0 A1 B0 B1 : Option Addr) (c0 c1 d0 d1 : Nat) (w : World) (hc : n ≤ c0 ∧ m ≤ c1 ∧ n ≤ d0 ∧ m ≤ d1) (hA0 : Kd.C k79 w A0 n l0) (hA1 : Kd.C k90 w A1 m l1) (hB0 : Kd.C k79 w B0 n l0) (hB1 : Kd.C k90 w B1 m l1) :
 Calls Tryz.prog 51 #[.agg #[.slice A0 n c0, .slice A1 m c1, .int .i64 lock], .agg #[.slice B0 n d0, .slice B1 m d1, .int .i64 lock]] w fun e w' => e = .returned (.bool true) ∧ Below w.heap.size w w' := by
 have mixed : Tryz.prog.follows .mixedOrders = true := by kernel_rfl
 have RA0 := Ak (readsIn hA0)
 have RB0 := Ak (readsIn hB0)
 have RA1 := Ak (readsOut hA1)
 have RB1 := Ak (readsOut hB1)
 have N0 := Ak hn
 have N1 := Ak hm
 have LIM := Ak (And.intro hA0.2.1 hA1.2.1)
 clear hA0 hA1 hB0 hB1 hn hm
 have HB := Ak (Below.refl w.heap.size w)
 have KT := Ak (fun (g : Nat) (V : World) (a b : Value) (k : Int) (_ : Unit) (h : V.heap[g]? = some (.cells #[a, b, .int .i64 k] 48 (0, 0))) => And.intro (show V.cell? ⟨g, 0, none⟩ = some a from (blk_cell h 0).trans rfl) (And.intro (show V.cell? ⟨g, 1, none⟩ = some b from (blk_cell h 1).trans rfl) (show V.cell? ⟨g, 2, none⟩ = some (.int .i64 k) from (blk_cell h 2).trans rfl)))
 have hu48 := Tryz.underlying48
 go_enter Tryz.func51, Tryz.ntmps51
 go_upto_region 1 with (first | ((with_reducible refine gate_dst (N := 2) rfl ?_); refine box_event ?hg (N := 2) ?hd (cs := #[.slice A0 n c0, .slice A1 m c1, .int .i64 lock]) (t := 48) ?hr ?_; (case hd => rfl); (case hg => rfl); (case hr => first | (go_simp; done) | (go_simp; rfl)); intro ga hg w1 hbox hb; replace HB := Ak (below_step HB.1 hb); have BA := Ak hbox; clear hbox hb hg) | ((with_reducible refine gate_dst (N := 3) rfl ?_); refine box_event ?hg (N := 3) ?hd (cs := #[.slice B0 n d0, .slice B1 m d1, .int .i64 lock]) (t := 48) ?hr ?_; (case hd => rfl); (case hg => rfl); (case hr => first | (go_simp; done) | (go_simp; rfl)); intro gb hg w1 hbox hb; replace HB := Ak (below_step HB.1 hb); have BB := Ak hbox; replace BA := Ak (blk_below BA.1 hb); clear hbox hb hg))
 obtain ⟨k0, k1, k2⟩ := KT.1 _ _ _ _ _ () BA.1
 obtain ⟨j0, j1, j2⟩ := KT.1 _ _ _ _ _ () BB.1
 go_wp2
 clear k0 k1 k2 j0 j1 j2
 go_loopg [5] n (fun kq v5 wr => ∃ i : Nat, v5 = .int .i64 i ∧ i ≤ n ∧ n - i ≤ kq ∧ Aside0 (wr.heap[ga]? = some (.cells #[.slice A0 n c0, .slice A1 m c1, .int .i64 lock] 48 (0, 0))) ∧ Aside0 (wr.heap[gb]? = some (.cells #[.slice B0 n d0, .slice B1 m d1, .int .i64 lock] 48 (0, 0))) ∧ Aside0 (Below w.heap.size w wr))
 case atStart => exact ⟨0, rfl, by omega, by omega, BA, BB, HB⟩
 case round =>
  clear BA BB HB
  obtain ⟨i, rfl, hin, hkq, BA, BB, HB⟩ := hrel
  obtain ⟨k0, k1, k2⟩ := KT.1 _ _ _ _ _ () BA.1
  obtain ⟨j0, j1, j2⟩ := KT.1 _ _ _ _ _ () BB.1
  by_cases hlt : i < n
  ·have hltz : (i : Int) < (n : Int) := by omega
   have hil : i < l0.length := by rw [N0.1]; exact hlt
   have YR := Ak (show l0[i]? = some l0[i] from List.getElem?_eq_getElem hil)
   generalize l0[i] = x at YR
   clear hil
   obtain ⟨ad, rfl, _⟩ := RA0.1.2.2 (by omega)
   obtain ⟨bd, rfl, _⟩ := RB0.1.2.2 (by omega)
   go_upto_region 6 with (fail)
   have q0 := fun dd os => (KT.1 _ _ _ _ _ () (blk_below BA.1 (below_regrown wr dd os))).1
   have q1 := fun dd os => (KT.1 _ _ _ _ _ () (blk_below BB.1 (below_regrown wr dd os))).1
   have q2 := fun dd os => part_load (enc := encIn) (sub := encIn) (o := 0) (k := 37) (m := 37) (fun _ => rfl) (fun _ => rfl) (fun _ => rfl) RA0.1 (HB.1.trans ((below_regrown wr dd os).mono HB.1.size)) rfl YR.1 (by omega)
   have q3 := fun dd os => part_load (enc := encIn) (sub := encIn) (o := 0) (k := 37) (m := 37) (fun _ => rfl) (fun _ => rfl) (fun _ => rfl) RB0.1 (HB.1.trans ((below_regrown wr dd os).mono HB.1.size)) rfl YR.1 (by omega)
   simp only [Nat.add_zero] at q2 q3
   have q4 := fun d W => eqIn d W x
   generalize (encIn x).toArray = cx at q2 q3 q4
   refine wp_region_quiet_below mixed (by kernel_rfl) ?_
   repeat (quiet_step (fail))
   refine wpQuiet_nil ?_
   intro _ hw'
   obtain ⟨⟨nq, osq⟩, hw''⟩ := hw'
   subst hw''
   replace BA := Ak (blk_below BA.1 (below_regrown wr nq osq))
   replace BB := Ak (blk_below BB.1 (below_regrown wr nq osq))
   replace HB := Ak (below_step HB.1 (below_regrown wr nq osq))
   clear q0 q1 q2 q3 q4 k0 k1 k2 j0 j1 j2
   generalize grow (redrawn wr nq) osq = wp at BA BB HB ⊢
   have hz2 : IntKind.i64.wrap ((i : Int) + 1) = ((i + 1 : Nat) : Int) := by have := LIM.1; unfold maxLen at this; rw [IntKind.wrap_i64]; omega
   go_wp2
   go_roundg (n - (i + 1))
   case measure => omega
   case rel => exact ⟨i + 1, by first | rfl | go_num, by omega, by omega, BA, BB, HB⟩
  ·obtain rfl : n = i := by omega
   have hnl : ¬ (n : Int) < (n : Int) := by omega
   go_wp2
   go_loopg [6] m (fun kq v6 wr => ∃ i : Nat, v6 = .int .i64 i ∧ i ≤ m ∧ m - i ≤ kq ∧ Aside0 (wr.heap[ga]? = some (.cells #[.slice A0 n c0, .slice A1 m c1, .int .i64 lock] 48 (0, 0))) ∧ Aside0 (wr.heap[gb]? = some (.cells #[.slice B0 n d0, .slice B1 m d1, .int .i64 lock] 48 (0, 0))) ∧ Aside0 (Below w.heap.size w wr))
   case atStart => exact ⟨0, rfl, by omega, by omega, BA, BB, HB⟩
   case round =>
    clear BA BB HB
    obtain ⟨i, rfl, hin, hkq, BA, BB, HB⟩ := hrel
    obtain ⟨k0, k1, k2⟩ := KT.1 _ _ _ _ _ () BA.1
    obtain ⟨j0, j1, j2⟩ := KT.1 _ _ _ _ _ () BB.1
    by_cases hlt : i < m
    ·have hltz : (i : Int) < (m : Int) := by omega
     have hil : i < l1.length := by rw [N1.1]; exact hlt
     have YR := Ak (show l1[i]? = some l1[i] from List.getElem?_eq_getElem hil)
     generalize l1[i] = x at YR
     clear hil
     obtain ⟨ad, rfl, _⟩ := RA1.1.2.2 (by omega)
     obtain ⟨bd, rfl, _⟩ := RB1.1.2.2 (by omega)
     go_upto_region 11 with (fail)
     have q0 := fun dd os => (KT.1 _ _ _ _ _ () (blk_below BA.1 (below_regrown wr dd os))).2.1
     have q1 := fun dd os => (KT.1 _ _ _ _ _ () (blk_below BB.1 (below_regrown wr dd os))).2.1
     have q2 := fun dd os => part_load (enc := encOut) (sub := encOut) (o := 0) (k := 39) (m := 39) (fun _ => rfl) (fun _ => rfl) (fun _ => rfl) RA1.1 (HB.1.trans ((below_regrown wr dd os).mono HB.1.size)) rfl YR.1 (by omega)
     have q3 := fun dd os => part_load (enc := encOut) (sub := encOut) (o := 0) (k := 39) (m := 39) (fun _ => rfl) (fun _ => rfl) (fun _ => rfl) RB1.1 (HB.1.trans ((below_regrown wr dd os).mono HB.1.size)) rfl YR.1 (by omega)
     simp only [Nat.add_zero] at q2 q3
     have q4 := fun d W => eqOut d W x
     generalize (encOut x).toArray = cx at q2 q3 q4
     refine wp_region_quiet_below mixed (by kernel_rfl) ?_
     repeat (quiet_step (fail))
     refine wpQuiet_nil ?_
     intro _ hw'
     obtain ⟨⟨nq, osq⟩, hw''⟩ := hw'
     subst hw''
     replace BA := Ak (blk_below BA.1 (below_regrown wr nq osq))
     replace BB := Ak (blk_below BB.1 (below_regrown wr nq osq))
     replace HB := Ak (below_step HB.1 (below_regrown wr nq osq))
     clear q0 q1 q2 q3 q4 k0 k1 k2 j0 j1 j2
     generalize grow (redrawn wr nq) osq = wp at BA BB HB ⊢
     have hz2 : IntKind.i64.wrap ((i : Int) + 1) = ((i + 1 : Nat) : Int) := by have := LIM.1; unfold maxLen at this; rw [IntKind.wrap_i64]; omega
     go_wp2
     go_roundg (m - (i + 1))
     case measure => omega
     case rel => exact ⟨i + 1, by first | rfl | go_num, by omega, by omega, BA, BB, HB⟩
    ·obtain rfl : m = i := by omega
     have hnl : ¬ (m : Int) < (m : Int) := by omega
     go_wp2
     go_ret
     exact ⟨rfl, HB.1⟩
end Go.Proofs.YtiodebjjbgcbhaaGreat.RfB
namespace Go.Proofs.YtiodebjjbgcbhaaGreat.RfB
open Go.RowKit Go.Sort Go.Lib Go.Shelf Go.Proofs YtiodebjjbgcbhaaGreatW.PrintWords YtiodebjjbgcbhaaGreatW.PrintLast YtiodebjjbgcbhaaGreatW.PrintMore YtiodebjjbgcbhaaGreat Hand Inp RowK Fill OrdO QLef LefL
attribute [local go_sem ↓ high] Wide.hv44 Wide.hv33 Wide.hv37 Wide.hv32 Wide.hv38 Wide.hv39
set_option linter.unusedVariables false
set_option linter.unusedSimpArgs false
set_option maxHeartbeats 8000000 in
set_option maxRecDepth 100000 in
theorem lawsame_calls (l : List S42) (n : Nat) (hn : l.length = n) (hl : n < 100000) (A : Option Addr) (c : Nat) (B : Option Addr) (d : Nat) (w : World) (hA : ReadsRow (fun x c => c = J68.enc x) 44 w A n l) (hB : ReadsRow (fun x c => c = J68.enc x) 44 w B n l) :
 Calls Tryz.prog 14 #[.slice A n c, .slice B n d] w fun e w' => e = .returned (.bool true) ∧ Below w.heap.size w w' := by
 have mixed : Tryz.prog.follows .mixedOrders = true := by kernel_rfl
 have RA := Ak hA
 have RB := Ak hB
 have HN := Ak hn
 have HL := Ak hl
 clear hA hB hn hl
 have HB := Ak (Below.refl w.heap.size w)
 go_enter Tryz.func14, Tryz.ntmps14
 go_wp2
 go_loopg [5] n (fun kq v5 wr => ∃ i : Nat, v5 = .int .i64 i ∧ i ≤ n ∧ n - i ≤ kq ∧ Aside0 (Below w.heap.size w wr))
 case atStart => exact ⟨0, rfl, by omega, by omega, HB⟩
 case round =>
  clear HB
  obtain ⟨i, rfl, hin, hkq, HB⟩ := hrel
  by_cases hlt : i < n
  ·have hltz : (i : Int) < (n : Int) := by omega
   have hil : i < l.length := by rw [HN.1]; exact hlt
   have YR := Ak (show l[i]? = some l[i] from List.getElem?_eq_getElem hil)
   generalize l[i] = x at YR
   clear hil
   obtain ⟨ad, rfl, _⟩ := RA.1.2.2 (by omega)
   obtain ⟨bd, rfl, _⟩ := RB.1.2.2 (by omega)
   have FL := Ak (fun W => flat_calls J68 x W)
   go_upto_region 6 with (fail)
   have q2 := fun dd os => part_load (enc := J68.enc) (sub := J68.enc) (o := 0) (k := 44) (m := 44) (fun _ => rfl) (fun _ => rfl) (fun _ => rfl) RA.1 (HB.1.trans ((below_regrown wr dd os).mono HB.1.size)) rfl YR.1 (by omega)
   have q3 := fun dd os => part_load (enc := J68.enc) (sub := J68.enc) (o := 0) (k := 44) (m := 44) (fun _ => rfl) (fun _ => rfl) (fun _ => rfl) RB.1 (HB.1.trans ((below_regrown wr dd os).mono HB.1.size)) rfl YR.1 (by omega)
   simp only [Nat.add_zero] at q2 q3
   have q4 := fun d W => eqInp d W x
   have en1 := enters_of Tryz.func42 (by kernel_rfl) rfl
   generalize (J68.enc x).toArray = cx at q2 q3 q4 FL
   refine wp_region_quiet_below mixed (by kernel_rfl) ?_
   repeat (quiet_step (with_reducible exact Calls.regrown_of (FL.1 _)))
   refine wpQuiet_nil ?_
   intro _ hw'
   obtain ⟨⟨nq, osq⟩, hw''⟩ := hw'
   subst hw''
   replace HB := Ak (below_step HB.1 (below_regrown wr nq osq))
   clear q2 q3 q4 en1
   generalize grow (redrawn wr nq) osq = wp at HB ⊢
   have hz2 : IntKind.i64.wrap ((i : Int) + 1) = ((i + 1 : Nat) : Int) := by have := HL.1; rw [IntKind.wrap_i64]; omega
   go_wp2
   go_roundg (n - (i + 1))
   case measure => omega
   case rel => exact ⟨i + 1, by first | rfl | go_num, by omega, by omega, HB⟩
  ·obtain rfl : n = i := by omega
   have hnl : ¬ (n : Int) < (n : Int) := by omega
   go_wp2
   go_ret
   exact ⟨rfl, HB.1⟩
def K5 (w : World) (b : Bt) (cs : List Value) : Prop := ∃ A0 c0 A1 c1, cs = [.slice A0 b.ins.length c0, .slice A1 b.outs.length c1, .int .i64 b.lock, .int .i64 b.fee, .int .i64 b.rate] ∧ b.ins.length ≤ c0 ∧ Kd.C k79 w A0 b.ins.length b.ins ∧ b.outs.length ≤ c1 ∧ Kd.C k90 w A1 b.outs.length b.outs
theorem K5.below {w W : World} {b : Bt} {cs : List Value} (h : K5 w b cs) (hb : Below w.heap.size w W) : K5 W b cs := by
 obtain ⟨A0, c0, A1, c1, e, l0, g0, l1, g1⟩ := h
 exact ⟨A0, c0, A1, c1, e, l0, Kd.C_below g0 hb, l1, Kd.C_below g1 hb⟩
def C5 (w : World) (A : Option Addr) (n : Nat) (bs : List Bt) : Prop := ReadsRow (K5 w) 5 w A n bs
theorem C5.below {w W : World} {A : Option Addr} {n : Nat} {bs : List Bt} (h : C5 w A n bs) (hb : Below w.heap.size w W) : C5 W A n bs := ReadsRow.imp_ h hb (fun _ _ hp => hp.below hb)
theorem C5.get {w : World} {A : Option Addr} {n : Nat} {bs : List Bt} (h : C5 w A n bs) {ad : Addr} (e : A = some ad) {j : Nat} {b : Bt} (hx : bs[j]? = some b) (h0 : 0 < n) : ∃ A0 c0 A1 c1, (w.cell? (ad.add (j * 5)) = some (.slice A0 b.ins.length c0) ∧ w.cell? ⟨(ad.add (j * 5)).block, (ad.add (j * 5)).off + 1, none⟩ = some (.slice A1 b.outs.length c1) ∧ w.cell? ⟨(ad.add (j * 5)).block, (ad.add (j * 5)).off + 2, none⟩ = some (.int .i64 b.lock) ∧ w.cell? ⟨(ad.add (j * 5)).block, (ad.add (j * 5)).off + 3, none⟩ = some (.int .i64 b.fee) ∧ w.cell? ⟨(ad.add (j * 5)).block, (ad.add (j * 5)).off + 4, none⟩ = some (.int .i64 b.rate)) ∧ b.ins.length ≤ c0 ∧ Kd.C k79 w A0 b.ins.length b.ins ∧ b.outs.length ≤ c1 ∧ Kd.C k90 w A1 b.outs.length b.outs := by
 obtain ⟨ad', e', hcc⟩ := h.2.2 h0
 have e2 : ad = ad' := Option.some.inj (e.symm.trans e')
 subst e2
 obtain ⟨cs, _, ⟨A0, c0, A1, c1, rfl, l0, g0, l1, g1⟩, h3⟩ := hcc j b hx
 exact ⟨A0, c0, A1, c1, ⟨h3 0 _ rfl, by rw [← add_field ad (j * 5) 1 (by decide)]; exact h3 1 _ rfl, by rw [← add_field ad (j * 5) 2 (by decide)]; exact h3 2 _ rfl, by rw [← add_field ad (j * 5) 3 (by decide)]; exact h3 3 _ rfl, by rw [← add_field ad (j * 5) 4 (by decide)]; exact h3 4 _ rfl⟩, l0, g0, l1, g1⟩
theorem info53 : (Tryz.prog.info? 53).map (fun i => (i.zero, i.size, i.bytes)) = some (some (.agg zB), 5, 72) := by kernel_rfl
theorem C5.of_raw {w W : World} {A : Option Addr} {css : List (List Value)} {bs : List Bt} (h : Kd.C (Kd.raw 5) W A css.length css) (hl : css.length = bs.length) (hk : ∀ (j : Nat) (c : List Value), css[j]? = some c → ∃ b, bs[j]? = some b ∧ K5 w b c) (hb : Below w.heap.size w W) : C5 W A bs.length bs := by
 obtain ⟨h1, h2, h3⟩ := h
 refine ⟨rfl, by rw [← hl]; exact h2, fun h0 => ?_⟩
 obtain ⟨ad, e, hcc⟩ := h3 (by omega)
 refine ⟨ad, e, fun j b hj => ?_⟩
 have hlt : j < css.length := by rw [hl]; exact (List.getElem?_eq_some_iff.1 hj).1
 obtain ⟨cs, hlc, ⟨rfl, _, _⟩, hc⟩ := hcc j css[j] (List.getElem?_eq_getElem hlt)
 obtain ⟨b', hb', hk'⟩ := hk j css[j] (List.getElem?_eq_getElem hlt)
 rw [hj] at hb'
 cases hb'
 exact ⟨css[j], hlc, hk'.below hb, hc⟩
set_option maxHeartbeats 8000000 in
set_option maxRecDepth 100000 in
theorem flats_calls (bs : List Bt) (n : Nat) (hn : bs.length = n) (hl : n < 100000) (A : Option Addr) (c : Nat) (w : World) (hA : C5 w A n bs) :
 Calls Tryz.prog 18 #[.slice A n c] w fun e w' => ∃ A' c', e = .returned (.slice A' n c') ∧ C5 w' A' n bs ∧ Below w.heap.size w w' := by
 have mixed : Tryz.prog.follows .mixedOrders = true := by kernel_rfl
 have RA := Ak hA
 have HN := Ak hn
 have HL := Ak hl
 clear hA hn hl
 have HB := Ak (Below.refl w.heap.size w)
 have hu1 := Tryz.underlying50
 have hu2 := Tryz.underlying53
 have hu3 := Tryz.underlying48
 go_enter Tryz.func18, Tryz.ntmps18
 go_wp2
 go_loopg [3, 4] n (fun kq v3 v4 wr => ∃ (i : Nat) (css : List (List Value)), v4 = .int .i64 i ∧ i ≤ n ∧ n - i ≤ kq ∧ Aside0 (css.length = i ∧ ∀ (j : Nat) (c : List Value), css[j]? = some c → ∃ b, bs[j]? = some b ∧ K5 w b c) ∧ Aside0 (Kd.R (Kd.raw 5) 53 wr w.heap.size (fun _ => True) v3 css) ∧ Aside0 (Below w.heap.size w wr))
 case atStart => exact ⟨0, [], rfl, by omega, by omega, ⟨rfl, fun j c h => by simp at h⟩, ⟨Kd.R_nil _ _ _ _ _⟩, HB⟩
 case round =>
  clear HB
  obtain ⟨i, css, rfl, hin, hkq, CS, H3, HB⟩ := hrel
  have hlb := HL.1
  by_cases hlt : i < n
  ·have hltz : (i : Int) < (n : Int) := by omega
   have hil : i < bs.length := by rw [HN.1]; exact hlt
   have YR := Ak (show bs[i]? = some bs[i] from List.getElem?_eq_getElem hil)
   generalize bs[i] = b at YR
   clear hil
   obtain ⟨ad, rfl, _⟩ := RA.1.2.2 (by omega)
   obtain ⟨A0, c0, A1, c1, hcl, hk0, hk1, hk2, hk3⟩ := RA.1.get rfl YR.1 (by omega)
   have KB := Ak (show K5 w b [.slice A0 b.ins.length c0, .slice A1 b.outs.length c1, .int .i64 b.lock, .int .i64 b.fee, .int .i64 b.rate] from ⟨A0, c0, A1, c1, rfl, hk0, hk1, hk2, hk3⟩)
   have FS := Ak (fun V (hb : Below w.heap.size w V) => And.intro (pw_cell_below hb hcl.1) (And.intro (pw_cell_below hb hcl.2.1) (And.intro (pw_cell_below hb hcl.2.2.1) (And.intro (pw_cell_below hb hcl.2.2.2.1) (pw_cell_below hb hcl.2.2.2.2)))))
   clear hcl hk0 hk1 hk2 hk3
   generalize b.ins.length = l0 at KB FS
   generalize b.outs.length = l1 at KB FS
   generalize b.lock = y0 at KB FS
   generalize b.fee = y1 at KB FS
   generalize b.rate = y2 at KB FS
   go_upto_region 5 with (fail)
   refine Mix.region (fun V => V.cell? (ad.add (i * 5)) = some (.slice A0 l0 c0) ∧ V.cell? ⟨(ad.add (i * 5)).block, (ad.add (i * 5)).off + 1, none⟩ = some (.slice A1 l1 c1) ∧ V.cell? ⟨(ad.add (i * 5)).block, (ad.add (i * 5)).off + 2, none⟩ = some (.int .i64 y0) ∧ V.cell? ⟨(ad.add (i * 5)).block, (ad.add (i * 5)).off + 3, none⟩ = some (.int .i64 y1) ∧ V.cell? ⟨(ad.add (i * 5)).block, (ad.add (i * 5)).off + 4, none⟩ = some (.int .i64 y2)) [] (.p 0 (.p 1 (.p 2 (.p 3 (.p 4 (.t 5 (.p 6 (.p 7 (.p 8 (.p 9 (.t 10 (.p 11 (.p 12 (.p 13 (.p 14 (.t 15 (.p 16 (.e 17 (.e 18 (.p 19 .done)))))))))))))))))))) mixed (by kernel_rfl) (fun _ _ N _ _ h => by cases N <;> exact h) ?_
   simp only [Mix.Plan.of, Mix.get]
   replace HB := Ak (below_drew1 HB.1)
   replace H3 := Ak (Kd.R_drew H3.1)
   generalize wr.drew = wd at HB H3 ⊢
   have hSS := FS.1 wd HB.1
   repeat (first | (refine Mix.sp (v := ?_) (a' := ?_) rfl (Or.inl ⟨by rfl, ?_⟩) ?_ ?_; rotate_left 2; (intro w'; go_simp; with_reducible rfl); (simp only [Act.put, ls_, l0_, l1_]; rfl)) | (refine Mix.st (v := ?_) (a' := ?_) hSS rfl (Or.inl ⟨by rfl, ?_⟩) ?_ ?_; rotate_left 2; (rintro w' ⟨s1, s2, s3, s4, s5⟩; go_simp; with_reducible rfl); (simp only [Act.put, ls_, l0_, l1_]; rfl)))
   refine Mix.ev rfl (fun K hK => ?_)
   refine value_ (w1 := wd.alloc (.cells [.slice A0 l0 c0, .slice A1 l1 c1, .int .i64 y0, .int .i64 y1, .int .i64 y2].toArray 53)) (v := .slice (some ⟨wd.heap.size, 0, none⟩) 1 1) (by rfl) rfl (by first | (go_simp; done) | (go_simp; rfl)) (hK.out _ _ ⟨FS.1 _ (below_alloc HB.1 _), ?_⟩)
   clear hK K
   refine Mix.ev rfl (fun K hK => ?_)
   refine Kd.R_append_step (Kd.raw 5) (w0 := w) (W := wd) w.heap.size (by rfl) (.tmp 11) (.tmp 28) 60 53 (.agg zB) 72 rfl Tryz.underlying60 info53 rfl (by decide) (by decide) u3 css [.slice A0 l0 c0, .slice A1 l1 c1, .int .i64 y0, .int .i64 y1, .int .i64 y2] [.slice A0 l0 c0, .slice A1 l1 c1, .int .i64 y0, .int .i64 y1, .int .i64 y2] (fun _ => True) (fun _ => False) (by kernel_rfl) (by kernel_rfl) ⟨rfl, rfl, by intro u hu; simp only [List.mem_cons, List.not_mem_nil, or_false] at hu; rcases hu with rfl | rfl | rfl | rfl | rfl <;> rfl⟩ (fun _ h => h.elim) (fun _ _ => trivial) H3.1 HB.1 HB.1.size (by have := CS.out.1; omega) ?_
   intro v29 w3 hv hb hg _
   refine hK.out _ _ ⟨FS.1 _ hb, ?_⟩
   clear hK K hg
   replace H3 := Ak hv
   replace HB := Ak hb
   clear hv hb hSS
   refine Mix.sp (v := v29) (a' := ?_) rfl (Or.inl ⟨by rfl, ?_⟩) ?_ ?_
   rotate_left
   ·intro w'; go_simp
   ·rfl
   refine Mix.dn ?_
   have hz2 : IntKind.i64.wrap ((i : Int) + 1) = ((i + 1 : Nat) : Int) := by rw [IntKind.wrap_i64]; omega
   go_wp2
   go_roundg (n - (i + 1))
   case measure => omega
   case rel => exact ⟨i + 1, css ++ [[.slice A0 l0 c0, .slice A1 l1 c1, .int .i64 y0, .int .i64 y1, .int .i64 y2]], by first | rfl | go_num, by omega, by omega, ⟨by rw [List.length_append, CS.out.1]; rfl, fun j c h => by
    rcases Nat.lt_trichotomy j i with hj | hj | hj
    ·rw [List.getElem?_append_left (by rw [CS.out.1]; exact hj)] at h; exact CS.out.2 j c h
    ·subst hj
     rw [List.getElem?_append_right (by rw [CS.out.1]; exact Nat.le_refl _), CS.out.1, Nat.sub_self] at h
     cases h
     exact ⟨b, YR.1, KB.1⟩
    ·rw [List.getElem?_eq_none (by rw [List.length_append, CS.out.1]; simp; omega)] at h; cases h⟩, H3, HB⟩
  ·obtain rfl : n = i := by omega
   have hnl : ¬ (n : Int) < (n : Int) := by omega
   have RS := Ak (show ∃ A' c', u3 = .slice A' n c' ∧ C5 wr A' n bs by
    obtain ⟨A', c', rfl⟩ := Kd.R_slice H3.1
    have h := C5.of_raw (Kd.R_reads' H3.1).2.2 (by rw [CS.out.1, HN.1]) CS.out.2 HB.1
    rw [HN.1] at h
    exact ⟨A', c', by rw [CS.out.1], h⟩)
   obtain ⟨A', c', rfl, h5⟩ := RS.1
   have H5 := Ak h5
   clear h5 RS
   go_wp2
   go_ret
   exact ⟨A', ⟨c', rfl⟩, H5.1, HB.1⟩
set_option maxHeartbeats 8000000 in
set_option maxRecDepth 100000 in
theorem samebatches_calls (bs : List Bt) (n : Nat) (hn : bs.length = n) (hl : n < 100000) (A : Option Addr) (c : Nat) (B : Option Addr) (d : Nat) (w : World) (hA : C5 w A n bs) (hB : C5 w B n bs) :
 Calls Tryz.prog 17 #[.slice A n c, .slice B n d] w fun e w' => e = .returned (.bool true) ∧ Below w.heap.size w w' := by
 have mixed : Tryz.prog.follows .mixedOrders = true := by kernel_rfl
 have RA := Ak hA
 have RB := Ak hB
 have HN := Ak hn
 have HL := Ak hl
 clear hA hB hn hl
 have HB := Ak (Below.refl w.heap.size w)
 have hu2 := Tryz.underlying53
 have hu3 := Tryz.underlying48
 go_enter Tryz.func17, Tryz.ntmps17
 go_wp2
 go_loopg [5] n (fun kq v5 wr => ∃ i : Nat, v5 = .int .i64 i ∧ i ≤ n ∧ n - i ≤ kq ∧ Aside0 (Below w.heap.size w wr))
 case atStart => exact ⟨0, rfl, by omega, by omega, HB⟩
 case round =>
  clear HB
  obtain ⟨i, rfl, hin, hkq, HB⟩ := hrel
  by_cases hlt : i < n
  ·have hltz : (i : Int) < (n : Int) := by omega
   have hil : i < bs.length := by rw [HN.1]; exact hlt
   have YR := Ak (show bs[i]? = some bs[i] from List.getElem?_eq_getElem hil)
   generalize bs[i] = b at YR
   clear hil
   obtain ⟨ad, rfl, _⟩ := RA.1.2.2 (by omega)
   obtain ⟨bd, rfl, _⟩ := RB.1.2.2 (by omega)
   obtain ⟨A0, c0, A1, c1, hcl, hk0, hk1, hk2, hk3⟩ := RA.1.get rfl YR.1 (by omega)
   obtain ⟨B0, d0, B1, d1, hdl, hj0, hj1, hj2, hj3⟩ := RB.1.get rfl YR.1 (by omega)
   have SM := Ak (fun W (hb : Below w.heap.size w W) => refsame_calls b.ins b.ins.length rfl b.outs b.outs.length rfl b.lock A0 A1 B0 B1 c0 c1 d0 d1 W ⟨hk0, hk2, hj0, hj2⟩ (Kd.C_below hk1 hb) (Kd.C_below hk3 hb) (Kd.C_below hj1 hb) (Kd.C_below hj3 hb))
   have FA := Ak hcl
   have FB := Ak hdl
   clear hcl hk0 hk1 hk2 hk3 hdl hj0 hj1 hj2 hj3
   generalize b.ins.length = l0 at SM FA FB
   generalize b.outs.length = l1 at SM FA FB
   generalize b.lock = y0 at SM FA FB
   generalize b.fee = y1 at FA FB
   generalize b.rate = y2 at FA FB
   go_upto_region 6 with (fail)
   have hbw := fun dd os => HB.1.trans ((below_regrown wr dd os).mono HB.1.size)
   have q0 := fun dd os => pw_cell_below (hbw dd os) FA.1.1
   have q1 := fun dd os => pw_cell_below (hbw dd os) FA.1.2.1
   have q2 := fun dd os => pw_cell_below (hbw dd os) FA.1.2.2.1
   have q3 := fun dd os => pw_cell_below (hbw dd os) FA.1.2.2.2.1
   have q4 := fun dd os => pw_cell_below (hbw dd os) FA.1.2.2.2.2
   have r0 := fun dd os => pw_cell_below (hbw dd os) FB.1.1
   have r1 := fun dd os => pw_cell_below (hbw dd os) FB.1.2.1
   have r2 := fun dd os => pw_cell_below (hbw dd os) FB.1.2.2.1
   have r3 := fun dd os => pw_cell_below (hbw dd os) FB.1.2.2.2.1
   have r4 := fun dd os => pw_cell_below (hbw dd os) FB.1.2.2.2.2
   have SW := Ak (fun dd os => SM.1 (grow (redrawn wr dd) os) (hbw dd os))
   have en1 := enters_of Tryz.func51 (by kernel_rfl) rfl
   clear hbw SM
   refine wp_region_quiet_below mixed (by kernel_rfl) ?_
   repeat (quiet_step (with_reducible exact Calls.regrown_of (SW.1 _ _)))
   refine wpQuiet_nil ?_
   intro _ hw'
   obtain ⟨⟨nq, osq⟩, hw''⟩ := hw'
   subst hw''
   replace HB := Ak (below_step HB.1 (below_regrown wr nq osq))
   clear q0 q1 q2 q3 q4 r0 r1 r2 r3 r4 en1 SW
   generalize grow (redrawn wr nq) osq = wp at HB ⊢
   have hz2 : IntKind.i64.wrap ((i : Int) + 1) = ((i + 1 : Nat) : Int) := by have := HL.1; rw [IntKind.wrap_i64]; omega
   go_wp2
   go_roundg (n - (i + 1))
   case measure => omega
   case rel => exact ⟨i + 1, by first | rfl | go_num, by omega, by omega, HB⟩
  ·obtain rfl : n = i := by omega
   have hnl : ¬ (n : Int) < (n : Int) := by omega
   go_wp2
   go_ret
   exact ⟨rfl, HB.1⟩
end Go.Proofs.YtiodebjjbgcbhaaGreat.RfB
namespace Go.Proofs.YtiodebjjbgcbhaaGreat.RfB
open Go.RowKit Go.Sort Go.Lib Go.Shelf Go.Proofs YtiodebjjbgcbhaaGreatW.PrintWords YtiodebjjbgcbhaaGreatW.PrintLast YtiodebjjbgcbhaaGreatW.PrintMore YtiodebjjbgcbhaaGreat Hand Inp RowK OrdQ QLef LefL
set_option linter.unusedVariables false
set_option linter.unusedSimpArgs false
theorem order_to (l : List S42) (next : Int) : orderC I90 (l.map to90) next = (orderC J68 l next).map to90 := by
 unfold orderC orderV sortV
 rw [List.filter_map]
 have h := foldl_map (cmpR I90 (rtC I90 next)) to90 (l.filter ((fun y => !out1 I90 (chkC I90) next y) ∘ to90)) []
 rw [ln_] at h
 exact h.symm
theorem foldl_to {β : Type} (f : β → S38 → β) (l : List S42) (b : β) : (l.map to90).foldl f b = l.foldl (fun a x => f a (to90 x)) b := List.foldl_map
theorem make_to (l : List S42) (rate key : Int) : makeC I90 (l.map to90) rate key = makeC J68 l rate key := by
 unfold makeC makeV lockV budV
 rw [foldl_to, foldl_to, List.map_map, List.map_map, List.all_map]
 simp only [List.map_eq_nil_iff]
 rfl
theorem row_to {w : World} {A : Option Addr} {n : Nat} {l : List S42} (h : ReadsRow (fun x c => c = I90.enc x) 44 w A n (l.map to90)) : ReadsRow (fun x c => c = J68.enc x) 44 w A n l := by
 obtain ⟨h1, h2, h3⟩ := h
 rw [List.length_map] at h1
 refine ⟨h1, h2, fun h0 => ?_⟩
 obtain ⟨ad, e, hcc⟩ := h3 h0
 exact ⟨ad, e, fun j p hp => hcc j (to90 p) (by rw [List.getElem?_map, hp]; rfl)⟩
theorem C5.one {w : World} {b : Bt} {g : Nat} {cs : List Value} {t : TypeId} (hk : K5 w b cs) (h : w.heap[g]? = some (.cells cs.toArray t (0, 0))) : C5 w (some ⟨g, 0, none⟩) 1 [b] := by
 refine ⟨rfl, by decide, fun _ => ⟨_, rfl, fun j p hp => ?_⟩⟩
 have hj : j < 1 := by have := (List.getElem?_eq_some_iff.1 hp).1; simpa using this
 obtain rfl : j = 0 := by omega
 cases hp
 refine ⟨cs, ?_, hk, fun i u hu => ?_⟩
 ·obtain ⟨_, _, _, _, rfl, _⟩ := hk; rfl
 ·have e : (⟨g, 0, none⟩ : Addr).add (0 * 5 + i) = ⟨g, i, none⟩ := by rw [Addr.add_lit]; simp
  rw [e, blk_cell h i]
  simpa using hu
theorem K5.made {w : World} {b : Bt} {v0 v1 : Value} {base : Nat} (h0 : Kd.R k79 79 w base (fun _ => True) v0 b.ins) (h1 : Kd.R k90 90 w base (fun _ => True) v1 b.outs) : K5 w b [v0, v1, .int .i64 b.lock, .int .i64 b.fee, .int .i64 b.rate] := by
 obtain ⟨A0, c0, e0, hl0, hc0⟩ := Kd.R_reads h0
 obtain ⟨A1, c1, e1, hl1, hc1⟩ := Kd.R_reads h1
 subst e0 e1
 exact ⟨A0, c0, A1, c1, rfl, hl0, hc0, hl1, hc1⟩
end Go.Proofs.YtiodebjjbgcbhaaGreat.RfB
