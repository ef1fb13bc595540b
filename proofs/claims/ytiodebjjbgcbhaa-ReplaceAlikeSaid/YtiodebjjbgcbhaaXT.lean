/- Functions of the program as plain Lean functions, and that its calls come to what these tell: written by a program of this session; Lean checks it. -/
import Derived.Test.YtiodebjjbgcbhaaXR
namespace Go.Proofs.Ytiodebjjbgcbhaa.QRep
open Go.RowKit Go.Proofs.YtiodebjjbgcbhaaW.PrintWords Go.Proofs.YtiodebjjbgcbhaaW.PrintLast Go.Proofs.YtiodebjjbgcbhaaW.PrintMore
attribute [local go_sem] max2_int min2_int max_two min_two max_three min_three max_four min_four  run_fop run_feq run_fne run_flt run_fle run_fgt run_fge run_fint run_toi run_real' run_imag' run_complex' run_ceq run_cne run_cadd run_csub run_cmul Go.Proofs.Ytiodebjjbgcbhaa.Wide.cellsAt_drewN Go.Proofs.Ytiodebjjbgcbhaa.Wide.cellsAt_drew Go.Proofs.Ytiodebjjbgcbhaa.Wide.lw32 Go.Proofs.Ytiodebjjbgcbhaa.Wide.lw33 Go.Proofs.Ytiodebjjbgcbhaa.Wide.lw37 Go.Proofs.Ytiodebjjbgcbhaa.Wide.lw38 Go.Proofs.Ytiodebjjbgcbhaa.Wide.lw39 Go.Proofs.Ytiodebjjbgcbhaa.Wide.lw44
attribute [local go_sem ↓ high] Go.Proofs.Ytiodebjjbgcbhaa.Wide.hv32 Go.Proofs.Ytiodebjjbgcbhaa.Wide.hv33 Go.Proofs.Ytiodebjjbgcbhaa.Wide.hv37 Go.Proofs.Ytiodebjjbgcbhaa.Wide.hv38 Go.Proofs.Ytiodebjjbgcbhaa.Wide.hv39 Go.Proofs.Ytiodebjjbgcbhaa.Wide.hv44
set_option linter.unusedVariables false
set_option linter.unusedSimpArgs false

attribute [local go_sem high] eqA46
def alike.tail (k : Nat) (x10 x15 : Bool) (xl yl : List S38) : Option Bool := (coraclelaw18_batches.f k (([(⟨(⟨xl, ([] : List (S64)), 0⟩ : S28), 0, 0⟩ : S30)] : List (S30)))).bind fun t331 => (if 0 < (t331.length : Int) then ((coraclelaw18_batches.f k (([(⟨(⟨yl, ([] : List (S64)), 0⟩ : S28), 0, 0⟩ : S30)] : List (S30)))).bind fun t338 => (if 0 < (t338.length : Int) then ((replace_Conflicts.f k (([(⟨(⟨(rd_T39 t331 0).f0.f0, (rd_T39 t331 0).f0.f1, (rd_T39 t331 0).f0.f2⟩ : S28), (rd_T39 t331 0).f1, (rd_T39 t331 0).f2⟩ : S39)] : List (S39))) ((rd_T39 t338 0).f0.f0) ((rd_T39 t338 0).f0.f1) ((rd_T39 t338 0).f0.f2) ((rd_T39 t338 0).f1) ((rd_T39 t338 0).f2)).bind fun t347 => ((replace_Put.f k (([(⟨(⟨(rd_T39 t331 0).f0.f0, (rd_T39 t331 0).f0.f1, (rd_T39 t331 0).f0.f2⟩ : S28), (rd_T39 t331 0).f1, (rd_T39 t331 0).f2⟩ : S39)] : List (S39))) ((rd_T39 t338 0).f0.f0) ((rd_T39 t338 0).f0.f1) ((rd_T39 t338 0).f0.f2) ((rd_T39 t338 0).f1) ((rd_T39 t338 0).f2)).bind fun bt353 => ((replace_Alike.f k ((rd_T39 t331 0).f0.f0) ((rd_T39 t331 0).f0.f1) ((rd_T39 t331 0).f0.f2) ((rd_T39 t331 0).f1) ((rd_T39 t331 0).f2) ((rd_T39 t338 0).f0.f0) ((rd_T39 t338 0).f0.f1) ((rd_T39 t338 0).f0.f2) ((rd_T39 t338 0).f1) ((rd_T39 t338 0).f2)).bind fun t357 => (if (t357 == x15) = true then ((replace_Alike.f k ((rd_T39 t338 0).f0.f0) ((rd_T39 t338 0).f0.f1) ((rd_T39 t338 0).f0.f2) ((rd_T39 t338 0).f1) ((rd_T39 t338 0).f2) ((rd_T39 t331 0).f0.f0) ((rd_T39 t331 0).f0.f1) ((rd_T39 t331 0).f0.f2) ((rd_T39 t331 0).f1) ((rd_T39 t331 0).f2)).bind fun t358 => (if (t358 == x15) = true then (if (((t347.length : Int) == 1) == x10) = true then (if (bt353.2 == (!x10)) = true then (if bt353.2 = true then (if (bt353.1.length : Int) = 2 then ((coraclelaw18_awake.f k).bind fun t359 => (some t359)) else (some false)) else ((coraclelaw18_awake.f k).bind fun t360 => (some t360))) else (some false)) else (some false)) else (some false))) else (some false))))) else (none))) else (none))
def behind (n : Nat) : Code → Option Code
  | .seq a b => match a with
    | .region m _ _ => if m = n then some b else behind n b
    | _ => match behind n a with
      | some c => some c
      | none => behind n b
  | _ => none
noncomputable def alike.rest : Code := (Try.f4.body.bind (behind 19)).getD .skip
set_option maxHeartbeats 8000000 in
set_option maxRecDepth 100000 in
theorem alike.tail_calls (k : Nat) {xl yl : List S38} {A0 A1 : Option Addr} {c0 c1 g0 g1 : Nat} {x10 x15 r : Bool} {w wc : World} {v0 v1 v2 v3 v4 v5 v6 v9 v11 v12 v13 v14 v16 v17 v18 v19 v20 v21 v22 v23 v24 v25 v26 v27 v28 v29 v30 v31 v32 v33 v34 v35 v36 v37 v38 v39 v40 v41 v42 v43 v44 v45 v46 v47 v48 v49 v50 v51 v52 v53 v54 v55 v56 v57 v58 v59 v60 v61 v62 v63 v64 v65 v66 v67 v68 v69 v70 v71 v72 v73 v74 v75 v76 v77 v78 v79 v80 v81 v82 v83 v84 v85 v86 v87 v88 v89 v90 v91 v92 v93 v94 v95 v96 v97 v98 v99 v100 v101 v102 v103 v104 v105 v106 v107 v108 v109 v110 v111 v112 v113 v114 v115 v116 v117 v118 v119 v120 v121 v122 v123 v124 v125 v126 v127 v128 v129 v130 v131 v132 v133 v134 v135 v136 v137 v138 v139 v140 v141 v142 v143 v144 v145 v146 v147 v148 v149 v150 v151 v152 v153 v154 v155 v156 v157 v158 v159 v160 v161 v162 v163 v164 : Value}
    (hx0 : xl.length ≤ c0) (hx : Kd.F k38 wc (fun k => k < wc.heap.size) A0 xl.length xl) (hy0 : yl.length ≤ c1) (hy : Kd.F k38 wc (fun k => k < wc.heap.size) A1 yl.length yl)
    (hb0 : wc.heap[g0]? = some (.cells #[.slice A0 xl.length c0, .slice none 0 0, .int .i64 0, .int .i64 0, .int .i64 0] 30 (0, 0)))
    (hb1 : wc.heap[g1]? = some (.cells #[.slice A1 yl.length c1, .slice none 0 0, .int .i64 0, .int .i64 0, .int .i64 0] 30 (0, 0)))
    (hB : Below w.heap.size w wc) (H : alike.tail k x10 x15 xl yl = some r) :
    Code.wp Try.prog alike.rest (bodyPost Try.prog Try.f4 fun e w' => e = .returned (.bool r) ∧ Below w.heap.size w w') ⟨#[v0, v1, v2, v3, v4, v5, v6, .pointer (some ⟨g0, 0, none⟩), .pointer (some ⟨g1, 0, none⟩), v9, .bool x10, v11, v12, v13, v14, .bool x15, v16, v17, v18, v19, v20, v21, v22, v23, v24, v25, v26, v27, v28, v29, v30, v31, v32, v33, v34, v35, v36, v37, v38, v39, v40, v41, v42, v43, v44, v45, v46, v47, v48, v49, v50, v51, v52, v53, v54, v55, v56, v57, v58, v59, v60, v61, v62, v63, v64, v65, v66, v67, v68, v69, v70, v71, v72, v73, v74, v75, v76, v77, v78, v79, v80, v81, v82, v83, v84, v85, v86, v87, v88, v89, v90, v91, v92, v93, v94, v95, v96, v97, v98, v99, v100, v101, v102, v103, v104, v105, v106, v107, v108, v109, v110, v111, v112, v113, v114, v115, v116, v117, v118, v119, v120, v121, v122, v123, v124, v125, v126, v127, v128, v129, v130, v131, v132, v133, v134, v135, v136, v137, v138, v139, v140, v141, v142, v143, v144, v145, v146, v147, v148, v149, v150, v151, v152, v153, v154, v155, v156, v157, v158, v159, v160, v161, v162, v163, v164], []⟩ wc := by
  have HX := Aside0.mk hx
  have HY := Aside0.mk hy
  have HX0 := Aside0.mk hx0
  have HY0 := Aside0.mk hy0
  have HB0 := Aside0.mk hb0
  have HB1 := Aside0.mk hb1
  have HB := Aside0.mk hB
  clear hx hy hx0 hy0 hb0 hb1 hB
  unfold alike.tail at H
  obtain ⟨t1, h1, H⟩ := Option.bind_eq_some_iff.mp H
  by_cases hp1 : 0 < (t1.length : Int)
  case neg => rw [if_neg hp1] at H; cases H
  rw [if_pos hp1] at H
  obtain ⟨t2, h2, H⟩ := Option.bind_eq_some_iff.mp H
  by_cases hp2 : 0 < (t2.length : Int)
  case neg => rw [if_neg hp2] at H; cases H
  rw [if_pos hp2] at H
  obtain ⟨cs, h3, H⟩ := Option.bind_eq_some_iff.mp H
  obtain ⟨⟨pl, pb⟩, h4, H⟩ := Option.bind_eq_some_iff.mp H
  obtain ⟨e1, h5, H⟩ := Option.bind_eq_some_iff.mp H
  simp only at H
  have H1 := Aside0.mk h1
  have H2 := Aside0.mk h2
  have H3 := Aside0.mk h3
  have H4 := Aside0.mk h4
  have H5 := Aside0.mk h5
  have HH := Aside0.mk H
  have HP1 := Aside0.mk hp1
  have HP2 := Aside0.mk hp2
  clear h1 h2 h3 h4 h5 H hp1 hp2
  conv => arg 2; whnf
  go_wp2
  refine alike.reg20 k (t1 := t1) (t2 := t2) (by kernel_rfl) rfl rfl HX0.out HX.out HY0.out HY.out HB0.out HB1.out H1.out (by have := HP1.out; omega) H2.out (by have := HP2.out; omega) ?_
  intro v107 v108 v109 v110 v111 v112 v113 v114 v115 v116 g16 g17 w2 hR
  simp only [Act.put, List.setIfInBounds_toArray, List.set_cons_zero, List.set_cons_succ]
  obtain ⟨cp, hFp, hz16⟩ := hR.p16 rfl rfl
  obtain ⟨cq, hFq, hz17⟩ := hR.p17 rfl rfl
  have hW := below_then HB.out (Below.size HB.out) hR.below
  obtain ⟨P, hP⟩ : ∃ P, P = rd_T39 t1 0 := ⟨_, rfl⟩
  obtain ⟨R, hQ⟩ : ∃ R, R = rd_T39 t2 0 := ⟨_, rfl⟩
  rw [← hP] at hFp
  rw [← hQ] at hFq
  have h3 := H3.out
  have h4 := H4.out
  have h5 := H5.out
  have hh := HH.out
  rw [← hP, ← hQ] at h3 h4 h5 hh
  obtain ⟨B0, d0, B1, d1, rfl, _, _, _, _⟩ := k39_openF hFp
  obtain ⟨E0, f0, E1, f1, rfl, _, _, _, _⟩ := k39_openF hFq
  have Zp2 := Aside0.mk hz16
  have Zq2 := Aside0.mk hz17
  have Fp2 := Aside0.mk hFp
  have Fq2 := Aside0.mk hFq
  have HW2 := Aside0.mk hW
  have K3 : Aside0 (replace_Conflicts.f k [P] R.f0.f0 R.f0.f1 R.f0.f2 R.f1 R.f2 = some cs) := ⟨h3⟩
  have K4 : Aside0 (replace_Put.f k [P] R.f0.f0 R.f0.f1 R.f0.f2 R.f1 R.f2 = some (pl, pb)) := ⟨h4⟩
  have K5 := Aside0.mk h5
  have HT := Aside0.mk hh
  clear hR hFp hFq hz16 hz17 hW h3 h4 h5 hh hP hQ H1 H2 H3 H4 H5 HH HP1 HP2 HX HY HX0 HY0 HB0 HB1 HB
  have hcp2_0 : w2.cell? ⟨g16, 0, none⟩ = some (.slice B0 P.f0.f0.length d0) := (blk_cell Zp2.out 0).trans rfl
  have hcp2_1 : w2.cell? ⟨g16, 1, none⟩ = some (.slice B1 P.f0.f1.length d1) := (blk_cell Zp2.out 1).trans rfl
  have hcp2_2 : w2.cell? ⟨g16, 2, none⟩ = some (.int .i64 P.f0.f2) := (blk_cell Zp2.out 2).trans rfl
  have hcp2_3 : w2.cell? ⟨g16, 3, none⟩ = some (.int .i64 P.f1) := (blk_cell Zp2.out 3).trans rfl
  have hcp2_4 : w2.cell? ⟨g16, 4, none⟩ = some (.int .i64 P.f2) := (blk_cell Zp2.out 4).trans rfl
  have hcq2_0 : w2.cell? ⟨g17, 0, none⟩ = some (.slice E0 R.f0.f0.length f0) := (blk_cell Zq2.out 0).trans rfl
  have hcq2_1 : w2.cell? ⟨g17, 1, none⟩ = some (.slice E1 R.f0.f1.length f1) := (blk_cell Zq2.out 1).trans rfl
  have hcq2_2 : w2.cell? ⟨g17, 2, none⟩ = some (.int .i64 R.f0.f2) := (blk_cell Zq2.out 2).trans rfl
  have hcq2_3 : w2.cell? ⟨g17, 3, none⟩ = some (.int .i64 R.f1) := (blk_cell Zq2.out 3).trans rfl
  have hcq2_4 : w2.cell? ⟨g17, 4, none⟩ = some (.int .i64 R.f2) := (blk_cell Zq2.out 4).trans rfl
  have pc0 : ∀ {W : World} {ok : Nat → Prop} {x : S39} {A0 A1 : Option Addr} {c0 c1 : Nat}, Kd.FK k39 W ok x [.slice A0 x.f0.f0.length c0, .slice A1 x.f0.f1.length c1, .int .i64 x.f0.f2, .int .i64 x.f1, .int .i64 x.f2] → Kd.C k38 W A0 x.f0.f0.length x.f0.f0 ∧ x.f0.f0.length ≤ c0 ∧ Kd.C k64 W A1 x.f0.f1.length x.f0.f1 ∧ x.f0.f1.length ≤ c1 := fun h => by obtain ⟨A, c, A', c', he, l0, g0, l1, g1⟩ := k39_openF h; simp only [List.cons.injEq, Value.slice.injEq, true_and] at he; obtain ⟨⟨rfl, rfl⟩, ⟨rfl, rfl⟩, _⟩ := he; exact ⟨Kd.F_now g0, l0, Kd.F_now g1, l1⟩
  have PC := Aside0.mk @pc0
  clear pc0
  go_wp2_with (first | ((with_reducible refine gate_dst (N := 118) rfl ?_); refine Kd.N_lit k39 (w0 := w2) w2.heap.size 39 ?hg (N' := 118) ?hd (xs := [P]) (inner := [.slice B0 P.f0.f0.length d0, .slice B1 P.f0.f1.length d1, .int .i64 P.f0.f2, .int .i64 P.f1, .int .i64 P.f2]) (ok := fun _ => True) (okp := okb true true g16 g17) ?hr ?hp (fun _ _ => trivial) trivial (Below.refl _ _) (Nat.le_refl _) (by simp) ?_; (case hd => rfl); (case hg => rfl); (case hr => first | (go_simp; done) | (go_simp; rfl)); (case hp => exact (Reps.c5 Fp2.out (Reps.none _ _))); intro vl3 w3 hN hb3 hg_ hnew_; clear hg_ hnew_; obtain ⟨Al3, cl3, hv_, hl_, hC_⟩ := Kd.N_reads hN; subst hv_; have NC3 := Aside0.mk hC_; have NL3 := Aside0.mk hl_; clear hN hC_ hl_; have Zp3 := Aside0.mk (blk_below Zp2.out hb3); have Zq3 := Aside0.mk (blk_below Zq2.out hb3); have Fp3 := Aside0.mk (Kd.FK_below Fp2.out hb3); have Fq3 := Aside0.mk (Kd.FK_below Fq2.out hb3); have HW3 := Aside0.mk (below_step HW2.out hb3); clear hcp2_0 hcq2_0 hcp2_1 hcq2_1 hcp2_2 hcq2_2 hcp2_3 hcq2_3 hcp2_4 hcq2_4; clear hb3 Zp2 Zq2 Fp2 Fq2 HW2; have hcp3_0 : w3.cell? ⟨g16, 0, none⟩ = some (.slice B0 P.f0.f0.length d0) := (blk_cell Zp3.out 0).trans rfl; have hcp3_1 : w3.cell? ⟨g16, 1, none⟩ = some (.slice B1 P.f0.f1.length d1) := (blk_cell Zp3.out 1).trans rfl; have hcp3_2 : w3.cell? ⟨g16, 2, none⟩ = some (.int .i64 P.f0.f2) := (blk_cell Zp3.out 2).trans rfl; have hcp3_3 : w3.cell? ⟨g16, 3, none⟩ = some (.int .i64 P.f1) := (blk_cell Zp3.out 3).trans rfl; have hcp3_4 : w3.cell? ⟨g16, 4, none⟩ = some (.int .i64 P.f2) := (blk_cell Zp3.out 4).trans rfl; have hcq3_0 : w3.cell? ⟨g17, 0, none⟩ = some (.slice E0 R.f0.f0.length f0) := (blk_cell Zq3.out 0).trans rfl; have hcq3_1 : w3.cell? ⟨g17, 1, none⟩ = some (.slice E1 R.f0.f1.length f1) := (blk_cell Zq3.out 1).trans rfl; have hcq3_2 : w3.cell? ⟨g17, 2, none⟩ = some (.int .i64 R.f0.f2) := (blk_cell Zq3.out 2).trans rfl; have hcq3_3 : w3.cell? ⟨g17, 3, none⟩ = some (.int .i64 R.f1) := (blk_cell Zq3.out 3).trans rfl; have hcq3_4 : w3.cell? ⟨g17, 4, none⟩ = some (.int .i64 R.f2) := (blk_cell Zq3.out 4).trans rfl) | (go_at_call 13; refine (replace_Conflicts.calls k Al3 cl3 [P] E0 f0 R.f0.f0 E1 f1 R.f0.f1 R.f0.f2 R.f1 R.f2 cs w3 NC3.out NL3.out (PC.out Fq3.out).1 (PC.out Fq3.out).2.1 (PC.out Fq3.out).2.2.1 (PC.out Fq3.out).2.2.2 K3.out).mono ?_; rintro e w4 ⟨vc, rfl, hRc, hb4⟩; obtain ⟨Ac, cc, hvc⟩ := Kd.R_slice hRc; subst hvc; clear hRc; have Zp4 := Aside0.mk (blk_below Zp3.out hb4); have Zq4 := Aside0.mk (blk_below Zq3.out hb4); have Fp4 := Aside0.mk (Kd.FK_below Fp3.out hb4); have Fq4 := Aside0.mk (Kd.FK_below Fq3.out hb4); have HW4 := Aside0.mk (below_step HW3.out hb4); clear hcp3_0 hcq3_0 hcp3_1 hcq3_1 hcp3_2 hcq3_2 hcp3_3 hcq3_3 hcp3_4 hcq3_4; clear hb4 Zp3 Zq3 Fp3 Fq3 HW3; have hcp4_0 : w4.cell? ⟨g16, 0, none⟩ = some (.slice B0 P.f0.f0.length d0) := (blk_cell Zp4.out 0).trans rfl; have hcp4_1 : w4.cell? ⟨g16, 1, none⟩ = some (.slice B1 P.f0.f1.length d1) := (blk_cell Zp4.out 1).trans rfl; have hcp4_2 : w4.cell? ⟨g16, 2, none⟩ = some (.int .i64 P.f0.f2) := (blk_cell Zp4.out 2).trans rfl; have hcp4_3 : w4.cell? ⟨g16, 3, none⟩ = some (.int .i64 P.f1) := (blk_cell Zp4.out 3).trans rfl; have hcp4_4 : w4.cell? ⟨g16, 4, none⟩ = some (.int .i64 P.f2) := (blk_cell Zp4.out 4).trans rfl; have hcq4_0 : w4.cell? ⟨g17, 0, none⟩ = some (.slice E0 R.f0.f0.length f0) := (blk_cell Zq4.out 0).trans rfl; have hcq4_1 : w4.cell? ⟨g17, 1, none⟩ = some (.slice E1 R.f0.f1.length f1) := (blk_cell Zq4.out 1).trans rfl; have hcq4_2 : w4.cell? ⟨g17, 2, none⟩ = some (.int .i64 R.f0.f2) := (blk_cell Zq4.out 2).trans rfl; have hcq4_3 : w4.cell? ⟨g17, 3, none⟩ = some (.int .i64 R.f1) := (blk_cell Zq4.out 3).trans rfl; have hcq4_4 : w4.cell? ⟨g17, 4, none⟩ = some (.int .i64 R.f2) := (blk_cell Zq4.out 4).trans rfl) | ((with_reducible refine gate_dst (N := 123) rfl ?_); refine Kd.N_lit k39 (w0 := w4) w4.heap.size 39 ?hg (N' := 123) ?hd (xs := [P]) (inner := [.slice B0 P.f0.f0.length d0, .slice B1 P.f0.f1.length d1, .int .i64 P.f0.f2, .int .i64 P.f1, .int .i64 P.f2]) (ok := fun _ => True) (okp := okb true true g16 g17) ?hr ?hp (fun _ _ => trivial) trivial (Below.refl _ _) (Nat.le_refl _) (by simp) ?_; (case hd => rfl); (case hg => rfl); (case hr => first | (go_simp; done) | (go_simp; rfl)); (case hp => exact (Reps.c5 Fp4.out (Reps.none _ _))); intro vl5 w5 hN hb5 hg_ hnew_; clear hg_ hnew_; obtain ⟨Al5, cl5, hv_, hl_, hC_⟩ := Kd.N_reads hN; subst hv_; have NC5 := Aside0.mk hC_; have NL5 := Aside0.mk hl_; clear hN hC_ hl_; have Zp5 := Aside0.mk (blk_below Zp4.out hb5); have Zq5 := Aside0.mk (blk_below Zq4.out hb5); have Fp5 := Aside0.mk (Kd.FK_below Fp4.out hb5); have Fq5 := Aside0.mk (Kd.FK_below Fq4.out hb5); have HW5 := Aside0.mk (below_step HW4.out hb5); clear hcp4_0 hcq4_0 hcp4_1 hcq4_1 hcp4_2 hcq4_2 hcp4_3 hcq4_3 hcp4_4 hcq4_4; clear hb5 Zp4 Zq4 Fp4 Fq4 HW4; have hcp5_0 : w5.cell? ⟨g16, 0, none⟩ = some (.slice B0 P.f0.f0.length d0) := (blk_cell Zp5.out 0).trans rfl; have hcp5_1 : w5.cell? ⟨g16, 1, none⟩ = some (.slice B1 P.f0.f1.length d1) := (blk_cell Zp5.out 1).trans rfl; have hcp5_2 : w5.cell? ⟨g16, 2, none⟩ = some (.int .i64 P.f0.f2) := (blk_cell Zp5.out 2).trans rfl; have hcp5_3 : w5.cell? ⟨g16, 3, none⟩ = some (.int .i64 P.f1) := (blk_cell Zp5.out 3).trans rfl; have hcp5_4 : w5.cell? ⟨g16, 4, none⟩ = some (.int .i64 P.f2) := (blk_cell Zp5.out 4).trans rfl; have hcq5_0 : w5.cell? ⟨g17, 0, none⟩ = some (.slice E0 R.f0.f0.length f0) := (blk_cell Zq5.out 0).trans rfl; have hcq5_1 : w5.cell? ⟨g17, 1, none⟩ = some (.slice E1 R.f0.f1.length f1) := (blk_cell Zq5.out 1).trans rfl; have hcq5_2 : w5.cell? ⟨g17, 2, none⟩ = some (.int .i64 R.f0.f2) := (blk_cell Zq5.out 2).trans rfl; have hcq5_3 : w5.cell? ⟨g17, 3, none⟩ = some (.int .i64 R.f1) := (blk_cell Zq5.out 3).trans rfl; have hcq5_4 : w5.cell? ⟨g17, 4, none⟩ = some (.int .i64 R.f2) := (blk_cell Zq5.out 4).trans rfl) | (go_at_call 15; refine (replace_Put.calls k Al5 cl5 [P] E0 f0 R.f0.f0 E1 f1 R.f0.f1 R.f0.f2 R.f1 R.f2 pl pb w5 NC5.out NL5.out (PC.out Fq5.out).1 (PC.out Fq5.out).2.1 (PC.out Fq5.out).2.2.1 (PC.out Fq5.out).2.2.2 K4.out).mono ?_; rintro e w6 ⟨vp, rfl, hRp, hb6⟩; obtain ⟨Ap, cap, hvp⟩ := Kd.R_slice hRp; subst hvp; clear hRp; have Zp6 := Aside0.mk (blk_below Zp5.out hb6); have Zq6 := Aside0.mk (blk_below Zq5.out hb6); have Fp6 := Aside0.mk (Kd.FK_below Fp5.out hb6); have Fq6 := Aside0.mk (Kd.FK_below Fq5.out hb6); have HW6 := Aside0.mk (below_step HW5.out hb6); clear hcp5_0 hcq5_0 hcp5_1 hcq5_1 hcp5_2 hcq5_2 hcp5_3 hcq5_3 hcp5_4 hcq5_4; clear hb6 Zp5 Zq5 Fp5 Fq5 HW5; have hcp6_0 : w6.cell? ⟨g16, 0, none⟩ = some (.slice B0 P.f0.f0.length d0) := (blk_cell Zp6.out 0).trans rfl; have hcp6_1 : w6.cell? ⟨g16, 1, none⟩ = some (.slice B1 P.f0.f1.length d1) := (blk_cell Zp6.out 1).trans rfl; have hcp6_2 : w6.cell? ⟨g16, 2, none⟩ = some (.int .i64 P.f0.f2) := (blk_cell Zp6.out 2).trans rfl; have hcp6_3 : w6.cell? ⟨g16, 3, none⟩ = some (.int .i64 P.f1) := (blk_cell Zp6.out 3).trans rfl; have hcp6_4 : w6.cell? ⟨g16, 4, none⟩ = some (.int .i64 P.f2) := (blk_cell Zp6.out 4).trans rfl; have hcq6_0 : w6.cell? ⟨g17, 0, none⟩ = some (.slice E0 R.f0.f0.length f0) := (blk_cell Zq6.out 0).trans rfl; have hcq6_1 : w6.cell? ⟨g17, 1, none⟩ = some (.slice E1 R.f0.f1.length f1) := (blk_cell Zq6.out 1).trans rfl; have hcq6_2 : w6.cell? ⟨g17, 2, none⟩ = some (.int .i64 R.f0.f2) := (blk_cell Zq6.out 2).trans rfl; have hcq6_3 : w6.cell? ⟨g17, 3, none⟩ = some (.int .i64 R.f1) := (blk_cell Zq6.out 3).trans rfl; have hcq6_4 : w6.cell? ⟨g17, 4, none⟩ = some (.int .i64 R.f2) := (blk_cell Zq6.out 4).trans rfl))
  go_at_call 16
  refine (replace_Alike.calls k B0 d0 P.f0.f0 B1 d1 P.f0.f1 P.f0.f2 P.f1 P.f2 E0 f0 R.f0.f0 E1 f1 R.f0.f1 R.f0.f2 R.f1 R.f2 e1 w6 (PC.out Fp6.out).1 (PC.out Fp6.out).2.1 (PC.out Fp6.out).2.2.1 (PC.out Fp6.out).2.2.2 (PC.out Fq6.out).1 (PC.out Fq6.out).2.1 (PC.out Fq6.out).2.2.1 (PC.out Fq6.out).2.2.2 K5.out).mono ?_
  rintro e w7 ⟨rfl, hb7⟩
  have Zp7 := Aside0.mk (blk_below Zp6.out hb7)
  have Zq7 := Aside0.mk (blk_below Zq6.out hb7)
  have Fp7 := Aside0.mk (Kd.FK_below Fp6.out hb7)
  have Fq7 := Aside0.mk (Kd.FK_below Fq6.out hb7)
  have HW7 := Aside0.mk (below_step HW6.out hb7)
  clear hcp6_0 hcq6_0 hcp6_1 hcq6_1 hcp6_2 hcq6_2 hcp6_3 hcq6_3 hcp6_4 hcq6_4
  clear hb7 Zp6 Zq6 Fp6 Fq6 HW6
  have hcp7_0 : w7.cell? ⟨g16, 0, none⟩ = some (.slice B0 P.f0.f0.length d0) := (blk_cell Zp7.out 0).trans rfl
  have hcp7_1 : w7.cell? ⟨g16, 1, none⟩ = some (.slice B1 P.f0.f1.length d1) := (blk_cell Zp7.out 1).trans rfl
  have hcp7_2 : w7.cell? ⟨g16, 2, none⟩ = some (.int .i64 P.f0.f2) := (blk_cell Zp7.out 2).trans rfl
  have hcp7_3 : w7.cell? ⟨g16, 3, none⟩ = some (.int .i64 P.f1) := (blk_cell Zp7.out 3).trans rfl
  have hcp7_4 : w7.cell? ⟨g16, 4, none⟩ = some (.int .i64 P.f2) := (blk_cell Zp7.out 4).trans rfl
  have hcq7_0 : w7.cell? ⟨g17, 0, none⟩ = some (.slice E0 R.f0.f0.length f0) := (blk_cell Zq7.out 0).trans rfl
  have hcq7_1 : w7.cell? ⟨g17, 1, none⟩ = some (.slice E1 R.f0.f1.length f1) := (blk_cell Zq7.out 1).trans rfl
  have hcq7_2 : w7.cell? ⟨g17, 2, none⟩ = some (.int .i64 R.f0.f2) := (blk_cell Zq7.out 2).trans rfl
  have hcq7_3 : w7.cell? ⟨g17, 3, none⟩ = some (.int .i64 R.f1) := (blk_cell Zq7.out 3).trans rfl
  have hcq7_4 : w7.cell? ⟨g17, 4, none⟩ = some (.int .i64 R.f2) := (blk_cell Zq7.out 4).trans rfl
  have hh := HT.out
  clear HT
  by_cases q1 : (e1 == x15) = true
  case neg =>
    rw [if_neg q1] at hh
    obtain rfl := Option.some.inj hh
    clear hh
    cases e1 <;> cases x15 <;> first | exact absurd rfl q1 | (clear q1; go_wp2; go_ret; exact ⟨rfl, HW7.out⟩)
  rw [if_pos q1] at hh
  obtain ⟨e2, h6, hi⟩ := Option.bind_eq_some_iff.mp hh
  clear hh
  have hh := hi
  clear hi
  have K6 := Aside0.mk h6
  clear h6
  obtain rfl : e1 = x15 := by simpa using q1
  clear q1
  by_cases q2 : (e2 == e1) = true
  case neg =>
    rw [if_neg q2] at hh
    obtain rfl := Option.some.inj hh
    clear hh
    cases e1 <;> cases e2 <;> first | exact absurd rfl q2 | (clear q2; go_wp2_with (first | (go_at_call 16; refine (replace_Alike.calls k E0 f0 R.f0.f0 E1 f1 R.f0.f1 R.f0.f2 R.f1 R.f2 B0 d0 P.f0.f0 B1 d1 P.f0.f1 P.f0.f2 P.f1 P.f2 _ w7 (PC.out Fq7.out).1 (PC.out Fq7.out).2.1 (PC.out Fq7.out).2.2.1 (PC.out Fq7.out).2.2.2 (PC.out Fp7.out).1 (PC.out Fp7.out).2.1 (PC.out Fp7.out).2.2.1 (PC.out Fp7.out).2.2.2 K6.out).mono ?_; rintro e w8 ⟨rfl, hb8⟩; have Zp8 := Aside0.mk (blk_below Zp7.out hb8); have Zq8 := Aside0.mk (blk_below Zq7.out hb8); have Fp8 := Aside0.mk (Kd.FK_below Fp7.out hb8); have Fq8 := Aside0.mk (Kd.FK_below Fq7.out hb8); have HW8 := Aside0.mk (below_step HW7.out hb8); clear hcp7_0 hcq7_0 hcp7_1 hcq7_1 hcp7_2 hcq7_2 hcp7_3 hcq7_3 hcp7_4 hcq7_4; clear hb8 Zp7 Zq7 Fp7 Fq7 HW7; have hcp8_0 : w8.cell? ⟨g16, 0, none⟩ = some (.slice B0 P.f0.f0.length d0) := (blk_cell Zp8.out 0).trans rfl; have hcp8_1 : w8.cell? ⟨g16, 1, none⟩ = some (.slice B1 P.f0.f1.length d1) := (blk_cell Zp8.out 1).trans rfl; have hcp8_2 : w8.cell? ⟨g16, 2, none⟩ = some (.int .i64 P.f0.f2) := (blk_cell Zp8.out 2).trans rfl; have hcp8_3 : w8.cell? ⟨g16, 3, none⟩ = some (.int .i64 P.f1) := (blk_cell Zp8.out 3).trans rfl; have hcp8_4 : w8.cell? ⟨g16, 4, none⟩ = some (.int .i64 P.f2) := (blk_cell Zp8.out 4).trans rfl; have hcq8_0 : w8.cell? ⟨g17, 0, none⟩ = some (.slice E0 R.f0.f0.length f0) := (blk_cell Zq8.out 0).trans rfl; have hcq8_1 : w8.cell? ⟨g17, 1, none⟩ = some (.slice E1 R.f0.f1.length f1) := (blk_cell Zq8.out 1).trans rfl; have hcq8_2 : w8.cell? ⟨g17, 2, none⟩ = some (.int .i64 R.f0.f2) := (blk_cell Zq8.out 2).trans rfl; have hcq8_3 : w8.cell? ⟨g17, 3, none⟩ = some (.int .i64 R.f1) := (blk_cell Zq8.out 3).trans rfl; have hcq8_4 : w8.cell? ⟨g17, 4, none⟩ = some (.int .i64 R.f2) := (blk_cell Zq8.out 4).trans rfl)); go_ret; exact ⟨rfl, HW8.out⟩)
  rw [if_pos q2] at hh
  obtain rfl : e2 = e1 := by simpa using q2
  clear q2
  obtain ⟨n1, hn1⟩ : ∃ n1, n1 = ((cs.length : Int) == 1) := ⟨_, rfl⟩
  rw [← hn1] at hh
  have N1 : ((cs.length : Int) == 1) = n1 := hn1.symm
  have N1d : decide ((cs.length : Int) = 1) = n1 := by rw [hn1]; rfl
  clear hn1
  by_cases q3 : (n1 == x10) = true
  case neg =>
    rw [if_neg q3] at hh
    obtain rfl := Option.some.inj hh
    clear hh
    cases e2 <;> cases n1 <;> cases x10 <;> first | exact absurd rfl q3 | (clear q3; go_wp2_with (first | (go_at_call 16; refine (replace_Alike.calls k E0 f0 R.f0.f0 E1 f1 R.f0.f1 R.f0.f2 R.f1 R.f2 B0 d0 P.f0.f0 B1 d1 P.f0.f1 P.f0.f2 P.f1 P.f2 _ w7 (PC.out Fq7.out).1 (PC.out Fq7.out).2.1 (PC.out Fq7.out).2.2.1 (PC.out Fq7.out).2.2.2 (PC.out Fp7.out).1 (PC.out Fp7.out).2.1 (PC.out Fp7.out).2.2.1 (PC.out Fp7.out).2.2.2 K6.out).mono ?_; rintro e w8 ⟨rfl, hb8⟩; have Zp8 := Aside0.mk (blk_below Zp7.out hb8); have Zq8 := Aside0.mk (blk_below Zq7.out hb8); have Fp8 := Aside0.mk (Kd.FK_below Fp7.out hb8); have Fq8 := Aside0.mk (Kd.FK_below Fq7.out hb8); have HW8 := Aside0.mk (below_step HW7.out hb8); clear hcp7_0 hcq7_0 hcp7_1 hcq7_1 hcp7_2 hcq7_2 hcp7_3 hcq7_3 hcp7_4 hcq7_4; clear hb8 Zp7 Zq7 Fp7 Fq7 HW7; have hcp8_0 : w8.cell? ⟨g16, 0, none⟩ = some (.slice B0 P.f0.f0.length d0) := (blk_cell Zp8.out 0).trans rfl; have hcp8_1 : w8.cell? ⟨g16, 1, none⟩ = some (.slice B1 P.f0.f1.length d1) := (blk_cell Zp8.out 1).trans rfl; have hcp8_2 : w8.cell? ⟨g16, 2, none⟩ = some (.int .i64 P.f0.f2) := (blk_cell Zp8.out 2).trans rfl; have hcp8_3 : w8.cell? ⟨g16, 3, none⟩ = some (.int .i64 P.f1) := (blk_cell Zp8.out 3).trans rfl; have hcp8_4 : w8.cell? ⟨g16, 4, none⟩ = some (.int .i64 P.f2) := (blk_cell Zp8.out 4).trans rfl; have hcq8_0 : w8.cell? ⟨g17, 0, none⟩ = some (.slice E0 R.f0.f0.length f0) := (blk_cell Zq8.out 0).trans rfl; have hcq8_1 : w8.cell? ⟨g17, 1, none⟩ = some (.slice E1 R.f0.f1.length f1) := (blk_cell Zq8.out 1).trans rfl; have hcq8_2 : w8.cell? ⟨g17, 2, none⟩ = some (.int .i64 R.f0.f2) := (blk_cell Zq8.out 2).trans rfl; have hcq8_3 : w8.cell? ⟨g17, 3, none⟩ = some (.int .i64 R.f1) := (blk_cell Zq8.out 3).trans rfl; have hcq8_4 : w8.cell? ⟨g17, 4, none⟩ = some (.int .i64 R.f2) := (blk_cell Zq8.out 4).trans rfl)); go_ret; exact ⟨rfl, HW8.out⟩)
  rw [if_pos q3] at hh
  obtain rfl : n1 = x10 := by simpa using q3
  clear q3
  by_cases q4 : (pb == (!n1)) = true
  case neg =>
    rw [if_neg q4] at hh
    obtain rfl := Option.some.inj hh
    clear hh
    cases e2 <;> cases n1 <;> cases pb <;> first | exact absurd rfl q4 | (clear q4; go_wp2_with (first | (go_at_call 16; refine (replace_Alike.calls k E0 f0 R.f0.f0 E1 f1 R.f0.f1 R.f0.f2 R.f1 R.f2 B0 d0 P.f0.f0 B1 d1 P.f0.f1 P.f0.f2 P.f1 P.f2 _ w7 (PC.out Fq7.out).1 (PC.out Fq7.out).2.1 (PC.out Fq7.out).2.2.1 (PC.out Fq7.out).2.2.2 (PC.out Fp7.out).1 (PC.out Fp7.out).2.1 (PC.out Fp7.out).2.2.1 (PC.out Fp7.out).2.2.2 K6.out).mono ?_; rintro e w8 ⟨rfl, hb8⟩; have Zp8 := Aside0.mk (blk_below Zp7.out hb8); have Zq8 := Aside0.mk (blk_below Zq7.out hb8); have Fp8 := Aside0.mk (Kd.FK_below Fp7.out hb8); have Fq8 := Aside0.mk (Kd.FK_below Fq7.out hb8); have HW8 := Aside0.mk (below_step HW7.out hb8); clear hcp7_0 hcq7_0 hcp7_1 hcq7_1 hcp7_2 hcq7_2 hcp7_3 hcq7_3 hcp7_4 hcq7_4; clear hb8 Zp7 Zq7 Fp7 Fq7 HW7; have hcp8_0 : w8.cell? ⟨g16, 0, none⟩ = some (.slice B0 P.f0.f0.length d0) := (blk_cell Zp8.out 0).trans rfl; have hcp8_1 : w8.cell? ⟨g16, 1, none⟩ = some (.slice B1 P.f0.f1.length d1) := (blk_cell Zp8.out 1).trans rfl; have hcp8_2 : w8.cell? ⟨g16, 2, none⟩ = some (.int .i64 P.f0.f2) := (blk_cell Zp8.out 2).trans rfl; have hcp8_3 : w8.cell? ⟨g16, 3, none⟩ = some (.int .i64 P.f1) := (blk_cell Zp8.out 3).trans rfl; have hcp8_4 : w8.cell? ⟨g16, 4, none⟩ = some (.int .i64 P.f2) := (blk_cell Zp8.out 4).trans rfl; have hcq8_0 : w8.cell? ⟨g17, 0, none⟩ = some (.slice E0 R.f0.f0.length f0) := (blk_cell Zq8.out 0).trans rfl; have hcq8_1 : w8.cell? ⟨g17, 1, none⟩ = some (.slice E1 R.f0.f1.length f1) := (blk_cell Zq8.out 1).trans rfl; have hcq8_2 : w8.cell? ⟨g17, 2, none⟩ = some (.int .i64 R.f0.f2) := (blk_cell Zq8.out 2).trans rfl; have hcq8_3 : w8.cell? ⟨g17, 3, none⟩ = some (.int .i64 R.f1) := (blk_cell Zq8.out 3).trans rfl; have hcq8_4 : w8.cell? ⟨g17, 4, none⟩ = some (.int .i64 R.f2) := (blk_cell Zq8.out 4).trans rfl)); go_ret; exact ⟨rfl, HW8.out⟩)
  rw [if_pos q4] at hh
  cases pb
  case false =>
    rw [if_neg (by decide)] at hh
    obtain ⟨r1, h9, hi⟩ := Option.bind_eq_some_iff.mp hh
    clear hh
    have hh := hi
    clear hi
    obtain rfl := Option.some.inj hh
    have K9 := Aside0.mk h9
    clear hh h9
    cases e2 <;> cases n1 <;> first | exact absurd q4 (by decide) | (clear q4; go_wp2_with (first | (go_at_call 16; refine (replace_Alike.calls k E0 f0 R.f0.f0 E1 f1 R.f0.f1 R.f0.f2 R.f1 R.f2 B0 d0 P.f0.f0 B1 d1 P.f0.f1 P.f0.f2 P.f1 P.f2 _ w7 (PC.out Fq7.out).1 (PC.out Fq7.out).2.1 (PC.out Fq7.out).2.2.1 (PC.out Fq7.out).2.2.2 (PC.out Fp7.out).1 (PC.out Fp7.out).2.1 (PC.out Fp7.out).2.2.1 (PC.out Fp7.out).2.2.2 K6.out).mono ?_; rintro e w8 ⟨rfl, hb8⟩; have Zp8 := Aside0.mk (blk_below Zp7.out hb8); have Zq8 := Aside0.mk (blk_below Zq7.out hb8); have Fp8 := Aside0.mk (Kd.FK_below Fp7.out hb8); have Fq8 := Aside0.mk (Kd.FK_below Fq7.out hb8); have HW8 := Aside0.mk (below_step HW7.out hb8); clear hcp7_0 hcq7_0 hcp7_1 hcq7_1 hcp7_2 hcq7_2 hcp7_3 hcq7_3 hcp7_4 hcq7_4; clear hb8 Zp7 Zq7 Fp7 Fq7 HW7; have hcp8_0 : w8.cell? ⟨g16, 0, none⟩ = some (.slice B0 P.f0.f0.length d0) := (blk_cell Zp8.out 0).trans rfl; have hcp8_1 : w8.cell? ⟨g16, 1, none⟩ = some (.slice B1 P.f0.f1.length d1) := (blk_cell Zp8.out 1).trans rfl; have hcp8_2 : w8.cell? ⟨g16, 2, none⟩ = some (.int .i64 P.f0.f2) := (blk_cell Zp8.out 2).trans rfl; have hcp8_3 : w8.cell? ⟨g16, 3, none⟩ = some (.int .i64 P.f1) := (blk_cell Zp8.out 3).trans rfl; have hcp8_4 : w8.cell? ⟨g16, 4, none⟩ = some (.int .i64 P.f2) := (blk_cell Zp8.out 4).trans rfl; have hcq8_0 : w8.cell? ⟨g17, 0, none⟩ = some (.slice E0 R.f0.f0.length f0) := (blk_cell Zq8.out 0).trans rfl; have hcq8_1 : w8.cell? ⟨g17, 1, none⟩ = some (.slice E1 R.f0.f1.length f1) := (blk_cell Zq8.out 1).trans rfl; have hcq8_2 : w8.cell? ⟨g17, 2, none⟩ = some (.int .i64 R.f0.f2) := (blk_cell Zq8.out 2).trans rfl; have hcq8_3 : w8.cell? ⟨g17, 3, none⟩ = some (.int .i64 R.f1) := (blk_cell Zq8.out 3).trans rfl; have hcq8_4 : w8.cell? ⟨g17, 4, none⟩ = some (.int .i64 R.f2) := (blk_cell Zq8.out 4).trans rfl) | (go_at_call 9; refine (coraclelaw18_awake.calls k _ w8 K9.out).mono ?_; rintro e w9 ⟨rfl, hb9⟩; have HW9 := Aside0.mk (below_step HW8.out hb9); clear HW8 hb9)); go_ret; exact ⟨rfl, HW9.out⟩)
  case true =>
    rw [if_pos rfl] at hh
    obtain rfl : n1 = false := by simpa using q4
    clear q4
    by_cases q5 : (pl.length : Int) = 2
    case neg =>
      rw [if_neg q5] at hh
      obtain rfl := Option.some.inj hh
      clear hh
      have M1 : ((pl.length : Int) == 2) = false := beq_eq_false_iff_ne.mpr q5
      have M1d : decide ((pl.length : Int) = 2) = false := decide_eq_false q5
      clear q5
      cases e2 <;> (go_wp2_with (first | (go_at_call 16; refine (replace_Alike.calls k E0 f0 R.f0.f0 E1 f1 R.f0.f1 R.f0.f2 R.f1 R.f2 B0 d0 P.f0.f0 B1 d1 P.f0.f1 P.f0.f2 P.f1 P.f2 _ w7 (PC.out Fq7.out).1 (PC.out Fq7.out).2.1 (PC.out Fq7.out).2.2.1 (PC.out Fq7.out).2.2.2 (PC.out Fp7.out).1 (PC.out Fp7.out).2.1 (PC.out Fp7.out).2.2.1 (PC.out Fp7.out).2.2.2 K6.out).mono ?_; rintro e w8 ⟨rfl, hb8⟩; have Zp8 := Aside0.mk (blk_below Zp7.out hb8); have Zq8 := Aside0.mk (blk_below Zq7.out hb8); have Fp8 := Aside0.mk (Kd.FK_below Fp7.out hb8); have Fq8 := Aside0.mk (Kd.FK_below Fq7.out hb8); have HW8 := Aside0.mk (below_step HW7.out hb8); clear hcp7_0 hcq7_0 hcp7_1 hcq7_1 hcp7_2 hcq7_2 hcp7_3 hcq7_3 hcp7_4 hcq7_4; clear hb8 Zp7 Zq7 Fp7 Fq7 HW7; have hcp8_0 : w8.cell? ⟨g16, 0, none⟩ = some (.slice B0 P.f0.f0.length d0) := (blk_cell Zp8.out 0).trans rfl; have hcp8_1 : w8.cell? ⟨g16, 1, none⟩ = some (.slice B1 P.f0.f1.length d1) := (blk_cell Zp8.out 1).trans rfl; have hcp8_2 : w8.cell? ⟨g16, 2, none⟩ = some (.int .i64 P.f0.f2) := (blk_cell Zp8.out 2).trans rfl; have hcp8_3 : w8.cell? ⟨g16, 3, none⟩ = some (.int .i64 P.f1) := (blk_cell Zp8.out 3).trans rfl; have hcp8_4 : w8.cell? ⟨g16, 4, none⟩ = some (.int .i64 P.f2) := (blk_cell Zp8.out 4).trans rfl; have hcq8_0 : w8.cell? ⟨g17, 0, none⟩ = some (.slice E0 R.f0.f0.length f0) := (blk_cell Zq8.out 0).trans rfl; have hcq8_1 : w8.cell? ⟨g17, 1, none⟩ = some (.slice E1 R.f0.f1.length f1) := (blk_cell Zq8.out 1).trans rfl; have hcq8_2 : w8.cell? ⟨g17, 2, none⟩ = some (.int .i64 R.f0.f2) := (blk_cell Zq8.out 2).trans rfl; have hcq8_3 : w8.cell? ⟨g17, 3, none⟩ = some (.int .i64 R.f1) := (blk_cell Zq8.out 3).trans rfl; have hcq8_4 : w8.cell? ⟨g17, 4, none⟩ = some (.int .i64 R.f2) := (blk_cell Zq8.out 4).trans rfl)); go_ret; exact ⟨rfl, HW8.out⟩)
    rw [if_pos q5] at hh
    obtain ⟨r1, h9, hi⟩ := Option.bind_eq_some_iff.mp hh
    clear hh
    have hh := hi
    clear hi
    obtain rfl := Option.some.inj hh
    have K9 := Aside0.mk h9
    have M1 : ((pl.length : Int) == 2) = true := beq_iff_eq.mpr q5
    have M1d : decide ((pl.length : Int) = 2) = true := decide_eq_true q5
    clear hh h9 q5
    cases e2 <;> (go_wp2_with (first | (go_at_call 16; refine (replace_Alike.calls k E0 f0 R.f0.f0 E1 f1 R.f0.f1 R.f0.f2 R.f1 R.f2 B0 d0 P.f0.f0 B1 d1 P.f0.f1 P.f0.f2 P.f1 P.f2 _ w7 (PC.out Fq7.out).1 (PC.out Fq7.out).2.1 (PC.out Fq7.out).2.2.1 (PC.out Fq7.out).2.2.2 (PC.out Fp7.out).1 (PC.out Fp7.out).2.1 (PC.out Fp7.out).2.2.1 (PC.out Fp7.out).2.2.2 K6.out).mono ?_; rintro e w8 ⟨rfl, hb8⟩; have Zp8 := Aside0.mk (blk_below Zp7.out hb8); have Zq8 := Aside0.mk (blk_below Zq7.out hb8); have Fp8 := Aside0.mk (Kd.FK_below Fp7.out hb8); have Fq8 := Aside0.mk (Kd.FK_below Fq7.out hb8); have HW8 := Aside0.mk (below_step HW7.out hb8); clear hcp7_0 hcq7_0 hcp7_1 hcq7_1 hcp7_2 hcq7_2 hcp7_3 hcq7_3 hcp7_4 hcq7_4; clear hb8 Zp7 Zq7 Fp7 Fq7 HW7; have hcp8_0 : w8.cell? ⟨g16, 0, none⟩ = some (.slice B0 P.f0.f0.length d0) := (blk_cell Zp8.out 0).trans rfl; have hcp8_1 : w8.cell? ⟨g16, 1, none⟩ = some (.slice B1 P.f0.f1.length d1) := (blk_cell Zp8.out 1).trans rfl; have hcp8_2 : w8.cell? ⟨g16, 2, none⟩ = some (.int .i64 P.f0.f2) := (blk_cell Zp8.out 2).trans rfl; have hcp8_3 : w8.cell? ⟨g16, 3, none⟩ = some (.int .i64 P.f1) := (blk_cell Zp8.out 3).trans rfl; have hcp8_4 : w8.cell? ⟨g16, 4, none⟩ = some (.int .i64 P.f2) := (blk_cell Zp8.out 4).trans rfl; have hcq8_0 : w8.cell? ⟨g17, 0, none⟩ = some (.slice E0 R.f0.f0.length f0) := (blk_cell Zq8.out 0).trans rfl; have hcq8_1 : w8.cell? ⟨g17, 1, none⟩ = some (.slice E1 R.f0.f1.length f1) := (blk_cell Zq8.out 1).trans rfl; have hcq8_2 : w8.cell? ⟨g17, 2, none⟩ = some (.int .i64 R.f0.f2) := (blk_cell Zq8.out 2).trans rfl; have hcq8_3 : w8.cell? ⟨g17, 3, none⟩ = some (.int .i64 R.f1) := (blk_cell Zq8.out 3).trans rfl; have hcq8_4 : w8.cell? ⟨g17, 4, none⟩ = some (.int .i64 R.f2) := (blk_cell Zq8.out 4).trans rfl) | (go_at_call 9; refine (coraclelaw18_awake.calls k _ w8 K9.out).mono ?_; rintro e w9 ⟨rfl, hb9⟩; have HW9 := Aside0.mk (below_step HW8.out hb9); clear HW8 hb9)); go_ret; exact ⟨rfl, HW9.out⟩)
theorem alike.tail_K (k : Nat) {K : Act → World → Prop} {xl yl : List S38} {A0 A1 : Option Addr} {c0 c1 g0 g1 : Nat} {x10 x15 r : Bool} {w wc : World} {v0 v1 v2 v3 v4 v5 v6 v9 v11 v12 v13 v14 v16 v17 v18 v19 v20 v21 v22 v23 v24 v25 v26 v27 v28 v29 v30 v31 v32 v33 v34 v35 v36 v37 v38 v39 v40 v41 v42 v43 v44 v45 v46 v47 v48 v49 v50 v51 v52 v53 v54 v55 v56 v57 v58 v59 v60 v61 v62 v63 v64 v65 v66 v67 v68 v69 v70 v71 v72 v73 v74 v75 v76 v77 v78 v79 v80 v81 v82 v83 v84 v85 v86 v87 v88 v89 v90 v91 v92 v93 v94 v95 v96 v97 v98 v99 v100 v101 v102 v103 v104 v105 v106 v107 v108 v109 v110 v111 v112 v113 v114 v115 v116 v117 v118 v119 v120 v121 v122 v123 v124 v125 v126 v127 v128 v129 v130 v131 v132 v133 v134 v135 v136 v137 v138 v139 v140 v141 v142 v143 v144 v145 v146 v147 v148 v149 v150 v151 v152 v153 v154 v155 v156 v157 v158 v159 v160 v161 v162 v163 v164 : Value} (hK : ∀ (a : Act) (w' : World), Code.wp Try.prog alike.rest (bodyPost Try.prog Try.f4 fun e w' => e = .returned (.bool r) ∧ Below w.heap.size w w') a w' → K a w')
    (hx0 : xl.length ≤ c0) (hx : Kd.F k38 wc (fun k => k < wc.heap.size) A0 xl.length xl) (hy0 : yl.length ≤ c1) (hy : Kd.F k38 wc (fun k => k < wc.heap.size) A1 yl.length yl)
    (hb0 : wc.heap[g0]? = some (.cells #[.slice A0 xl.length c0, .slice none 0 0, .int .i64 0, .int .i64 0, .int .i64 0] 30 (0, 0)))
    (hb1 : wc.heap[g1]? = some (.cells #[.slice A1 yl.length c1, .slice none 0 0, .int .i64 0, .int .i64 0, .int .i64 0] 30 (0, 0)))
    (hB : Below w.heap.size w wc) (H : alike.tail k x10 x15 xl yl = some r) : K ⟨#[v0, v1, v2, v3, v4, v5, v6, .pointer (some ⟨g0, 0, none⟩), .pointer (some ⟨g1, 0, none⟩), v9, .bool x10, v11, v12, v13, v14, .bool x15, v16, v17, v18, v19, v20, v21, v22, v23, v24, v25, v26, v27, v28, v29, v30, v31, v32, v33, v34, v35, v36, v37, v38, v39, v40, v41, v42, v43, v44, v45, v46, v47, v48, v49, v50, v51, v52, v53, v54, v55, v56, v57, v58, v59, v60, v61, v62, v63, v64, v65, v66, v67, v68, v69, v70, v71, v72, v73, v74, v75, v76, v77, v78, v79, v80, v81, v82, v83, v84, v85, v86, v87, v88, v89, v90, v91, v92, v93, v94, v95, v96, v97, v98, v99, v100, v101, v102, v103, v104, v105, v106, v107, v108, v109, v110, v111, v112, v113, v114, v115, v116, v117, v118, v119, v120, v121, v122, v123, v124, v125, v126, v127, v128, v129, v130, v131, v132, v133, v134, v135, v136, v137, v138, v139, v140, v141, v142, v143, v144, v145, v146, v147, v148, v149, v150, v151, v152, v153, v154, v155, v156, v157, v158, v159, v160, v161, v162, v163, v164], []⟩ wc :=
  hK _ _ (alike.tail_calls k hx0 hx hy0 hy hb0 hb1 hB H)
end Go.Proofs.Ytiodebjjbgcbhaa.QRep
