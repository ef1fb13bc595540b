/- Functions of the program as plain Lean functions, and that its calls come to what these tell: written by a program of this session; Lean checks it. -/
import Derived.Test.YtiodebjjbgcbhaaQRepx0
import Derived.Test.YtiodebjjbgcbhaaQRepx3
import Derived.Test.YtiodebjjbgcbhaaQRepx6
import Derived.Test.YtiodebjjbgcbhaaQRepx7
namespace Go.Proofs.Ytiodebjjbgcbhaa.QRep
open Go.RowKit Go.Proofs.YtiodebjjbgcbhaaW.PrintWords Go.Proofs.YtiodebjjbgcbhaaW.PrintLast Go.Proofs.YtiodebjjbgcbhaaW.PrintMore
attribute [local go_sem] max2_int min2_int max_two min_two max_three min_three max_four min_four  run_fop run_feq run_fne run_flt run_fle run_fgt run_fge run_fint run_toi run_real' run_imag' run_complex' run_ceq run_cne run_cadd run_csub run_cmul Go.Proofs.Ytiodebjjbgcbhaa.Wide.cellsAt_drewN Go.Proofs.Ytiodebjjbgcbhaa.Wide.cellsAt_drew Go.Proofs.Ytiodebjjbgcbhaa.Wide.lw32 Go.Proofs.Ytiodebjjbgcbhaa.Wide.lw33 Go.Proofs.Ytiodebjjbgcbhaa.Wide.lw37 Go.Proofs.Ytiodebjjbgcbhaa.Wide.lw38 Go.Proofs.Ytiodebjjbgcbhaa.Wide.lw39 Go.Proofs.Ytiodebjjbgcbhaa.Wide.lw44
attribute [local go_sem ↓ high] Go.Proofs.Ytiodebjjbgcbhaa.Wide.hv32 Go.Proofs.Ytiodebjjbgcbhaa.Wide.hv33 Go.Proofs.Ytiodebjjbgcbhaa.Wide.hv37 Go.Proofs.Ytiodebjjbgcbhaa.Wide.hv38 Go.Proofs.Ytiodebjjbgcbhaa.Wide.hv39 Go.Proofs.Ytiodebjjbgcbhaa.Wide.hv44
set_option linter.unusedVariables false
set_option linter.unusedSimpArgs false

/-! ### coraclelaw18_awake: function 9 -/
def coraclelaw18_awake.f (k : Nat)  : Option (Bool) := (some (([(⟨(⟨(⟨0, 0, 0, 0, 0, 0, 0, 0, 0, 0, 0, 0, 0, 0, 0, 0, 0, 0, 0, 0, 0, 0, 0, 0, 0, 0, 0, 0, 0, 0, 0, 0⟩ : S32), 0⟩ : S34), 0, (⟨0, 0, (⟨#[]⟩ : ByteArray)⟩ : S36)⟩ : S38)] : List (S38)) : List (S38))).bind fun y208 => ((coraclelaw18_batches.f k (([(⟨(⟨y208, ([] : List (S64)), 0⟩ : S28), 500, 300⟩ : S30)] : List (S30)))).bind fun t214 => (if 0 < (t214.length : Int) then ((replace_Put.f k ([] : List (S39)) ((rd_T39 t214 0).f0.f0) ((rd_T39 t214 0).f0.f1) ((rd_T39 t214 0).f0.f2) ((rd_T39 t214 0).f1) ((rd_T39 t214 0).f2)).bind fun bt218 => ((coraclelaw18_batches.f k (([(⟨(⟨y208, ([] : List (S64)), 0⟩ : S28), 500, 300⟩ : S30)] : List (S30)))).bind fun t225 => (if 0 < (t225.length : Int) then ((replace_Put.f k bt218.1 ((rd_T39 t225 0).f0.f0) ((rd_T39 t225 0).f0.f1) ((rd_T39 t225 0).f0.f2) ((rd_T39 t225 0).f1) ((rd_T39 t225 0).f2)).bind fun bt229 => ((coraclelaw18_batches.f k (([(⟨(⟨y208, ([] : List (S64)), 0⟩ : S28), 5000, 301⟩ : S30)] : List (S30)))).bind fun t236 => (if 0 < (t236.length : Int) then ((replace_Put.f k bt218.1 ((rd_T39 t236 0).f0.f0) ((rd_T39 t236 0).f0.f1) ((rd_T39 t236 0).f0.f2) ((rd_T39 t236 0).f1) ((rd_T39 t236 0).f2)).bind fun bt240 => (if bt218.2 = true then (if (bt218.1.length : Int) = 1 then (if bt229.2 = true then (some false) else (if bt240.2 = true then (if (bt240.1.length : Int) = 1 then (if 0 < (bt240.1.length : Int) then (if ((rd_T39 bt240.1 0).f1) = 5000 then (if 0 < (bt218.1.length : Int) then ((replace_Alike.f k ((rd_T39 bt218.1 0).f0.f0) ((rd_T39 bt218.1 0).f0.f1) ((rd_T39 bt218.1 0).f0.f2) ((rd_T39 bt218.1 0).f1) ((rd_T39 bt218.1 0).f2) ((rd_T39 bt240.1 0).f0.f0) ((rd_T39 bt240.1 0).f0.f1) ((rd_T39 bt240.1 0).f0.f2) ((rd_T39 bt240.1 0).f1) ((rd_T39 bt240.1 0).f2)).bind fun t247 => (some t247)) else (none)) else (some false)) else (none)) else (some false)) else (some false))) else (some false)) else (some false))) else (none)))) else (none)))) else (none)))
theorem coraclelaw18_awake.mono : ∀ k, LeO (coraclelaw18_awake.f k ) (coraclelaw18_awake.f (k + 1) ) := by
  intro  k
  unfold coraclelaw18_awake.f
  repeat' first
      | (with_reducible exact coraclelaw18_batches.mono _ _)
      | (with_reducible exact replace_Alike.mono _ _ _ _ _ _ _ _ _ _ _)
      | (with_reducible exact replace_Put.mono _ _ _ _ _ _ _)
      | (with_reducible exact LeO.refl _)
      | (with_reducible exact LeO.none _)
      | (with_reducible refine LeO.ite ?_ ?_)
      | (with_reducible refine LeO.bind ?_ (fun _ => ?_))
      | exact coraclelaw18_batches.mono _ _
      | exact replace_Alike.mono _ _ _ _ _ _ _ _ _ _ _
      | exact replace_Put.mono _ _ _ _ _ _ _
      | exact LeO.none _
      | refine LeO.ite ?_ ?_
      | refine LeO.bind ?_ (fun _ => ?_)
def coraclelaw18_awake.T7 : Bool × List (List Nat × List Nat) := (true, [([], []), ([0], [0]), ([1], [1]), ([2, 1], [1, 2]), ([3, 1], [1, 3]), ([1, 4], [1, 4]), ([5, 1], [5]), ([6], [6]), ([7, 6], [6, 7]), ([6, 8], [6, 8]), ([9, 6], [9]), ([10], [10]), ([10, 11], [10, 11]), ([12, 10], [12]), ([13], [13]), ([14, 13], [13, 14]), ([15, 13], [13, 15]), ([13, 16], [13, 16]), ([17, 13], [17]), ([18], [18]), ([19, 18], [18, 19]), ([20, 18], [18, 20]), ([21, 18], [18, 21]), ([22, 18], [18, 22]), ([18, 23], [18, 23]), ([24, 18], [24]), ([25], [25]), ([26, 25], [25, 26]), ([27, 25], [25, 27]), ([25], [25]), ([29, 25], [25, 29]), ([30, 25], [25, 30]), ([28, 31, 25, 25], [25, 28, 31]), ([25, 32], [25, 32]), ([33, 32, 0, 1, 2, 3, 4, 5, 6, 7, 8, 9, 10, 11, 12, 13, 14, 15, 16, 17, 18, 19, 20, 21, 22, 23, 24, 25, 26, 27, 28, 29, 30, 31, 32, 33], [33])])
def coraclelaw18_awake.B7 : List Nat := [0, 1, 3, 7, 15, 31, 63, 127, 255, 511, 1023, 2047, 4095, 8191, 16383, 32767, 65535, 131071, 262143, 524287, 1048575, 2097151, 4194303, 8388607, 16777215, 33554431, 67108863, 134217727, 268435455, 67108863, 603979775, 1677721599, 4294967295, 8589934591, 17179869183]
theorem coraclelaw18_awake.tab7 : rtab .any (opsOf Try.f9 7) = coraclelaw18_awake.T7 := by kernel_rfl
theorem coraclelaw18_awake.bits7 : waitsOk coraclelaw18_awake.T7.2 coraclelaw18_awake.B7 = true := by kernel_rfl
theorem coraclelaw18_awake.at40 : coraclelaw18_awake.f 40 = some true := by kernel_rfl
/-- awake answers true, if at all. -/
theorem coraclelaw18_awake.told (k : Nat) (r : Bool) (h : coraclelaw18_awake.f k = some r) : r = true := by
  have hup : ∀ n r, coraclelaw18_awake.f n = some r → ∀ m, coraclelaw18_awake.f (n + m) = some r := by
    intro n r h m
    induction m with
    | zero => exact h
    | succ m ih => exact coraclelaw18_awake.mono _ _ ih
  have h1 := hup k r h 40
  have h2 := hup 40 true coraclelaw18_awake.at40 k
  rw [Nat.add_comm, h2] at h1
  exact (Option.some.inj h1).symm
set_option maxHeartbeats 8000000 in
set_option maxRecDepth 100000 in
theorem coraclelaw18_awake.calls (k : Nat)  (r : Bool) (w : World) (h : coraclelaw18_awake.f k  = some r) :
  Calls Try.prog 9 #[] w fun e w' => e = .returned (.bool r) ∧ Below w.heap.size w w' := by
 have hu30 := Try.underlying30
 have hu38 := Try.underlying38
 have hu39 := Try.underlying39
 have HB := Aside0.mk (Below.refl w.heap.size w)
 have H : ((some (([(⟨(⟨(⟨0, 0, 0, 0, 0, 0, 0, 0, 0, 0, 0, 0, 0, 0, 0, 0, 0, 0, 0, 0, 0, 0, 0, 0, 0, 0, 0, 0, 0, 0, 0, 0⟩ : S32), 0⟩ : S34), 0, (⟨0, 0, (⟨#[]⟩ : ByteArray)⟩ : S36)⟩ : S38)] : List (S38)) : List (S38))).bind fun y208 => ((coraclelaw18_batches.f k (([(⟨(⟨y208, ([] : List (S64)), 0⟩ : S28), 500, 300⟩ : S30)] : List (S30)))).bind fun t214 => (if 0 < (t214.length : Int) then ((replace_Put.f k ([] : List (S39)) ((rd_T39 t214 0).f0.f0) ((rd_T39 t214 0).f0.f1) ((rd_T39 t214 0).f0.f2) ((rd_T39 t214 0).f1) ((rd_T39 t214 0).f2)).bind fun bt218 => ((coraclelaw18_batches.f k (([(⟨(⟨y208, ([] : List (S64)), 0⟩ : S28), 500, 300⟩ : S30)] : List (S30)))).bind fun t225 => (if 0 < (t225.length : Int) then ((replace_Put.f k bt218.1 ((rd_T39 t225 0).f0.f0) ((rd_T39 t225 0).f0.f1) ((rd_T39 t225 0).f0.f2) ((rd_T39 t225 0).f1) ((rd_T39 t225 0).f2)).bind fun bt229 => ((coraclelaw18_batches.f k (([(⟨(⟨y208, ([] : List (S64)), 0⟩ : S28), 5000, 301⟩ : S30)] : List (S30)))).bind fun t236 => (if 0 < (t236.length : Int) then ((replace_Put.f k bt218.1 ((rd_T39 t236 0).f0.f0) ((rd_T39 t236 0).f0.f1) ((rd_T39 t236 0).f0.f2) ((rd_T39 t236 0).f1) ((rd_T39 t236 0).f2)).bind fun bt240 => (if bt218.2 = true then (if (bt218.1.length : Int) = 1 then (if bt229.2 = true then (some false) else (if bt240.2 = true then (if (bt240.1.length : Int) = 1 then (if 0 < (bt240.1.length : Int) then (if ((rd_T39 bt240.1 0).f1) = 5000 then (if 0 < (bt218.1.length : Int) then ((replace_Alike.f k ((rd_T39 bt218.1 0).f0.f0) ((rd_T39 bt218.1 0).f0.f1) ((rd_T39 bt218.1 0).f0.f2) ((rd_T39 bt218.1 0).f1) ((rd_T39 bt218.1 0).f2) ((rd_T39 bt240.1 0).f0.f0) ((rd_T39 bt240.1 0).f0.f1) ((rd_T39 bt240.1 0).f0.f2) ((rd_T39 bt240.1 0).f1) ((rd_T39 bt240.1 0).f2)).bind fun t247 => (some t247)) else (none)) else (some false)) else (none)) else (some false)) else (some false))) else (some false)) else (some false))) else (none)))) else (none)))) else (none)))) = some r := h
 have HTOLD := Aside0.mk (coraclelaw18_awake.told k r h)
 clear h
 obtain ⟨y208, hy208⟩ : ∃ y_ : List (S38), y_ = (([(⟨(⟨(⟨0, 0, 0, 0, 0, 0, 0, 0, 0, 0, 0, 0, 0, 0, 0, 0, 0, 0, 0, 0, 0, 0, 0, 0, 0, 0, 0, 0, 0, 0, 0, 0⟩ : S32), 0⟩ : S34), 0, (⟨0, 0, (⟨#[]⟩ : ByteArray)⟩ : S36)⟩ : S38)] : List (S38))) := ⟨_, rfl⟩
 replace H : ((coraclelaw18_batches.f k (([(⟨(⟨y208, ([] : List (S64)), 0⟩ : S28), 500, 300⟩ : S30)] : List (S30)))).bind fun t214 => (if 0 < (t214.length : Int) then ((replace_Put.f k ([] : List (S39)) ((rd_T39 t214 0).f0.f0) ((rd_T39 t214 0).f0.f1) ((rd_T39 t214 0).f0.f2) ((rd_T39 t214 0).f1) ((rd_T39 t214 0).f2)).bind fun bt218 => ((coraclelaw18_batches.f k (([(⟨(⟨y208, ([] : List (S64)), 0⟩ : S28), 500, 300⟩ : S30)] : List (S30)))).bind fun t225 => (if 0 < (t225.length : Int) then ((replace_Put.f k bt218.1 ((rd_T39 t225 0).f0.f0) ((rd_T39 t225 0).f0.f1) ((rd_T39 t225 0).f0.f2) ((rd_T39 t225 0).f1) ((rd_T39 t225 0).f2)).bind fun bt229 => ((coraclelaw18_batches.f k (([(⟨(⟨y208, ([] : List (S64)), 0⟩ : S28), 5000, 301⟩ : S30)] : List (S30)))).bind fun t236 => (if 0 < (t236.length : Int) then ((replace_Put.f k bt218.1 ((rd_T39 t236 0).f0.f0) ((rd_T39 t236 0).f0.f1) ((rd_T39 t236 0).f0.f2) ((rd_T39 t236 0).f1) ((rd_T39 t236 0).f2)).bind fun bt240 => (if bt218.2 = true then (if (bt218.1.length : Int) = 1 then (if bt229.2 = true then (some false) else (if bt240.2 = true then (if (bt240.1.length : Int) = 1 then (if 0 < (bt240.1.length : Int) then (if ((rd_T39 bt240.1 0).f1) = 5000 then (if 0 < (bt218.1.length : Int) then ((replace_Alike.f k ((rd_T39 bt218.1 0).f0.f0) ((rd_T39 bt218.1 0).f0.f1) ((rd_T39 bt218.1 0).f0.f2) ((rd_T39 bt218.1 0).f1) ((rd_T39 bt218.1 0).f2) ((rd_T39 bt240.1 0).f0.f0) ((rd_T39 bt240.1 0).f0.f1) ((rd_T39 bt240.1 0).f0.f2) ((rd_T39 bt240.1 0).f1) ((rd_T39 bt240.1 0).f2)).bind fun t247 => (some t247)) else (none)) else (some false)) else (none)) else (some false)) else (some false))) else (some false)) else (some false))) else (none)))) else (none)))) else (none))) = some r := by first | (rw [hy208]; with_reducible exact H) | (have H2_ := (Option.bind_some _ _).symm.trans H; rw [hy208]; with_reducible exact H2_) | (have H2_ := (Option.bind_some _ _).symm.trans H; with_reducible exact H2_) | with_reducible exact H | (rw [hy208]; exact H) | exact H
 have Ny208 := Aside0.mk hy208
 clear hy208
 obtain ⟨y211, hy211⟩ : ∃ y_ : List (S30), y_ = (([(⟨(⟨y208, ([] : List (S64)), 0⟩ : S28), 500, 300⟩ : S30)] : List (S30))) := ⟨_, rfl⟩
 replace H : ((coraclelaw18_batches.f k y211).bind fun t214 => (if 0 < (t214.length : Int) then ((replace_Put.f k ([] : List (S39)) ((rd_T39 t214 0).f0.f0) ((rd_T39 t214 0).f0.f1) ((rd_T39 t214 0).f0.f2) ((rd_T39 t214 0).f1) ((rd_T39 t214 0).f2)).bind fun bt218 => ((coraclelaw18_batches.f k (([(⟨(⟨y208, ([] : List (S64)), 0⟩ : S28), 500, 300⟩ : S30)] : List (S30)))).bind fun t225 => (if 0 < (t225.length : Int) then ((replace_Put.f k bt218.1 ((rd_T39 t225 0).f0.f0) ((rd_T39 t225 0).f0.f1) ((rd_T39 t225 0).f0.f2) ((rd_T39 t225 0).f1) ((rd_T39 t225 0).f2)).bind fun bt229 => ((coraclelaw18_batches.f k (([(⟨(⟨y208, ([] : List (S64)), 0⟩ : S28), 5000, 301⟩ : S30)] : List (S30)))).bind fun t236 => (if 0 < (t236.length : Int) then ((replace_Put.f k bt218.1 ((rd_T39 t236 0).f0.f0) ((rd_T39 t236 0).f0.f1) ((rd_T39 t236 0).f0.f2) ((rd_T39 t236 0).f1) ((rd_T39 t236 0).f2)).bind fun bt240 => (if bt218.2 = true then (if (bt218.1.length : Int) = 1 then (if bt229.2 = true then (some false) else (if bt240.2 = true then (if (bt240.1.length : Int) = 1 then (if 0 < (bt240.1.length : Int) then (if ((rd_T39 bt240.1 0).f1) = 5000 then (if 0 < (bt218.1.length : Int) then ((replace_Alike.f k ((rd_T39 bt218.1 0).f0.f0) ((rd_T39 bt218.1 0).f0.f1) ((rd_T39 bt218.1 0).f0.f2) ((rd_T39 bt218.1 0).f1) ((rd_T39 bt218.1 0).f2) ((rd_T39 bt240.1 0).f0.f0) ((rd_T39 bt240.1 0).f0.f1) ((rd_T39 bt240.1 0).f0.f2) ((rd_T39 bt240.1 0).f1) ((rd_T39 bt240.1 0).f2)).bind fun t247 => (some t247)) else (none)) else (some false)) else (none)) else (some false)) else (some false))) else (some false)) else (some false))) else (none)))) else (none)))) else (none))) = some r := by first | (rw [hy211]; with_reducible exact H) | (have H2_ := (Option.bind_some _ _).symm.trans H; rw [hy211]; with_reducible exact H2_) | (have H2_ := (Option.bind_some _ _).symm.trans H; with_reducible exact H2_) | with_reducible exact H | (rw [hy211]; exact H) | exact H
 have Ny211 := Aside0.mk hy211
 clear hy211
 replace H := Option.bind_eq_some_iff.mp H
 obtain ⟨t214, A10, H⟩ := H
 replace H : (if 0 < (t214.length : Int) then ((replace_Put.f k ([] : List (S39)) ((rd_T39 t214 0).f0.f0) ((rd_T39 t214 0).f0.f1) ((rd_T39 t214 0).f0.f2) ((rd_T39 t214 0).f1) ((rd_T39 t214 0).f2)).bind fun bt218 => ((coraclelaw18_batches.f k (([(⟨(⟨y208, ([] : List (S64)), 0⟩ : S28), 500, 300⟩ : S30)] : List (S30)))).bind fun t225 => (if 0 < (t225.length : Int) then ((replace_Put.f k bt218.1 ((rd_T39 t225 0).f0.f0) ((rd_T39 t225 0).f0.f1) ((rd_T39 t225 0).f0.f2) ((rd_T39 t225 0).f1) ((rd_T39 t225 0).f2)).bind fun bt229 => ((coraclelaw18_batches.f k (([(⟨(⟨y208, ([] : List (S64)), 0⟩ : S28), 5000, 301⟩ : S30)] : List (S30)))).bind fun t236 => (if 0 < (t236.length : Int) then ((replace_Put.f k bt218.1 ((rd_T39 t236 0).f0.f0) ((rd_T39 t236 0).f0.f1) ((rd_T39 t236 0).f0.f2) ((rd_T39 t236 0).f1) ((rd_T39 t236 0).f2)).bind fun bt240 => (if bt218.2 = true then (if (bt218.1.length : Int) = 1 then (if bt229.2 = true then (some false) else (if bt240.2 = true then (if (bt240.1.length : Int) = 1 then (if 0 < (bt240.1.length : Int) then (if ((rd_T39 bt240.1 0).f1) = 5000 then (if 0 < (bt218.1.length : Int) then ((replace_Alike.f k ((rd_T39 bt218.1 0).f0.f0) ((rd_T39 bt218.1 0).f0.f1) ((rd_T39 bt218.1 0).f0.f2) ((rd_T39 bt218.1 0).f1) ((rd_T39 bt218.1 0).f2) ((rd_T39 bt240.1 0).f0.f0) ((rd_T39 bt240.1 0).f0.f1) ((rd_T39 bt240.1 0).f0.f2) ((rd_T39 bt240.1 0).f1) ((rd_T39 bt240.1 0).f2)).bind fun t247 => (some t247)) else (none)) else (some false)) else (none)) else (some false)) else (some false))) else (some false)) else (some false))) else (none)))) else (none)))) else (none)) = some r := H
 have A1 := Aside0.mk A10
 clear A10
 by_cases c2 : 0 < (t214.length : Int)
 ·
  rw [if_pos c2] at H
  have c2b0 : decide (0 < (t214.length : Int)) = true := decide_eq_true c2
  have c2b1 : decide (0 < t214.length) = true := decide_eq_true (by omega)
  clear c2
  replace H := Option.bind_eq_some_iff.mp H
  obtain ⟨⟨t218, t221⟩, A30, H⟩ := H
  replace H : ((coraclelaw18_batches.f k (([(⟨(⟨y208, ([] : List (S64)), 0⟩ : S28), 500, 300⟩ : S30)] : List (S30)))).bind fun t225 => (if 0 < (t225.length : Int) then ((replace_Put.f k t218 ((rd_T39 t225 0).f0.f0) ((rd_T39 t225 0).f0.f1) ((rd_T39 t225 0).f0.f2) ((rd_T39 t225 0).f1) ((rd_T39 t225 0).f2)).bind fun bt229 => ((coraclelaw18_batches.f k (([(⟨(⟨y208, ([] : List (S64)), 0⟩ : S28), 5000, 301⟩ : S30)] : List (S30)))).bind fun t236 => (if 0 < (t236.length : Int) then ((replace_Put.f k t218 ((rd_T39 t236 0).f0.f0) ((rd_T39 t236 0).f0.f1) ((rd_T39 t236 0).f0.f2) ((rd_T39 t236 0).f1) ((rd_T39 t236 0).f2)).bind fun bt240 => (if t221 = true then (if (t218.length : Int) = 1 then (if bt229.2 = true then (some false) else (if bt240.2 = true then (if (bt240.1.length : Int) = 1 then (if 0 < (bt240.1.length : Int) then (if ((rd_T39 bt240.1 0).f1) = 5000 then (if 0 < (t218.length : Int) then ((replace_Alike.f k ((rd_T39 t218 0).f0.f0) ((rd_T39 t218 0).f0.f1) ((rd_T39 t218 0).f0.f2) ((rd_T39 t218 0).f1) ((rd_T39 t218 0).f2) ((rd_T39 bt240.1 0).f0.f0) ((rd_T39 bt240.1 0).f0.f1) ((rd_T39 bt240.1 0).f0.f2) ((rd_T39 bt240.1 0).f1) ((rd_T39 bt240.1 0).f2)).bind fun t247 => (some t247)) else (none)) else (some false)) else (none)) else (some false)) else (some false))) else (some false)) else (some false))) else (none)))) else (none))) = some r := H
  have A3 := Aside0.mk A30
  clear A30
  obtain ⟨y222, hy222⟩ : ∃ y_ : List (S30), y_ = (([(⟨(⟨y208, ([] : List (S64)), 0⟩ : S28), 500, 300⟩ : S30)] : List (S30))) := ⟨_, rfl⟩
  replace H : ((coraclelaw18_batches.f k y222).bind fun t225 => (if 0 < (t225.length : Int) then ((replace_Put.f k t218 ((rd_T39 t225 0).f0.f0) ((rd_T39 t225 0).f0.f1) ((rd_T39 t225 0).f0.f2) ((rd_T39 t225 0).f1) ((rd_T39 t225 0).f2)).bind fun bt229 => ((coraclelaw18_batches.f k (([(⟨(⟨y208, ([] : List (S64)), 0⟩ : S28), 5000, 301⟩ : S30)] : List (S30)))).bind fun t236 => (if 0 < (t236.length : Int) then ((replace_Put.f k t218 ((rd_T39 t236 0).f0.f0) ((rd_T39 t236 0).f0.f1) ((rd_T39 t236 0).f0.f2) ((rd_T39 t236 0).f1) ((rd_T39 t236 0).f2)).bind fun bt240 => (if t221 = true then (if (t218.length : Int) = 1 then (if bt229.2 = true then (some false) else (if bt240.2 = true then (if (bt240.1.length : Int) = 1 then (if 0 < (bt240.1.length : Int) then (if ((rd_T39 bt240.1 0).f1) = 5000 then (if 0 < (t218.length : Int) then ((replace_Alike.f k ((rd_T39 t218 0).f0.f0) ((rd_T39 t218 0).f0.f1) ((rd_T39 t218 0).f0.f2) ((rd_T39 t218 0).f1) ((rd_T39 t218 0).f2) ((rd_T39 bt240.1 0).f0.f0) ((rd_T39 bt240.1 0).f0.f1) ((rd_T39 bt240.1 0).f0.f2) ((rd_T39 bt240.1 0).f1) ((rd_T39 bt240.1 0).f2)).bind fun t247 => (some t247)) else (none)) else (some false)) else (none)) else (some false)) else (some false))) else (some false)) else (some false))) else (none)))) else (none))) = some r := by first | (rw [hy222]; with_reducible exact H) | (have H2_ := (Option.bind_some _ _).symm.trans H; rw [hy222]; with_reducible exact H2_) | (have H2_ := (Option.bind_some _ _).symm.trans H; with_reducible exact H2_) | with_reducible exact H | (rw [hy222]; exact H) | exact H
  have Ny222 := Aside0.mk hy222
  clear hy222
  replace H := Option.bind_eq_some_iff.mp H
  obtain ⟨t225, A40, H⟩ := H
  replace H : (if 0 < (t225.length : Int) then ((replace_Put.f k t218 ((rd_T39 t225 0).f0.f0) ((rd_T39 t225 0).f0.f1) ((rd_T39 t225 0).f0.f2) ((rd_T39 t225 0).f1) ((rd_T39 t225 0).f2)).bind fun bt229 => ((coraclelaw18_batches.f k (([(⟨(⟨y208, ([] : List (S64)), 0⟩ : S28), 5000, 301⟩ : S30)] : List (S30)))).bind fun t236 => (if 0 < (t236.length : Int) then ((replace_Put.f k t218 ((rd_T39 t236 0).f0.f0) ((rd_T39 t236 0).f0.f1) ((rd_T39 t236 0).f0.f2) ((rd_T39 t236 0).f1) ((rd_T39 t236 0).f2)).bind fun bt240 => (if t221 = true then (if (t218.length : Int) = 1 then (if bt229.2 = true then (some false) else (if bt240.2 = true then (if (bt240.1.length : Int) = 1 then (if 0 < (bt240.1.length : Int) then (if ((rd_T39 bt240.1 0).f1) = 5000 then (if 0 < (t218.length : Int) then ((replace_Alike.f k ((rd_T39 t218 0).f0.f0) ((rd_T39 t218 0).f0.f1) ((rd_T39 t218 0).f0.f2) ((rd_T39 t218 0).f1) ((rd_T39 t218 0).f2) ((rd_T39 bt240.1 0).f0.f0) ((rd_T39 bt240.1 0).f0.f1) ((rd_T39 bt240.1 0).f0.f2) ((rd_T39 bt240.1 0).f1) ((rd_T39 bt240.1 0).f2)).bind fun t247 => (some t247)) else (none)) else (some false)) else (none)) else (some false)) else (some false))) else (some false)) else (some false))) else (none)))) else (none)) = some r := H
  have A4 := Aside0.mk A40
  clear A40
  by_cases c5 : 0 < (t225.length : Int)
  ·
   rw [if_pos c5] at H
   have c5b0 : decide (0 < (t225.length : Int)) = true := decide_eq_true c5
   have c5b1 : decide (0 < t225.length) = true := decide_eq_true (by omega)
   clear c5
   replace H := Option.bind_eq_some_iff.mp H
   obtain ⟨⟨t229, t232⟩, A60, H⟩ := H
   replace H : ((coraclelaw18_batches.f k (([(⟨(⟨y208, ([] : List (S64)), 0⟩ : S28), 5000, 301⟩ : S30)] : List (S30)))).bind fun t236 => (if 0 < (t236.length : Int) then ((replace_Put.f k t218 ((rd_T39 t236 0).f0.f0) ((rd_T39 t236 0).f0.f1) ((rd_T39 t236 0).f0.f2) ((rd_T39 t236 0).f1) ((rd_T39 t236 0).f2)).bind fun bt240 => (if t221 = true then (if (t218.length : Int) = 1 then (if t232 = true then (some false) else (if bt240.2 = true then (if (bt240.1.length : Int) = 1 then (if 0 < (bt240.1.length : Int) then (if ((rd_T39 bt240.1 0).f1) = 5000 then (if 0 < (t218.length : Int) then ((replace_Alike.f k ((rd_T39 t218 0).f0.f0) ((rd_T39 t218 0).f0.f1) ((rd_T39 t218 0).f0.f2) ((rd_T39 t218 0).f1) ((rd_T39 t218 0).f2) ((rd_T39 bt240.1 0).f0.f0) ((rd_T39 bt240.1 0).f0.f1) ((rd_T39 bt240.1 0).f0.f2) ((rd_T39 bt240.1 0).f1) ((rd_T39 bt240.1 0).f2)).bind fun t247 => (some t247)) else (none)) else (some false)) else (none)) else (some false)) else (some false))) else (some false)) else (some false))) else (none))) = some r := H
   have A6 := Aside0.mk A60
   clear A60
   obtain ⟨y233, hy233⟩ : ∃ y_ : List (S30), y_ = (([(⟨(⟨y208, ([] : List (S64)), 0⟩ : S28), 5000, 301⟩ : S30)] : List (S30))) := ⟨_, rfl⟩
   replace H : ((coraclelaw18_batches.f k y233).bind fun t236 => (if 0 < (t236.length : Int) then ((replace_Put.f k t218 ((rd_T39 t236 0).f0.f0) ((rd_T39 t236 0).f0.f1) ((rd_T39 t236 0).f0.f2) ((rd_T39 t236 0).f1) ((rd_T39 t236 0).f2)).bind fun bt240 => (if t221 = true then (if (t218.length : Int) = 1 then (if t232 = true then (some false) else (if bt240.2 = true then (if (bt240.1.length : Int) = 1 then (if 0 < (bt240.1.length : Int) then (if ((rd_T39 bt240.1 0).f1) = 5000 then (if 0 < (t218.length : Int) then ((replace_Alike.f k ((rd_T39 t218 0).f0.f0) ((rd_T39 t218 0).f0.f1) ((rd_T39 t218 0).f0.f2) ((rd_T39 t218 0).f1) ((rd_T39 t218 0).f2) ((rd_T39 bt240.1 0).f0.f0) ((rd_T39 bt240.1 0).f0.f1) ((rd_T39 bt240.1 0).f0.f2) ((rd_T39 bt240.1 0).f1) ((rd_T39 bt240.1 0).f2)).bind fun t247 => (some t247)) else (none)) else (some false)) else (none)) else (some false)) else (some false))) else (some false)) else (some false))) else (none))) = some r := by first | (rw [hy233]; with_reducible exact H) | (have H2_ := (Option.bind_some _ _).symm.trans H; rw [hy233]; with_reducible exact H2_) | (have H2_ := (Option.bind_some _ _).symm.trans H; with_reducible exact H2_) | with_reducible exact H | (rw [hy233]; exact H) | exact H
   have Ny233 := Aside0.mk hy233
   clear hy233
   replace H := Option.bind_eq_some_iff.mp H
   obtain ⟨t236, A70, H⟩ := H
   replace H : (if 0 < (t236.length : Int) then ((replace_Put.f k t218 ((rd_T39 t236 0).f0.f0) ((rd_T39 t236 0).f0.f1) ((rd_T39 t236 0).f0.f2) ((rd_T39 t236 0).f1) ((rd_T39 t236 0).f2)).bind fun bt240 => (if t221 = true then (if (t218.length : Int) = 1 then (if t232 = true then (some false) else (if bt240.2 = true then (if (bt240.1.length : Int) = 1 then (if 0 < (bt240.1.length : Int) then (if ((rd_T39 bt240.1 0).f1) = 5000 then (if 0 < (t218.length : Int) then ((replace_Alike.f k ((rd_T39 t218 0).f0.f0) ((rd_T39 t218 0).f0.f1) ((rd_T39 t218 0).f0.f2) ((rd_T39 t218 0).f1) ((rd_T39 t218 0).f2) ((rd_T39 bt240.1 0).f0.f0) ((rd_T39 bt240.1 0).f0.f1) ((rd_T39 bt240.1 0).f0.f2) ((rd_T39 bt240.1 0).f1) ((rd_T39 bt240.1 0).f2)).bind fun t247 => (some t247)) else (none)) else (some false)) else (none)) else (some false)) else (some false))) else (some false)) else (some false))) else (none)) = some r := H
   have A7 := Aside0.mk A70
   clear A70
   by_cases c8 : 0 < (t236.length : Int)
   ·
    rw [if_pos c8] at H
    have c8b0 : decide (0 < (t236.length : Int)) = true := decide_eq_true c8
    have c8b1 : decide (0 < t236.length) = true := decide_eq_true (by omega)
    clear c8
    replace H := Option.bind_eq_some_iff.mp H
    obtain ⟨⟨t240, t243⟩, A90, H⟩ := H
    replace H : (if t221 = true then (if (t218.length : Int) = 1 then (if t232 = true then (some false) else (if t243 = true then (if (t240.length : Int) = 1 then (if 0 < (t240.length : Int) then (if ((rd_T39 t240 0).f1) = 5000 then (if 0 < (t218.length : Int) then ((replace_Alike.f k ((rd_T39 t218 0).f0.f0) ((rd_T39 t218 0).f0.f1) ((rd_T39 t218 0).f0.f2) ((rd_T39 t218 0).f1) ((rd_T39 t218 0).f2) ((rd_T39 t240 0).f0.f0) ((rd_T39 t240 0).f0.f1) ((rd_T39 t240 0).f0.f2) ((rd_T39 t240 0).f1) ((rd_T39 t240 0).f2)).bind fun t247 => (some t247)) else (none)) else (some false)) else (none)) else (some false)) else (some false))) else (some false)) else (some false)) = some r := H
    have A9 := Aside0.mk A90
    clear A90
    by_cases c10 : t221 = true
    ·
     subst c10
     have H1 : (if (t218.length : Int) = 1 then (if t232 = true then (some false) else (if t243 = true then (if (t240.length : Int) = 1 then (if 0 < (t240.length : Int) then (if ((rd_T39 t240 0).f1) = 5000 then (if 0 < (t218.length : Int) then ((replace_Alike.f k ((rd_T39 t218 0).f0.f0) ((rd_T39 t218 0).f0.f1) ((rd_T39 t218 0).f0.f2) ((rd_T39 t218 0).f1) ((rd_T39 t218 0).f2) ((rd_T39 t240 0).f0.f0) ((rd_T39 t240 0).f0.f1) ((rd_T39 t240 0).f0.f2) ((rd_T39 t240 0).f1) ((rd_T39 t240 0).f2)).bind fun t247 => (some t247)) else (none)) else (some false)) else (none)) else (some false)) else (some false))) else (some false)) = some r := by rw [if_pos rfl] at H; exact H
     clear H
     have H := H1
     clear H1
     by_cases c11 : (t218.length : Int) = 1
     ·
      rw [if_pos c11] at H
      have c11b0 : ((t218.length : Int) == 1) = true := beq_iff_eq.mpr c11
      have c11b1 : ((t218.length : Int) != 1) = false := bne_eq_false_iff_eq.mpr c11
      clear c11
      by_cases c12 : t232 = true
      ·
       subst c12
       have H1 : (some false) = some r := by rw [if_pos rfl] at H; exact H
       clear H
       have H := H1
       clear H1
       exact absurd (H.trans (congrArg some HTOLD.out)) (by decide)
      ·
       replace c12 := Bool.eq_false_iff.mpr c12
       subst c12
       have H1 : (if t243 = true then (if (t240.length : Int) = 1 then (if 0 < (t240.length : Int) then (if ((rd_T39 t240 0).f1) = 5000 then (if 0 < (t218.length : Int) then ((replace_Alike.f k ((rd_T39 t218 0).f0.f0) ((rd_T39 t218 0).f0.f1) ((rd_T39 t218 0).f0.f2) ((rd_T39 t218 0).f1) ((rd_T39 t218 0).f2) ((rd_T39 t240 0).f0.f0) ((rd_T39 t240 0).f0.f1) ((rd_T39 t240 0).f0.f2) ((rd_T39 t240 0).f1) ((rd_T39 t240 0).f2)).bind fun t247 => (some t247)) else (none)) else (some false)) else (none)) else (some false)) else (some false)) = some r := by rw [if_neg (show ¬ (false = true) by decide)] at H; exact H
       clear H
       have H := H1
       clear H1
       by_cases c47 : t243 = true
       ·
        subst c47
        have H1 : (if (t240.length : Int) = 1 then (if 0 < (t240.length : Int) then (if ((rd_T39 t240 0).f1) = 5000 then (if 0 < (t218.length : Int) then ((replace_Alike.f k ((rd_T39 t218 0).f0.f0) ((rd_T39 t218 0).f0.f1) ((rd_T39 t218 0).f0.f2) ((rd_T39 t218 0).f1) ((rd_T39 t218 0).f2) ((rd_T39 t240 0).f0.f0) ((rd_T39 t240 0).f0.f1) ((rd_T39 t240 0).f0.f2) ((rd_T39 t240 0).f1) ((rd_T39 t240 0).f2)).bind fun t247 => (some t247)) else (none)) else (some false)) else (none)) else (some false)) = some r := by rw [if_pos rfl] at H; exact H
        clear H
        have H := H1
        clear H1
        by_cases c48 : (t240.length : Int) = 1
        ·
         rw [if_pos c48] at H
         have c48b0 : ((t240.length : Int) == 1) = true := beq_iff_eq.mpr c48
         have c48b1 : ((t240.length : Int) != 1) = false := bne_eq_false_iff_eq.mpr c48
         clear c48
         by_cases c49 : 0 < (t240.length : Int)
         ·
          rw [if_pos c49] at H
          have c49b0 : decide (0 < (t240.length : Int)) = true := decide_eq_true c49
          have c49b1 : decide (0 < t240.length) = true := decide_eq_true (by omega)
          clear c49
          by_cases c50 : ((rd_T39 t240 0).f1) = 5000
          ·
           rw [if_pos c50] at H
           have c50b0 : (((rd_T39 t240 0).f1) == 5000) = true := beq_iff_eq.mpr c50
           have c50b1 : (((rd_T39 t240 0).f1) != 5000) = false := bne_eq_false_iff_eq.mpr c50
           clear c50
           by_cases c51 : 0 < (t218.length : Int)
           ·
            rw [if_pos c51] at H
            have c51b0 : decide (0 < (t218.length : Int)) = true := decide_eq_true c51
            have c51b1 : decide (0 < t218.length) = true := decide_eq_true (by omega)
            clear c51
            replace H := Option.bind_eq_some_iff.mp H
            obtain ⟨t247, A520, H⟩ := H
            replace H : (some t247) = some r := H
            have A52 := Aside0.mk A520
            clear A520
            obtain rfl := Option.some.inj H
            go_enter Try.func9, Try.ntmps9
            try go_wp2_with (first | ((with_reducible refine gate_dst (N := 1) rfl ?_); (try (refine gate_guard (by rfl) ?_; dsimp only)); refine box_event ?hg (N := 1) ?hd (cs := #[.slice none 0 0, .slice none 0 0, .int .i64 0, .int .i64 0, .int .i64 0]) (t := 30) ?hr ?_; (case hd => rfl); (case hg => rfl); (case hr => first | (go_simp; done) | (go_simp; rfl)); intro gb207 hg w53 hbox hb; have n0_ := Aside0.mk (below_step (by repeat (first | (with_reducible first | exact HB.out | apply below_alloc | apply pw_below_drewN | apply below_drew1) | exact HB.out)) hb); have n1_ := Aside0.mk (hbox); have n2_ := Aside0.mk ((by rw [hg]; exact (below_size (by repeat (first | (with_reducible first | exact HB.out | apply below_alloc | apply pw_below_drewN | apply below_drew1) | exact HB.out))) : w.heap.size ≤ gb207)); have n3_ := Aside0.mk ((by rw [hg]; exact (below_size (by repeat (first | (with_reducible first | exact HB.out | apply below_alloc | apply pw_below_drewN | apply below_drew1) | exact HB.out))) : w.heap.size ≤ gb207)); clear HB; have HB := n0_; have BK207 := n1_; have GW207 := n2_; have GE207 := n3_; clear n0_ n1_ n2_ n3_; clear hb hbox hg; have hcz54_0 : w53.cell? ⟨gb207, 0, none⟩ = some (.slice none 0 0) := (blk_cell BK207.out 0).trans rfl; have hcz54_1 : w53.cell? ⟨gb207, 1, none⟩ = some (.slice none 0 0) := (blk_cell BK207.out 1).trans rfl; have hcz54_2 : w53.cell? ⟨gb207, 2, none⟩ = some (.int .i64 0) := (blk_cell BK207.out 2).trans rfl; have hcz54_3 : w53.cell? ⟨gb207, 3, none⟩ = some (.int .i64 0) := (blk_cell BK207.out 3).trans rfl; have hcz54_4 : w53.cell? ⟨gb207, 4, none⟩ = some (.int .i64 0) := (blk_cell BK207.out 4).trans rfl; have hfz54_0 := blk_frozen BK207.out 0; have hfz54_1 := blk_frozen BK207.out 1; have hfz54_2 := blk_frozen BK207.out 2; have hfz54_3 := blk_frozen BK207.out 3; have hfz54_4 := blk_frozen BK207.out 4) | ((with_reducible refine gate_dst (N := 10) rfl ?_); (try (refine gate_guard (by rfl) ?_; dsimp only)); refine Kd.R_lit k38 _ 38 ?hg (N := 10) ?hd (xs := ([(⟨(⟨(⟨0, 0, 0, 0, 0, 0, 0, 0, 0, 0, 0, 0, 0, 0, 0, 0, 0, 0, 0, 0, 0, 0, 0, 0, 0, 0, 0, 0, 0, 0, 0, 0⟩ : S32), 0⟩ : S34), 0, (⟨0, 0, (⟨#[]⟩ : ByteArray)⟩ : S36)⟩ : S38)] : List (S38))) (inner := (.int .u8 0 :: .int .u8 0 :: .int .u8 0 :: .int .u8 0 :: .int .u8 0 :: .int .u8 0 :: .int .u8 0 :: .int .u8 0 :: .int .u8 0 :: .int .u8 0 :: .int .u8 0 :: .int .u8 0 :: .int .u8 0 :: .int .u8 0 :: .int .u8 0 :: .int .u8 0 :: .int .u8 0 :: .int .u8 0 :: .int .u8 0 :: .int .u8 0 :: .int .u8 0 :: .int .u8 0 :: .int .u8 0 :: .int .u8 0 :: .int .u8 0 :: .int .u8 0 :: .int .u8 0 :: .int .u8 0 :: .int .u8 0 :: .int .u8 0 :: .int .u8 0 :: .int .u8 0 :: .int .i64 0 :: .int .i64 0 :: .int .i64 0 :: .int .i64 0 :: .string (⟨#[]⟩ : ByteArray) :: [])) (ok := fun _ => True) (okp := fun _ => True) ?hr ?hp (fun _ hk => hk) trivial (Below.refl _ _) (Nat.le_refl _) (by simp) ?_; (case hd => rfl); (case hg => rfl); (case hr => first | (go_simp; done) | (go_simp; rfl)); (case hp => exact (Reps.front (show Kd.M k38 _ _ _ (⟨(⟨(⟨0, 0, 0, 0, 0, 0, 0, 0, 0, 0, 0, 0, 0, 0, 0, 0, 0, 0, 0, 0, 0, 0, 0, 0, 0, 0, 0, 0, 0, 0, 0, 0⟩ : S32), 0⟩ : S34), 0, (⟨0, 0, (⟨#[]⟩ : ByteArray)⟩ : S36)⟩ : S38) (.int .u8 0 :: .int .u8 0 :: .int .u8 0 :: .int .u8 0 :: .int .u8 0 :: .int .u8 0 :: .int .u8 0 :: .int .u8 0 :: .int .u8 0 :: .int .u8 0 :: .int .u8 0 :: .int .u8 0 :: .int .u8 0 :: .int .u8 0 :: .int .u8 0 :: .int .u8 0 :: .int .u8 0 :: .int .u8 0 :: .int .u8 0 :: .int .u8 0 :: .int .u8 0 :: .int .u8 0 :: .int .u8 0 :: .int .u8 0 :: .int .u8 0 :: .int .u8 0 :: .int .u8 0 :: .int .u8 0 :: .int .u8 0 :: .int .u8 0 :: .int .u8 0 :: .int .u8 0 :: .int .i64 0 :: .int .i64 0 :: .int .i64 0 :: .int .i64 0 :: .string (⟨#[]⟩ : ByteArray) :: []) from (k38_mkM _ _ _ (⟨(⟨(⟨0, 0, 0, 0, 0, 0, 0, 0, 0, 0, 0, 0, 0, 0, 0, 0, 0, 0, 0, 0, 0, 0, 0, 0, 0, 0, 0, 0, 0, 0, 0, 0⟩ : S32), 0⟩ : S34), 0, (⟨0, 0, (⟨#[]⟩ : ByteArray)⟩ : S36)⟩ : S38) )) rfl (Reps.none _ _) rfl)); intro v209 w55 ho56 hb hg_ hnew_; clear hg_ hnew_; (first | rw [← Ny208.out] at ho56 | (simp only [Int.reduceToNat] at ho56; rw [← Ny208.out] at ho56)); have n0_ := Aside0.mk (Kd.R_lower ho56 (below_size (by repeat (first | (with_reducible first | exact HB.out | apply below_alloc | apply pw_below_drewN | apply below_drew1 | refine below_set ?_ GE207.out) | exact HB.out)))); have n1_ := Aside0.mk (blk_below (g := gb207) (o := .cells #[.slice none 0 0, .slice none 0 0, .int .i64 0, .int .i64 500, .int .i64 300] 30 (0, 0)) (by (with_reducible repeat (first | refine blk_drewN ?_ _ | refine blk_drew ?_ | refine blk_alloc ?_ _)); refine blk_put (cs := #[.slice none 0 0, .slice none 0 0, .int .i64 0, .int .i64 500, .int .i64 0]) ?_ 4 _ rfl; (with_reducible repeat (first | refine blk_drewN ?_ _ | refine blk_drew ?_ | refine blk_alloc ?_ _)); refine blk_put (cs := #[.slice none 0 0, .slice none 0 0, .int .i64 0, .int .i64 0, .int .i64 0]) ?_ 3 _ rfl; (with_reducible repeat (first | refine blk_drewN ?_ _ | refine blk_drew ?_ | refine blk_alloc ?_ _)); refine blk_put (cs := #[.slice none 0 0, .slice none 0 0, .int .i64 0, .int .i64 0, .int .i64 0]) ?_ 2 _ rfl; (with_reducible repeat (first | refine blk_drewN ?_ _ | refine blk_drew ?_ | refine blk_alloc ?_ _)); refine blk_put (cs := #[.slice none 0 0, .slice none 0 0, .int .i64 0, .int .i64 0, .int .i64 0]) ?_ 1 _ rfl; (with_reducible repeat (first | refine blk_drewN ?_ _ | refine blk_drew ?_ | refine blk_alloc ?_ _)); refine blk_put (cs := #[.slice none 0 0, .slice none 0 0, .int .i64 0, .int .i64 0, .int .i64 0]) ?_ 0 _ rfl; (with_reducible repeat (first | refine blk_drewN ?_ _ | refine blk_drew ?_ | refine blk_alloc ?_ _)); exact BK207.out) hb); have n2_ := Aside0.mk (below_step (by repeat (first | (with_reducible first | exact HB.out | apply below_alloc | apply pw_below_drewN | apply below_drew1 | refine below_set ?_ GE207.out) | exact HB.out)) hb); clear BK207; clear HB; have HO210 := n0_; have BK207 := n1_; have HB := n2_; clear n0_ n1_ n2_; clear hb ho56; obtain ⟨Ao57, co57, eo57⟩ := Kd.R_slice HO210.out; subst eo57; have hcz58_0 : w55.cell? ⟨gb207, 0, none⟩ = some (.slice none 0 0) := (blk_cell BK207.out 0).trans rfl; have hcz58_1 : w55.cell? ⟨gb207, 1, none⟩ = some (.slice none 0 0) := (blk_cell BK207.out 1).trans rfl; have hcz58_2 : w55.cell? ⟨gb207, 2, none⟩ = some (.int .i64 0) := (blk_cell BK207.out 2).trans rfl; have hcz58_3 : w55.cell? ⟨gb207, 3, none⟩ = some (.int .i64 500) := (blk_cell BK207.out 3).trans rfl; have hcz58_4 : w55.cell? ⟨gb207, 4, none⟩ = some (.int .i64 300) := (blk_cell BK207.out 4).trans rfl; have hfz58_0 := blk_frozen BK207.out 0; have hfz58_1 := blk_frozen BK207.out 1; have hfz58_2 := blk_frozen BK207.out 2; have hfz58_3 := blk_frozen BK207.out 3; have hfz58_4 := blk_frozen BK207.out 4) | ((with_reducible refine gate_store (t := 25) (p := 12) rfl ?_); refine store_event (t := 25) (p := 12) (v := ?vo_w59) (w1 := (w55.setCell ⟨gb207, 0, none⟩ (.slice Ao57 y208.length co57))) ?hg ?ho ?hn ?hr ?_; (case ho => rfl); (case hg => rfl); (case hn => rfl); (case hr => first | (go_simp; done) | (go_simp; rfl)); intro w59 hw; have n0_ : Aside0 (Kd.R k38 38 w59 w.heap.size (fun _ => True) (.slice Ao57 y208.length co57) y208) := ⟨(by rw [hw]; exact (by (with_reducible repeat (first | apply Kd.R_alloc | apply Kd.R_drewN | apply Kd.R_drew)); exact Kd.R_mono (Kd.R_far (p := ⟨gb207, 0, none⟩) (Kd.R_types HO210.out BK207.out (by decide)) (fun _ hk => hk.2) (.slice Ao57 y208.length co57)) (fun _ hk => trivial)))⟩; have n1_ : Aside0 (w59.heap[gb207]? = some (.cells #[.slice Ao57 y208.length co57, .slice none 0 0, .int .i64 0, .int .i64 500, .int .i64 300] 30 (0, 0))) := ⟨(by rw [hw]; exact (by (with_reducible repeat (first | refine blk_drewN ?_ _ | refine blk_drew ?_ | refine blk_alloc ?_ _)); refine blk_put (cs := #[.slice none 0 0, .slice none 0 0, .int .i64 0, .int .i64 500, .int .i64 300]) ?_ 0 _ rfl; (with_reducible repeat (first | refine blk_drewN ?_ _ | refine blk_drew ?_ | refine blk_alloc ?_ _)); exact BK207.out))⟩; have n2_ : Aside0 (Below w.heap.size w w59) := ⟨(by rw [hw]; exact (by repeat (first | (with_reducible first | exact HB.out | apply below_alloc | apply pw_below_drewN | apply below_drew1 | refine below_set ?_ GE207.out) | exact HB.out)))⟩; clear hw; clear HO210; clear BK207; clear HB; have HO210 := n0_; have BK207 := n1_; have HB := n2_; clear n0_ n1_ n2_; have hcz60_0 : w59.cell? ⟨gb207, 0, none⟩ = some (.slice Ao57 y208.length co57) := (blk_cell BK207.out 0).trans rfl; have hcz60_1 : w59.cell? ⟨gb207, 1, none⟩ = some (.slice none 0 0) := (blk_cell BK207.out 1).trans rfl; have hcz60_2 : w59.cell? ⟨gb207, 2, none⟩ = some (.int .i64 0) := (blk_cell BK207.out 2).trans rfl; have hcz60_3 : w59.cell? ⟨gb207, 3, none⟩ = some (.int .i64 500) := (blk_cell BK207.out 3).trans rfl; have hcz60_4 : w59.cell? ⟨gb207, 4, none⟩ = some (.int .i64 300) := (blk_cell BK207.out 4).trans rfl; have hfz60_0 := blk_frozen BK207.out 0; have hfz60_1 := blk_frozen BK207.out 1; have hfz60_2 := blk_frozen BK207.out 2; have hfz60_3 := blk_frozen BK207.out 3; have hfz60_4 := blk_frozen BK207.out 4; have n_ := Aside0.mk (Kd.R_V (base' := w.heap.size) (Kd.R_mono (ok' := (fun k_ => k_ ≠ gb207)) (Kd.R_types (HO210.out) BK207.out (by decide)) (fun k_ hk => hk.2))); clear HO210; have HO210 := n_; clear n_) | ((with_reducible refine gate_dst (N := 15) rfl ?_); (try (refine gate_guard (by rfl) ?_; dsimp only)); refine Kd.N_lit k30 _ 30 ?hg (N' := 15) ?hd (xs := ([(⟨(⟨y208, ([] : List (S64)), 0⟩ : S28), 500, 300⟩ : S30)] : List (S30))) (inner := [.slice Ao57 y208.length co57, .slice none 0 0, .int .i64 0, .int .i64 500, .int .i64 300]) (ok := (fun k_ => k_ ≠ gb207)) (okp := (fun k_ => k_ ≠ gb207)) ?hr ?hp (fun _ hk => hk) ((show ∀ k_, w59.heap.size ≤ k_ → (fun k_ => k_ ≠ gb207) k_ from fun k_ hk => Kd.freshB (g := gb207) (o := .cells #[.slice Ao57 y208.length co57, .slice none 0 0, .int .i64 0, .int .i64 500, .int .i64 300] 30 (0, 0)) (by (with_reducible repeat (first | refine blk_drewN ?_ _ | refine blk_drew ?_ | refine blk_alloc ?_ _)); exact BK207.out) k_ hk) _ (Nat.le_refl _)) (Below.refl _ _) (Nat.le_refl _) (by simp) ?_; (case hd => rfl); (case hg => rfl); (case hr => first | (go_simp; done) | (go_simp; rfl)); (case hp => exact (Reps.c5 (show Kd.FK k30 _ _ (⟨(⟨y208, ([] : List (S64)), 0⟩ : S28), 500, 300⟩ : S30) [.slice Ao57 y208.length co57, .slice none 0 0, .int .i64 0, .int .i64 500, .int .i64 300] from (k30_mkF _ _ (⟨(⟨y208, ([] : List (S64)), 0⟩ : S28), 500, 300⟩ : S30) (Kd.V_reads' (Kd.V_mono (ok' := (fun k_ => k_ ≠ gb207)) (HO210.out) (fun k_ hk => hk))).2.1 (Kd.V_F (Kd.V_mono (ok' := (fun k_ => k_ ≠ gb207)) (HO210.out) (fun k_ hk => hk))) (Nat.le_refl _) (Kd.F_nil _ _ _))) (Reps.none _ _))); intro v212 w61 ho62 hb hg_ hnew_; clear hg_ hnew_; (first | rw [← Ny211.out] at ho62 | (simp only [Int.reduceToNat] at ho62; rw [← Ny211.out] at ho62)); have n0_ := Aside0.mk (Kd.V_elder' (by (with_reducible repeat (first | apply Kd.V_alloc | apply Kd.V_drewN | apply Kd.V_drew)); exact HO210.out) (Kd.N_base ho62) hb); have n1_ := Aside0.mk (Kd.N_lower ho62 (below_size (by repeat (first | (with_reducible first | exact HB.out | apply below_alloc | apply pw_below_drewN | apply below_drew1 | refine below_set ?_ GE207.out) | exact HB.out)))); have n2_ := Aside0.mk (blk_below (g := gb207) (o := .cells #[.slice Ao57 y208.length co57, .slice none 0 0, .int .i64 0, .int .i64 500, .int .i64 300] 30 (0, 0)) (by (with_reducible repeat (first | refine blk_drewN ?_ _ | refine blk_drew ?_ | refine blk_alloc ?_ _)); exact BK207.out) hb); have n3_ := Aside0.mk (below_step (by repeat (first | (with_reducible first | exact HB.out | apply below_alloc | apply pw_below_drewN | apply below_drew1 | refine below_set ?_ GE207.out) | exact HB.out)) hb); clear HO210; clear BK207; clear HB; have HO210 := n0_; have HO213 := n1_; have BK207 := n2_; have HB := n3_; clear n0_ n1_ n2_ n3_; clear hb ho62; obtain ⟨Ao63, co63, eo63⟩ := Kd.N_slice HO213.out; subst eo63) | ((with_reducible refine gate_callee (f := 10) rfl ?_); refine goesL_ (some 16) rfl rfl Try.func10 (by kernel_rfl) rfl #[.slice Ao63 y211.length co63] rfl (by (try simp only [List.map_toArray, List.map_cons, List.map_nil]); first | done | rfl | (simp only [List.length_drop, List.length_take]; rfl)) ?_; (with_reducible refine (coraclelaw18_batches.calls k (fun k_ => k_ ≠ gb207) _ _ y211 t214 _ ?side1 A1.out).mono ?_); (case side1 => exact Kd.N_V (HO213.out)); rintro e w64 ⟨v215, rfl, ho0, hb⟩; refine ⟨_, rfl, ?_⟩; have n0_ := Aside0.mk (Kd.V_elder' (by (with_reducible repeat (first | apply Kd.V_alloc | apply Kd.V_drewN | apply Kd.V_drew)); exact HO210.out) (Kd.N_base ho0) hb); have n1_ := Aside0.mk (Kd.N_elder' (by (with_reducible repeat (first | apply Kd.N_alloc | apply Kd.N_drewN | apply Kd.N_drew)); exact HO213.out) (Kd.N_base ho0) hb); have n2_ := Aside0.mk (Kd.N_lower (Kd.N_mono (ok' := fun k_ => k_ ≠ gb207) ho0 (fun k_ hk_ => Or.elim hk_ (fun hs_ => hs_) (fun hn_ => (Kd.freshB (g := gb207) (o := .cells #[.slice Ao57 y208.length co57, .slice none 0 0, .int .i64 0, .int .i64 500, .int .i64 300] 30 (0, 0)) (by (with_reducible repeat (first | refine blk_drewN ?_ _ | refine blk_drew ?_ | refine blk_alloc ?_ _)); exact BK207.out) k_ hn_)))) (below_size (by repeat (first | (with_reducible first | exact HB.out | apply below_alloc | apply pw_below_drewN | apply below_drew1 | refine below_set ?_ GE207.out) | exact HB.out)))); have n3_ := Aside0.mk (blk_below (g := gb207) (o := .cells #[.slice Ao57 y208.length co57, .slice none 0 0, .int .i64 0, .int .i64 500, .int .i64 300] 30 (0, 0)) (by (with_reducible repeat (first | refine blk_drewN ?_ _ | refine blk_drew ?_ | refine blk_alloc ?_ _)); exact BK207.out) hb); have n4_ := Aside0.mk (below_step (by repeat (first | (with_reducible first | exact HB.out | apply below_alloc | apply pw_below_drewN | apply below_drew1 | refine below_set ?_ GE207.out) | exact HB.out)) hb); clear HO210; clear HO213; clear BK207; clear HB; have HO210 := n0_; have HO213 := n1_; have HO216 := n2_; have BK207 := n3_; have HB := n4_; clear n0_ n1_ n2_ n3_ n4_; (try clear hb); (try clear hb2); (try clear hk); (try clear hi); (try clear ho0); obtain ⟨Ao65, co65, eo65⟩ := Kd.N_slice HO216.out; subst eo65; have p217 : 0 ≤ (0 : Int) := (by omega); have q217 : 0 < (t214.length : Int) := of_decide_eq_true (by first | (with_reducible assumption) | assumption); obtain ⟨ad217, A217_0, c217_0, A217_1, c217_1, e217, hx217_0, hx217_1, hx217_2, hx217_3, hx217_4, hl217_0, hi217_0, hl217_1, hi217_1⟩ := at_T39 (Kd.N_reads' HO216.out).2.2 0 p217 q217; cases e217; obtain ⟨ce217, hce217, hMe217, hcc217⟩ := Kd.N_get HO216.out z39 0 p217 (by first | exact q217 | exact of_decide_eq_true (by first | (with_reducible assumption) | assumption) | (have e_ := (Kd.N_reads' HO216.out).1; omega)); obtain ⟨ua217_0, uc217_0, ua217_1, uc217_1, rfl, ul217_0, ge217_0, ul217_1, ge217_1⟩ := k39_openF hMe217; have hv217_0 := hcc217 0 _ rfl; rw [Nat.add_zero] at hv217_0; replace hv217_0 := Option.some.inj (hv217_0.symm.trans hx217_0); injection hv217_0 with hva_ hvn_ hvc_; rw [hva_] at ge217_0; rw [hvc_] at ul217_0; have HL217_0 := Aside0.mk (show Kd.V k38 38 _ w.heap.size _ _ ((rd_T39 t214 0).f0.f0) from Kd.V_mk ul217_0 ge217_0); clear hva_ hvn_ hvc_ ge217_0 ul217_0; have hv217_1 := hcc217 1 _ rfl; rw [add_field _ _ 1 (by omega)] at hv217_1; replace hv217_1 := Option.some.inj (hv217_1.symm.trans hx217_1); injection hv217_1 with hva_ hvn_ hvc_; rw [hva_] at ge217_1; rw [hvc_] at ul217_1; have HL217_1 := Aside0.mk (show Kd.V k64 64 _ w.heap.size _ _ ((rd_T39 t214 0).f0.f1) from Kd.V_mk ul217_1 ge217_1); clear hva_ hvn_ hvc_ ge217_1 ul217_1; clear hcc217 hce217; have qi217 : (0 < t214.length) = True := eq_true (by omega); (try rw [show ((0 : Int)).toNat = 0 from rfl] at hx217_0); (try rw [show 0 * 5 = 0 from rfl] at hx217_0); (try rw [Addr.add_zero'] at hx217_0); (try rw [show ((0 : Int)).toNat = 0 from rfl] at hx217_1); (try rw [show 0 * 5 = 0 from rfl] at hx217_1); (try rw [Addr.add_zero'] at hx217_1); (try rw [show ((0 : Int)).toNat = 0 from rfl] at hx217_2); (try rw [show 0 * 5 = 0 from rfl] at hx217_2); (try rw [Addr.add_zero'] at hx217_2); (try rw [show ((0 : Int)).toNat = 0 from rfl] at hx217_3); (try rw [show 0 * 5 = 0 from rfl] at hx217_3); (try rw [Addr.add_zero'] at hx217_3); (try rw [show ((0 : Int)).toNat = 0 from rfl] at hx217_4); (try rw [show 0 * 5 = 0 from rfl] at hx217_4); (try rw [Addr.add_zero'] at hx217_4); have HR217_0 := Aside0.mk hi217_0; have HC217_0 := Aside0.mk hl217_0; clear hi217_0 hl217_0; have HR217_1 := Aside0.mk hi217_1; have HC217_1 := Aside0.mk hl217_1; clear hi217_1 hl217_1; replace p217 := eq_true p217; replace q217 := eq_true q217) | ((with_reducible refine gate_callee (f := 15) rfl ?_); refine goesL_ (some 19) rfl rfl Try.func15 (by kernel_rfl) rfl #[.slice none 0 0, .agg #[.slice A217_0 ((rd_T39 t214 0).f0.f0).length c217_0, .slice A217_1 ((rd_T39 t214 0).f0.f1).length c217_1, .int .i64 ((rd_T39 t214 0).f0.f2), .int .i64 ((rd_T39 t214 0).f1), .int .i64 ((rd_T39 t214 0).f2)]] rfl (by (try simp only [List.map_toArray, List.map_cons, List.map_nil]); first | done | rfl | (simp only [List.length_drop, List.length_take]; rfl)) ?_; (refine (replace_Put.calls k _ _ ([] : List (S39)) _ _ ((rd_T39 t214 0).f0.f0) _ _ ((rd_T39 t214 0).f0.f1) ((rd_T39 t214 0).f0.f2) ((rd_T39 t214 0).f1) ((rd_T39 t214 0).f2) t218 true _ ?side1 ?side2 ?side3 ?side4 ?side5 ?side6 A3.out).mono ?_); (case side1 => exact Kd.C_nil _ _); (case side2 => exact Nat.le_refl _); (case side3 => repeat (first | exact (by repeat (first | (with_reducible exact HR217_0.out) | (with_reducible refine Kd.C_alloc ?_ _) | (with_reducible refine Kd.C_drewN ?_ _) | (with_reducible refine Kd.C_drew ?_) | exact HR217_0.out)) | (with_reducible refine Kd.C_alloc ?_ _) | (with_reducible refine Kd.C_drewN ?_ _) | (with_reducible refine Kd.C_drew ?_))); (case side4 => exact HC217_0.out); (case side5 => repeat (first | exact (by repeat (first | (with_reducible exact HR217_1.out) | (with_reducible refine Kd.C_alloc ?_ _) | (with_reducible refine Kd.C_drewN ?_ _) | (with_reducible refine Kd.C_drew ?_) | exact HR217_1.out)) | (with_reducible refine Kd.C_alloc ?_ _) | (with_reducible refine Kd.C_drewN ?_ _) | (with_reducible refine Kd.C_drew ?_))); (case side6 => exact HC217_1.out); rintro e w66 ⟨v219, rfl, ho0, hb⟩; refine ⟨_, rfl, ?_⟩; have n0_ := Aside0.mk (Kd.V_elder' (by (with_reducible repeat (first | apply Kd.V_alloc | apply Kd.V_drewN | apply Kd.V_drew)); exact HO210.out) (Kd.R_base ho0) hb); have n1_ := Aside0.mk (Kd.N_elder' (by (with_reducible repeat (first | apply Kd.N_alloc | apply Kd.N_drewN | apply Kd.N_drew)); exact HO213.out) (Kd.R_base ho0) hb); have n2_ := Aside0.mk (Kd.N_elder' (by (with_reducible repeat (first | apply Kd.N_alloc | apply Kd.N_drewN | apply Kd.N_drew)); exact HO216.out) (Kd.R_base ho0) hb); have n3_ := Aside0.mk (Kd.V_elder' (by (with_reducible repeat (first | apply Kd.V_alloc | apply Kd.V_drewN | apply Kd.V_drew)); exact HL217_0.out) (Kd.R_base ho0) hb); have n4_ := Aside0.mk (Kd.V_elder' (by (with_reducible repeat (first | apply Kd.V_alloc | apply Kd.V_drewN | apply Kd.V_drew)); exact HL217_1.out) (Kd.R_base ho0) hb); have n5_ := Aside0.mk (Kd.N_lower (Kd.N_mono (ok' := fun k_ => some k_ ≠ (.slice Ao63 y211.length co63 : Value).ownBlock ∧ some k_ ≠ (.slice (some ad217) t214.length co65 : Value).ownBlock ∧ k_ ≠ gb207) (Kd.R_N (Kd.R_bound ho0)) (fun k_ hk_ => ⟨(Kd.fresh' (Kd.N_lt (by (with_reducible repeat (first | apply Kd.N_alloc | apply Kd.N_drewN | apply Kd.N_drew)); exact HO213.out)) k_ hk_.2.1), (Kd.fresh' (Kd.N_lt (by (with_reducible repeat (first | apply Kd.N_alloc | apply Kd.N_drewN | apply Kd.N_drew)); exact HO216.out)) k_ hk_.2.1), (Kd.freshB (g := gb207) (o := .cells #[.slice Ao57 y208.length co57, .slice none 0 0, .int .i64 0, .int .i64 500, .int .i64 300] 30 (0, 0)) (by (with_reducible repeat (first | refine blk_drewN ?_ _ | refine blk_drew ?_ | refine blk_alloc ?_ _)); exact BK207.out) k_ hk_.2.1)⟩)) (below_size (by repeat (first | (with_reducible first | exact HB.out | apply below_alloc | apply pw_below_drewN | apply below_drew1 | refine below_set ?_ GE207.out) | exact HB.out)))); have n6_ := Aside0.mk (blk_below (g := gb207) (o := .cells #[.slice Ao57 y208.length co57, .slice none 0 0, .int .i64 0, .int .i64 500, .int .i64 300] 30 (0, 0)) (by (with_reducible repeat (first | refine blk_drewN ?_ _ | refine blk_drew ?_ | refine blk_alloc ?_ _)); exact BK207.out) hb); have n7_ := Aside0.mk (Kd.C_below (by repeat (first | (with_reducible exact HR217_0.out) | (with_reducible refine Kd.C_alloc ?_ _) | (with_reducible refine Kd.C_drewN ?_ _) | (with_reducible refine Kd.C_drew ?_) | exact HR217_0.out)) hb); have n8_ := Aside0.mk (Kd.C_below (by repeat (first | (with_reducible exact HR217_1.out) | (with_reducible refine Kd.C_alloc ?_ _) | (with_reducible refine Kd.C_drewN ?_ _) | (with_reducible refine Kd.C_drew ?_) | exact HR217_1.out)) hb); have n9_ := Aside0.mk (below_step (by repeat (first | (with_reducible first | exact HB.out | apply below_alloc | apply pw_below_drewN | apply below_drew1 | refine below_set ?_ GE207.out) | exact HB.out)) hb); clear HO210; clear HO213; clear HO216; clear HL217_0; clear HL217_1; clear BK207; clear HR217_0; clear HR217_1; clear HB; have HO210 := n0_; have HO213 := n1_; have HO216 := n2_; have HL217_0 := n3_; have HL217_1 := n4_; have HO220 := n5_; have BK207 := n6_; have HR217_0 := n7_; have HR217_1 := n8_; have HB := n9_; clear n0_ n1_ n2_ n3_ n4_ n5_ n6_ n7_ n8_ n9_; (try clear hb); (try clear hb2); (try clear hk); (try clear hi); (try clear ho0); have hcz67_0 : w66.cell? ⟨gb207, 0, none⟩ = some (.slice Ao57 y208.length co57) := (blk_cell BK207.out 0).trans rfl; have hcz67_1 : w66.cell? ⟨gb207, 1, none⟩ = some (.slice none 0 0) := (blk_cell BK207.out 1).trans rfl; have hcz67_2 : w66.cell? ⟨gb207, 2, none⟩ = some (.int .i64 0) := (blk_cell BK207.out 2).trans rfl; have hcz67_3 : w66.cell? ⟨gb207, 3, none⟩ = some (.int .i64 500) := (blk_cell BK207.out 3).trans rfl; have hcz67_4 : w66.cell? ⟨gb207, 4, none⟩ = some (.int .i64 300) := (blk_cell BK207.out 4).trans rfl; have hfz67_0 := blk_frozen BK207.out 0; have hfz67_1 := blk_frozen BK207.out 1; have hfz67_2 := blk_frozen BK207.out 2; have hfz67_3 := blk_frozen BK207.out 3; have hfz67_4 := blk_frozen BK207.out 4) | ((with_reducible refine gate_dst (N := 25) rfl ?_); (try (refine gate_guard (by rfl) ?_; dsimp only)); refine Kd.N_lit k30 _ 30 ?hg (N' := 25) ?hd (xs := ([(⟨(⟨y208, ([] : List (S64)), 0⟩ : S28), 500, 300⟩ : S30)] : List (S30))) (inner := [.slice Ao57 y208.length co57, .slice none 0 0, .int .i64 0, .int .i64 500, .int .i64 300]) (ok := (fun k_ => some k_ ≠ (.slice Ao63 y211.length co63 : Value).ownBlock ∧ some k_ ≠ (.slice (some ad217) t214.length co65 : Value).ownBlock ∧ some k_ ≠ (v219 : Value).ownBlock ∧ k_ ≠ gb207)) (okp := (fun k_ => some k_ ≠ (.slice Ao63 y211.length co63 : Value).ownBlock ∧ some k_ ≠ (.slice (some ad217) t214.length co65 : Value).ownBlock ∧ some k_ ≠ (v219 : Value).ownBlock ∧ k_ ≠ gb207)) ?hr ?hp (fun _ hk => hk) ((show ∀ k_, w66.heap.size ≤ k_ → (fun k_ => some k_ ≠ (.slice Ao63 y211.length co63 : Value).ownBlock ∧ some k_ ≠ (.slice (some ad217) t214.length co65 : Value).ownBlock ∧ some k_ ≠ (v219 : Value).ownBlock ∧ k_ ≠ gb207) k_ from fun k_ hk => ⟨Kd.fresh' (Kd.N_lt (by (with_reducible repeat (first | apply Kd.N_alloc | apply Kd.N_drewN | apply Kd.N_drew)); exact HO213.out)) k_ hk, Kd.fresh' (Kd.N_lt (by (with_reducible repeat (first | apply Kd.N_alloc | apply Kd.N_drewN | apply Kd.N_drew)); exact HO216.out)) k_ hk, Kd.fresh' (Kd.N_lt (by (with_reducible repeat (first | apply Kd.N_alloc | apply Kd.N_drewN | apply Kd.N_drew)); exact HO220.out)) k_ hk, Kd.freshB (g := gb207) (o := .cells #[.slice Ao57 y208.length co57, .slice none 0 0, .int .i64 0, .int .i64 500, .int .i64 300] 30 (0, 0)) (by (with_reducible repeat (first | refine blk_drewN ?_ _ | refine blk_drew ?_ | refine blk_alloc ?_ _)); exact BK207.out) k_ hk⟩) _ (Nat.le_refl _)) (Below.refl _ _) (Nat.le_refl _) (by simp) ?_; (case hd => rfl); (case hg => rfl); (case hr => first | (go_simp; done) | (go_simp; rfl)); (case hp => exact (Reps.c5 (show Kd.FK k30 _ _ (⟨(⟨y208, ([] : List (S64)), 0⟩ : S28), 500, 300⟩ : S30) [.slice Ao57 y208.length co57, .slice none 0 0, .int .i64 0, .int .i64 500, .int .i64 300] from (k30_mkF _ _ (⟨(⟨y208, ([] : List (S64)), 0⟩ : S28), 500, 300⟩ : S30) (Kd.V_reads' (Kd.V_mono (ok' := (fun k_ => some k_ ≠ (.slice Ao63 y211.length co63 : Value).ownBlock ∧ some k_ ≠ (.slice (some ad217) t214.length co65 : Value).ownBlock ∧ some k_ ≠ (v219 : Value).ownBlock ∧ k_ ≠ gb207)) (HO210.out) (fun k_ hk => ⟨hk.1.1.2, ⟨hk.1.2, ⟨hk.2, hk.1.1.1⟩⟩⟩))).2.1 (Kd.V_F (Kd.V_mono (ok' := (fun k_ => some k_ ≠ (.slice Ao63 y211.length co63 : Value).ownBlock ∧ some k_ ≠ (.slice (some ad217) t214.length co65 : Value).ownBlock ∧ some k_ ≠ (v219 : Value).ownBlock ∧ k_ ≠ gb207)) (HO210.out) (fun k_ hk => ⟨hk.1.1.2, ⟨hk.1.2, ⟨hk.2, hk.1.1.1⟩⟩⟩))) (Nat.le_refl _) (Kd.F_nil _ _ _))) (Reps.none _ _))); intro v223 w68 ho69 hb hg_ hnew_; clear hg_ hnew_; (first | rw [← Ny222.out] at ho69 | (simp only [Int.reduceToNat] at ho69; rw [← Ny222.out] at ho69)); have n0_ := Aside0.mk (Kd.V_elder' (by (with_reducible repeat (first | apply Kd.V_alloc | apply Kd.V_drewN | apply Kd.V_drew)); exact HO210.out) (Kd.N_base ho69) hb); have n1_ := Aside0.mk (Kd.N_elder' (by (with_reducible repeat (first | apply Kd.N_alloc | apply Kd.N_drewN | apply Kd.N_drew)); exact HO213.out) (Kd.N_base ho69) hb); have n2_ := Aside0.mk (Kd.N_elder' (by (with_reducible repeat (first | apply Kd.N_alloc | apply Kd.N_drewN | apply Kd.N_drew)); exact HO216.out) (Kd.N_base ho69) hb); have n3_ := Aside0.mk (Kd.V_elder' (by (with_reducible repeat (first | apply Kd.V_alloc | apply Kd.V_drewN | apply Kd.V_drew)); exact HL217_0.out) (Kd.N_base ho69) hb); have n4_ := Aside0.mk (Kd.V_elder' (by (with_reducible repeat (first | apply Kd.V_alloc | apply Kd.V_drewN | apply Kd.V_drew)); exact HL217_1.out) (Kd.N_base ho69) hb); have n5_ := Aside0.mk (Kd.N_elder' (by (with_reducible repeat (first | apply Kd.N_alloc | apply Kd.N_drewN | apply Kd.N_drew)); exact HO220.out) (Kd.N_base ho69) hb); have n6_ := Aside0.mk (Kd.N_lower ho69 (below_size (by repeat (first | (with_reducible first | exact HB.out | apply below_alloc | apply pw_below_drewN | apply below_drew1 | refine below_set ?_ GE207.out) | exact HB.out)))); have n7_ := Aside0.mk (blk_below (g := gb207) (o := .cells #[.slice Ao57 y208.length co57, .slice none 0 0, .int .i64 0, .int .i64 500, .int .i64 300] 30 (0, 0)) (by (with_reducible repeat (first | refine blk_drewN ?_ _ | refine blk_drew ?_ | refine blk_alloc ?_ _)); exact BK207.out) hb); have n8_ := Aside0.mk (Kd.C_below (by repeat (first | (with_reducible exact HR217_0.out) | (with_reducible refine Kd.C_alloc ?_ _) | (with_reducible refine Kd.C_drewN ?_ _) | (with_reducible refine Kd.C_drew ?_) | exact HR217_0.out)) hb); have n9_ := Aside0.mk (Kd.C_below (by repeat (first | (with_reducible exact HR217_1.out) | (with_reducible refine Kd.C_alloc ?_ _) | (with_reducible refine Kd.C_drewN ?_ _) | (with_reducible refine Kd.C_drew ?_) | exact HR217_1.out)) hb); have n10_ := Aside0.mk (below_step (by repeat (first | (with_reducible first | exact HB.out | apply below_alloc | apply pw_below_drewN | apply below_drew1 | refine below_set ?_ GE207.out) | exact HB.out)) hb); clear HO210; clear HO213; clear HO216; clear HL217_0; clear HL217_1; clear HO220; clear BK207; clear HR217_0; clear HR217_1; clear HB; have HO210 := n0_; have HO213 := n1_; have HO216 := n2_; have HL217_0 := n3_; have HL217_1 := n4_; have HO220 := n5_; have HO224 := n6_; have BK207 := n7_; have HR217_0 := n8_; have HR217_1 := n9_; have HB := n10_; clear n0_ n1_ n2_ n3_ n4_ n5_ n6_ n7_ n8_ n9_ n10_; clear hb ho69; obtain ⟨Ao70, co70, eo70⟩ := Kd.N_slice HO224.out; subst eo70) | ((with_reducible refine gate_callee (f := 10) rfl ?_); refine goesL_ (some 26) rfl rfl Try.func10 (by kernel_rfl) rfl #[.slice Ao70 y222.length co70] rfl (by (try simp only [List.map_toArray, List.map_cons, List.map_nil]); first | done | rfl | (simp only [List.length_drop, List.length_take]; rfl)) ?_; (with_reducible refine (coraclelaw18_batches.calls k (fun k_ => (some k_ ≠ (.slice Ao63 y211.length co63 : Value).ownBlock ∧ (some k_ ≠ (.slice (some ad217) t214.length co65 : Value).ownBlock ∧ (some k_ ≠ (v219 : Value).ownBlock ∧ k_ ≠ gb207)))) _ _ y222 t225 _ ?side1 A4.out).mono ?_); (case side1 => exact Kd.N_V (HO224.out)); rintro e w71 ⟨v226, rfl, ho0, hb⟩; refine ⟨_, rfl, ?_⟩; have n0_ := Aside0.mk (Kd.V_elder' (by (with_reducible repeat (first | apply Kd.V_alloc | apply Kd.V_drewN | apply Kd.V_drew)); exact HO210.out) (Kd.N_base ho0) hb); have n1_ := Aside0.mk (Kd.N_elder' (by (with_reducible repeat (first | apply Kd.N_alloc | apply Kd.N_drewN | apply Kd.N_drew)); exact HO213.out) (Kd.N_base ho0) hb); have n2_ := Aside0.mk (Kd.N_elder' (by (with_reducible repeat (first | apply Kd.N_alloc | apply Kd.N_drewN | apply Kd.N_drew)); exact HO216.out) (Kd.N_base ho0) hb); have n3_ := Aside0.mk (Kd.V_elder' (by (with_reducible repeat (first | apply Kd.V_alloc | apply Kd.V_drewN | apply Kd.V_drew)); exact HL217_0.out) (Kd.N_base ho0) hb); have n4_ := Aside0.mk (Kd.V_elder' (by (with_reducible repeat (first | apply Kd.V_alloc | apply Kd.V_drewN | apply Kd.V_drew)); exact HL217_1.out) (Kd.N_base ho0) hb); have n5_ := Aside0.mk (Kd.N_elder' (by (with_reducible repeat (first | apply Kd.N_alloc | apply Kd.N_drewN | apply Kd.N_drew)); exact HO220.out) (Kd.N_base ho0) hb); have n6_ := Aside0.mk (Kd.N_elder' (by (with_reducible repeat (first | apply Kd.N_alloc | apply Kd.N_drewN | apply Kd.N_drew)); exact HO224.out) (Kd.N_base ho0) hb); have n7_ := Aside0.mk (Kd.N_lower (Kd.N_mono (ok' := fun k_ => some k_ ≠ (.slice Ao63 y211.length co63 : Value).ownBlock ∧ some k_ ≠ (.slice (some ad217) t214.length co65 : Value).ownBlock ∧ some k_ ≠ (v219 : Value).ownBlock ∧ k_ ≠ gb207) ho0 (fun k_ hk_ => ⟨Or.elim hk_ (fun hs_ => hs_.1) (fun hn_ => (Kd.fresh' (Kd.N_lt (by (with_reducible repeat (first | apply Kd.N_alloc | apply Kd.N_drewN | apply Kd.N_drew)); exact HO213.out)) k_ hn_)), Or.elim hk_ (fun hs_ => hs_.2.1) (fun hn_ => (Kd.fresh' (Kd.N_lt (by (with_reducible repeat (first | apply Kd.N_alloc | apply Kd.N_drewN | apply Kd.N_drew)); exact HO216.out)) k_ hn_)), Or.elim hk_ (fun hs_ => hs_.2.2.1) (fun hn_ => (Kd.fresh' (Kd.N_lt (by (with_reducible repeat (first | apply Kd.N_alloc | apply Kd.N_drewN | apply Kd.N_drew)); exact HO220.out)) k_ hn_)), Or.elim hk_ (fun hs_ => hs_.2.2.2) (fun hn_ => (Kd.freshB (g := gb207) (o := .cells #[.slice Ao57 y208.length co57, .slice none 0 0, .int .i64 0, .int .i64 500, .int .i64 300] 30 (0, 0)) (by (with_reducible repeat (first | refine blk_drewN ?_ _ | refine blk_drew ?_ | refine blk_alloc ?_ _)); exact BK207.out) k_ hn_))⟩)) (below_size (by repeat (first | (with_reducible first | exact HB.out | apply below_alloc | apply pw_below_drewN | apply below_drew1 | refine below_set ?_ GE207.out) | exact HB.out)))); have n8_ := Aside0.mk (blk_below (g := gb207) (o := .cells #[.slice Ao57 y208.length co57, .slice none 0 0, .int .i64 0, .int .i64 500, .int .i64 300] 30 (0, 0)) (by (with_reducible repeat (first | refine blk_drewN ?_ _ | refine blk_drew ?_ | refine blk_alloc ?_ _)); exact BK207.out) hb); have n9_ := Aside0.mk (Kd.C_below (by repeat (first | (with_reducible exact HR217_0.out) | (with_reducible refine Kd.C_alloc ?_ _) | (with_reducible refine Kd.C_drewN ?_ _) | (with_reducible refine Kd.C_drew ?_) | exact HR217_0.out)) hb); have n10_ := Aside0.mk (Kd.C_below (by repeat (first | (with_reducible exact HR217_1.out) | (with_reducible refine Kd.C_alloc ?_ _) | (with_reducible refine Kd.C_drewN ?_ _) | (with_reducible refine Kd.C_drew ?_) | exact HR217_1.out)) hb); have n11_ := Aside0.mk (below_step (by repeat (first | (with_reducible first | exact HB.out | apply below_alloc | apply pw_below_drewN | apply below_drew1 | refine below_set ?_ GE207.out) | exact HB.out)) hb); clear HO210; clear HO213; clear HO216; clear HL217_0; clear HL217_1; clear HO220; clear HO224; clear BK207; clear HR217_0; clear HR217_1; clear HB; have HO210 := n0_; have HO213 := n1_; have HO216 := n2_; have HL217_0 := n3_; have HL217_1 := n4_; have HO220 := n5_; have HO224 := n6_; have HO227 := n7_; have BK207 := n8_; have HR217_0 := n9_; have HR217_1 := n10_; have HB := n11_; clear n0_ n1_ n2_ n3_ n4_ n5_ n6_ n7_ n8_ n9_ n10_ n11_; (try clear hb); (try clear hb2); (try clear hk); (try clear hi); (try clear ho0); obtain ⟨Ao72, co72, eo72⟩ := Kd.N_slice HO227.out; subst eo72; have p228 : 0 ≤ (0 : Int) := (by omega); have q228 : 0 < (t225.length : Int) := of_decide_eq_true (by first | (with_reducible assumption) | assumption); obtain ⟨ad228, A228_0, c228_0, A228_1, c228_1, e228, hx228_0, hx228_1, hx228_2, hx228_3, hx228_4, hl228_0, hi228_0, hl228_1, hi228_1⟩ := at_T39 (Kd.N_reads' HO227.out).2.2 0 p228 q228; cases e228; obtain ⟨ce228, hce228, hMe228, hcc228⟩ := Kd.N_get HO227.out z39 0 p228 (by first | exact q228 | exact of_decide_eq_true (by first | (with_reducible assumption) | assumption) | (have e_ := (Kd.N_reads' HO227.out).1; omega)); obtain ⟨ua228_0, uc228_0, ua228_1, uc228_1, rfl, ul228_0, ge228_0, ul228_1, ge228_1⟩ := k39_openF hMe228; have hv228_0 := hcc228 0 _ rfl; rw [Nat.add_zero] at hv228_0; replace hv228_0 := Option.some.inj (hv228_0.symm.trans hx228_0); injection hv228_0 with hva_ hvn_ hvc_; rw [hva_] at ge228_0; rw [hvc_] at ul228_0; have HL228_0 := Aside0.mk (show Kd.V k38 38 _ w.heap.size _ _ ((rd_T39 t225 0).f0.f0) from Kd.V_mk ul228_0 ge228_0); clear hva_ hvn_ hvc_ ge228_0 ul228_0; have hv228_1 := hcc228 1 _ rfl; rw [add_field _ _ 1 (by omega)] at hv228_1; replace hv228_1 := Option.some.inj (hv228_1.symm.trans hx228_1); injection hv228_1 with hva_ hvn_ hvc_; rw [hva_] at ge228_1; rw [hvc_] at ul228_1; have HL228_1 := Aside0.mk (show Kd.V k64 64 _ w.heap.size _ _ ((rd_T39 t225 0).f0.f1) from Kd.V_mk ul228_1 ge228_1); clear hva_ hvn_ hvc_ ge228_1 ul228_1; clear hcc228 hce228; have qi228 : (0 < t225.length) = True := eq_true (by omega); (try rw [show ((0 : Int)).toNat = 0 from rfl] at hx228_0); (try rw [show 0 * 5 = 0 from rfl] at hx228_0); (try rw [Addr.add_zero'] at hx228_0); (try rw [show ((0 : Int)).toNat = 0 from rfl] at hx228_1); (try rw [show 0 * 5 = 0 from rfl] at hx228_1); (try rw [Addr.add_zero'] at hx228_1); (try rw [show ((0 : Int)).toNat = 0 from rfl] at hx228_2); (try rw [show 0 * 5 = 0 from rfl] at hx228_2); (try rw [Addr.add_zero'] at hx228_2); (try rw [show ((0 : Int)).toNat = 0 from rfl] at hx228_3); (try rw [show 0 * 5 = 0 from rfl] at hx228_3); (try rw [Addr.add_zero'] at hx228_3); (try rw [show ((0 : Int)).toNat = 0 from rfl] at hx228_4); (try rw [show 0 * 5 = 0 from rfl] at hx228_4); (try rw [Addr.add_zero'] at hx228_4); have HR228_0 := Aside0.mk hi228_0; have HC228_0 := Aside0.mk hl228_0; clear hi228_0 hl228_0; have HR228_1 := Aside0.mk hi228_1; have HC228_1 := Aside0.mk hl228_1; clear hi228_1 hl228_1; replace p228 := eq_true p228; replace q228 := eq_true q228; obtain ⟨Ao73, co73, eo73⟩ := Kd.N_slice HO220.out; subst eo73) | ((with_reducible refine gate_callee (f := 15) rfl ?_); refine goesL_ (some 29) rfl rfl Try.func15 (by kernel_rfl) rfl #[.slice Ao73 t218.length co73, .agg #[.slice A228_0 ((rd_T39 t225 0).f0.f0).length c228_0, .slice A228_1 ((rd_T39 t225 0).f0.f1).length c228_1, .int .i64 ((rd_T39 t225 0).f0.f2), .int .i64 ((rd_T39 t225 0).f1), .int .i64 ((rd_T39 t225 0).f2)]] rfl (by (try simp only [List.map_toArray, List.map_cons, List.map_nil]); first | done | rfl | (simp only [List.length_drop, List.length_take]; rfl)) ?_; (with_reducible refine (replace_Put.calls k _ _ t218 _ _ ((rd_T39 t225 0).f0.f0) _ _ ((rd_T39 t225 0).f0.f1) ((rd_T39 t225 0).f0.f2) ((rd_T39 t225 0).f1) ((rd_T39 t225 0).f2) t229 false _ ?side1 ?side2 ?side3 ?side4 ?side5 ?side6 A6.out).mono ?_); (case side1 => repeat (first | exact (Kd.N_reads' HO220.out).2.2 | (with_reducible refine Kd.C_alloc ?_ _) | (with_reducible refine Kd.C_drewN ?_ _) | (with_reducible refine Kd.C_drew ?_))); (case side2 => exact (Kd.N_reads' HO220.out).2.1); (case side3 => repeat (first | exact (by repeat (first | (with_reducible exact HR228_0.out) | (with_reducible refine Kd.C_alloc ?_ _) | (with_reducible refine Kd.C_drewN ?_ _) | (with_reducible refine Kd.C_drew ?_) | exact HR228_0.out)) | (with_reducible refine Kd.C_alloc ?_ _) | (with_reducible refine Kd.C_drewN ?_ _) | (with_reducible refine Kd.C_drew ?_))); (case side4 => exact HC228_0.out); (case side5 => repeat (first | exact (by repeat (first | (with_reducible exact HR228_1.out) | (with_reducible refine Kd.C_alloc ?_ _) | (with_reducible refine Kd.C_drewN ?_ _) | (with_reducible refine Kd.C_drew ?_) | exact HR228_1.out)) | (with_reducible refine Kd.C_alloc ?_ _) | (with_reducible refine Kd.C_drewN ?_ _) | (with_reducible refine Kd.C_drew ?_))); (case side6 => exact HC228_1.out); rintro e w74 ⟨v230, rfl, ho0, hb⟩; refine ⟨_, rfl, ?_⟩; have n0_ := Aside0.mk (Kd.V_elder' (by (with_reducible repeat (first | apply Kd.V_alloc | apply Kd.V_drewN | apply Kd.V_drew)); exact HO210.out) (Kd.R_base ho0) hb); have n1_ := Aside0.mk (Kd.N_elder' (by (with_reducible repeat (first | apply Kd.N_alloc | apply Kd.N_drewN | apply Kd.N_drew)); exact HO213.out) (Kd.R_base ho0) hb); have n2_ := Aside0.mk (Kd.N_elder' (by (with_reducible repeat (first | apply Kd.N_alloc | apply Kd.N_drewN | apply Kd.N_drew)); exact HO216.out) (Kd.R_base ho0) hb); have n3_ := Aside0.mk (Kd.V_elder' (by (with_reducible repeat (first | apply Kd.V_alloc | apply Kd.V_drewN | apply Kd.V_drew)); exact HL217_0.out) (Kd.R_base ho0) hb); have n4_ := Aside0.mk (Kd.V_elder' (by (with_reducible repeat (first | apply Kd.V_alloc | apply Kd.V_drewN | apply Kd.V_drew)); exact HL217_1.out) (Kd.R_base ho0) hb); have n5_ := Aside0.mk (Kd.N_elder' (by (with_reducible repeat (first | apply Kd.N_alloc | apply Kd.N_drewN | apply Kd.N_drew)); exact HO220.out) (Kd.R_base ho0) hb); have n6_ := Aside0.mk (Kd.N_elder' (by (with_reducible repeat (first | apply Kd.N_alloc | apply Kd.N_drewN | apply Kd.N_drew)); exact HO224.out) (Kd.R_base ho0) hb); have n7_ := Aside0.mk (Kd.N_elder' (by (with_reducible repeat (first | apply Kd.N_alloc | apply Kd.N_drewN | apply Kd.N_drew)); exact HO227.out) (Kd.R_base ho0) hb); have n8_ := Aside0.mk (Kd.V_elder' (by (with_reducible repeat (first | apply Kd.V_alloc | apply Kd.V_drewN | apply Kd.V_drew)); exact HL228_0.out) (Kd.R_base ho0) hb); have n9_ := Aside0.mk (Kd.V_elder' (by (with_reducible repeat (first | apply Kd.V_alloc | apply Kd.V_drewN | apply Kd.V_drew)); exact HL228_1.out) (Kd.R_base ho0) hb); have n10_ := Aside0.mk (Kd.N_lower (Kd.N_mono (ok' := fun k_ => some k_ ≠ (.slice Ao63 y211.length co63 : Value).ownBlock ∧ some k_ ≠ (.slice (some ad217) t214.length co65 : Value).ownBlock ∧ some k_ ≠ (.slice Ao73 t218.length co73 : Value).ownBlock ∧ some k_ ≠ (.slice Ao70 y222.length co70 : Value).ownBlock ∧ some k_ ≠ (.slice (some ad228) t225.length co72 : Value).ownBlock ∧ k_ ≠ gb207) (Kd.R_N (Kd.R_bound ho0)) (fun k_ hk_ => ⟨(Kd.fresh' (Kd.N_lt (by (with_reducible repeat (first | apply Kd.N_alloc | apply Kd.N_drewN | apply Kd.N_drew)); exact HO213.out)) k_ hk_.2.1), (Kd.fresh' (Kd.N_lt (by (with_reducible repeat (first | apply Kd.N_alloc | apply Kd.N_drewN | apply Kd.N_drew)); exact HO216.out)) k_ hk_.2.1), (Kd.fresh' (Kd.N_lt (by (with_reducible repeat (first | apply Kd.N_alloc | apply Kd.N_drewN | apply Kd.N_drew)); exact HO220.out)) k_ hk_.2.1), (Kd.fresh' (Kd.N_lt (by (with_reducible repeat (first | apply Kd.N_alloc | apply Kd.N_drewN | apply Kd.N_drew)); exact HO224.out)) k_ hk_.2.1), (Kd.fresh' (Kd.N_lt (by (with_reducible repeat (first | apply Kd.N_alloc | apply Kd.N_drewN | apply Kd.N_drew)); exact HO227.out)) k_ hk_.2.1), (Kd.freshB (g := gb207) (o := .cells #[.slice Ao57 y208.length co57, .slice none 0 0, .int .i64 0, .int .i64 500, .int .i64 300] 30 (0, 0)) (by (with_reducible repeat (first | refine blk_drewN ?_ _ | refine blk_drew ?_ | refine blk_alloc ?_ _)); exact BK207.out) k_ hk_.2.1)⟩)) (below_size (by repeat (first | (with_reducible first | exact HB.out | apply below_alloc | apply pw_below_drewN | apply below_drew1 | refine below_set ?_ GE207.out) | exact HB.out)))); have n11_ := Aside0.mk (blk_below (g := gb207) (o := .cells #[.slice Ao57 y208.length co57, .slice none 0 0, .int .i64 0, .int .i64 500, .int .i64 300] 30 (0, 0)) (by (with_reducible repeat (first | refine blk_drewN ?_ _ | refine blk_drew ?_ | refine blk_alloc ?_ _)); exact BK207.out) hb); have n12_ := Aside0.mk (Kd.C_below (by repeat (first | (with_reducible exact HR217_0.out) | (with_reducible refine Kd.C_alloc ?_ _) | (with_reducible refine Kd.C_drewN ?_ _) | (with_reducible refine Kd.C_drew ?_) | exact HR217_0.out)) hb); have n13_ := Aside0.mk (Kd.C_below (by repeat (first | (with_reducible exact HR217_1.out) | (with_reducible refine Kd.C_alloc ?_ _) | (with_reducible refine Kd.C_drewN ?_ _) | (with_reducible refine Kd.C_drew ?_) | exact HR217_1.out)) hb); have n14_ := Aside0.mk (Kd.C_below (by repeat (first | (with_reducible exact HR228_0.out) | (with_reducible refine Kd.C_alloc ?_ _) | (with_reducible refine Kd.C_drewN ?_ _) | (with_reducible refine Kd.C_drew ?_) | exact HR228_0.out)) hb); have n15_ := Aside0.mk (Kd.C_below (by repeat (first | (with_reducible exact HR228_1.out) | (with_reducible refine Kd.C_alloc ?_ _) | (with_reducible refine Kd.C_drewN ?_ _) | (with_reducible refine Kd.C_drew ?_) | exact HR228_1.out)) hb); have n16_ := Aside0.mk (below_step (by repeat (first | (with_reducible first | exact HB.out | apply below_alloc | apply pw_below_drewN | apply below_drew1 | refine below_set ?_ GE207.out) | exact HB.out)) hb); clear HO210; clear HO213; clear HO216; clear HL217_0; clear HL217_1; clear HO220; clear HO224; clear HO227; clear HL228_0; clear HL228_1; clear BK207; clear HR217_0; clear HR217_1; clear HR228_0; clear HR228_1; clear HB; have HO210 := n0_; have HO213 := n1_; have HO216 := n2_; have HL217_0 := n3_; have HL217_1 := n4_; have HO220 := n5_; have HO224 := n6_; have HO227 := n7_; have HL228_0 := n8_; have HL228_1 := n9_; have HO231 := n10_; have BK207 := n11_; have HR217_0 := n12_; have HR217_1 := n13_; have HR228_0 := n14_; have HR228_1 := n15_; have HB := n16_; clear n0_ n1_ n2_ n3_ n4_ n5_ n6_ n7_ n8_ n9_ n10_ n11_ n12_ n13_ n14_ n15_ n16_; (try clear hb); (try clear hb2); (try clear hk); (try clear hi); (try clear ho0); have hcz75_0 : w74.cell? ⟨gb207, 0, none⟩ = some (.slice Ao57 y208.length co57) := (blk_cell BK207.out 0).trans rfl; have hcz75_1 : w74.cell? ⟨gb207, 1, none⟩ = some (.slice none 0 0) := (blk_cell BK207.out 1).trans rfl; have hcz75_2 : w74.cell? ⟨gb207, 2, none⟩ = some (.int .i64 0) := (blk_cell BK207.out 2).trans rfl; have hcz75_3 : w74.cell? ⟨gb207, 3, none⟩ = some (.int .i64 500) := (blk_cell BK207.out 3).trans rfl; have hcz75_4 : w74.cell? ⟨gb207, 4, none⟩ = some (.int .i64 300) := (blk_cell BK207.out 4).trans rfl; have hfz75_0 := blk_frozen BK207.out 0; have hfz75_1 := blk_frozen BK207.out 1; have hfz75_2 := blk_frozen BK207.out 2; have hfz75_3 := blk_frozen BK207.out 3; have hfz75_4 := blk_frozen BK207.out 4) | ((with_reducible refine gate_store (t := 3) (p := 32) rfl ?_); refine store_event (t := 3) (p := 32) (v := ?vo_w76) (w1 := (w74.setCell ⟨gb207, 3, none⟩ (.int .i64 5000))) ?hg ?ho ?hn ?hr ?_; (case ho => rfl); (case hg => rfl); (case hn => rfl); (case hr => first | (go_simp; done) | (go_simp; rfl)); intro w76 hw; have n0_ : Aside0 (Kd.V k38 38 w76 w.heap.size (fun k_ => some k_ ≠ (.slice Ao63 y211.length co63 : Value).ownBlock ∧ some k_ ≠ (.slice (some ad217) t214.length co65 : Value).ownBlock ∧ some k_ ≠ (.slice Ao73 t218.length co73 : Value).ownBlock ∧ some k_ ≠ (.slice Ao70 y222.length co70 : Value).ownBlock ∧ some k_ ≠ (.slice (some ad228) t225.length co72 : Value).ownBlock ∧ some k_ ≠ (v230 : Value).ownBlock ∧ k_ ≠ gb207) (.slice Ao57 y208.length co57) y208) := ⟨(by rw [hw]; exact (by (with_reducible repeat (first | apply Kd.V_alloc | apply Kd.V_drewN | apply Kd.V_drew)); exact Kd.V_mono (Kd.V_far (p := ⟨gb207, 3, none⟩) (Kd.V_mono HO210.out (fun k_ hk => (⟨hk, hk.1.1.1.1.1.1⟩ : _ ∧ k_ ≠ gb207))) (fun _ hk => hk.2) (.int .i64 5000)) (fun _ hk => ⟨hk.1.1.1.1.1.1.2, ⟨hk.1.1.1.1.1.2, ⟨hk.1.1.1.1.2, ⟨hk.1.1.1.2, ⟨hk.1.1.2, ⟨hk.1.2, hk.1.1.1.1.1.1.1⟩⟩⟩⟩⟩⟩)))⟩; have n1_ : Aside0 (Kd.N k30 30 w76 w.heap.size (fun k_ => some k_ ≠ (.slice (some ad217) t214.length co65 : Value).ownBlock ∧ some k_ ≠ (.slice Ao73 t218.length co73 : Value).ownBlock ∧ some k_ ≠ (.slice Ao70 y222.length co70 : Value).ownBlock ∧ some k_ ≠ (.slice (some ad228) t225.length co72 : Value).ownBlock ∧ some k_ ≠ (v230 : Value).ownBlock ∧ k_ ≠ gb207) (.slice Ao63 y211.length co63) y211) := ⟨(by rw [hw]; exact (by (with_reducible repeat (first | apply Kd.N_alloc | apply Kd.N_drewN | apply Kd.N_drew)); exact Kd.N_mono (Kd.N_far (p := ⟨gb207, 3, none⟩) (Kd.N_mono HO213.out (fun k_ hk => (⟨hk, hk.1.1.1.1.1⟩ : _ ∧ k_ ≠ gb207))) (fun _ hk => hk.2) (.int .i64 5000)) (fun _ hk => ⟨hk.1.1.1.1.1.2, ⟨hk.1.1.1.1.2, ⟨hk.1.1.1.2, ⟨hk.1.1.2, ⟨hk.1.2, hk.1.1.1.1.1.1⟩⟩⟩⟩⟩)))⟩; have n2_ : Aside0 (Kd.N k39 39 w76 w.heap.size (fun k_ => some k_ ≠ (.slice Ao73 t218.length co73 : Value).ownBlock ∧ some k_ ≠ (.slice Ao70 y222.length co70 : Value).ownBlock ∧ some k_ ≠ (.slice (some ad228) t225.length co72 : Value).ownBlock ∧ some k_ ≠ (v230 : Value).ownBlock ∧ k_ ≠ gb207) (.slice (some ad217) t214.length co65) t214) := ⟨(by rw [hw]; exact (by (with_reducible repeat (first | apply Kd.N_alloc | apply Kd.N_drewN | apply Kd.N_drew)); exact Kd.N_mono (Kd.N_far (p := ⟨gb207, 3, none⟩) (Kd.N_mono HO216.out (fun k_ hk => (⟨hk, hk.1.1.1.1⟩ : _ ∧ k_ ≠ gb207))) (fun _ hk => hk.2) (.int .i64 5000)) (fun _ hk => ⟨hk.1.1.1.1.2, ⟨hk.1.1.1.2, ⟨hk.1.1.2, ⟨hk.1.2, hk.1.1.1.1.1⟩⟩⟩⟩)))⟩; have n3_ : Aside0 (Kd.V k38 38 w76 w.heap.size (fun k_ => some k_ ≠ (.slice (some ad217) t214.length co65 : Value).ownBlock ∧ some k_ ≠ (.slice Ao73 t218.length co73 : Value).ownBlock ∧ some k_ ≠ (.slice Ao70 y222.length co70 : Value).ownBlock ∧ some k_ ≠ (.slice (some ad228) t225.length co72 : Value).ownBlock ∧ some k_ ≠ (v230 : Value).ownBlock ∧ k_ ≠ gb207) (.slice A217_0 ((rd_T39 t214 0).f0.f0).length c217_0) ((rd_T39 t214 0).f0.f0)) := ⟨(by rw [hw]; exact (by (with_reducible repeat (first | apply Kd.V_alloc | apply Kd.V_drewN | apply Kd.V_drew)); exact Kd.V_mono (Kd.V_far (p := ⟨gb207, 3, none⟩) (Kd.V_mono HL217_0.out (fun k_ hk => (⟨hk, hk.1.1.1.1.1⟩ : _ ∧ k_ ≠ gb207))) (fun _ hk => hk.2) (.int .i64 5000)) (fun _ hk => ⟨hk.1.1.1.1.1.2, ⟨hk.1.1.1.1.2, ⟨hk.1.1.1.2, ⟨hk.1.1.2, ⟨hk.1.2, hk.1.1.1.1.1.1⟩⟩⟩⟩⟩)))⟩; have n4_ : Aside0 (Kd.V k64 64 w76 w.heap.size (fun k_ => some k_ ≠ (.slice (some ad217) t214.length co65 : Value).ownBlock ∧ some k_ ≠ (.slice Ao73 t218.length co73 : Value).ownBlock ∧ some k_ ≠ (.slice Ao70 y222.length co70 : Value).ownBlock ∧ some k_ ≠ (.slice (some ad228) t225.length co72 : Value).ownBlock ∧ some k_ ≠ (v230 : Value).ownBlock ∧ k_ ≠ gb207) (.slice A217_1 ((rd_T39 t214 0).f0.f1).length c217_1) ((rd_T39 t214 0).f0.f1)) := ⟨(by rw [hw]; exact (by (with_reducible repeat (first | apply Kd.V_alloc | apply Kd.V_drewN | apply Kd.V_drew)); exact Kd.V_mono (Kd.V_far (p := ⟨gb207, 3, none⟩) (Kd.V_mono HL217_1.out (fun k_ hk => (⟨hk, hk.1.1.1.1.1⟩ : _ ∧ k_ ≠ gb207))) (fun _ hk => hk.2) (.int .i64 5000)) (fun _ hk => ⟨hk.1.1.1.1.1.2, ⟨hk.1.1.1.1.2, ⟨hk.1.1.1.2, ⟨hk.1.1.2, ⟨hk.1.2, hk.1.1.1.1.1.1⟩⟩⟩⟩⟩)))⟩; have n5_ : Aside0 (Kd.N k39 39 w76 w.heap.size (fun k_ => some k_ ≠ (.slice Ao63 y211.length co63 : Value).ownBlock ∧ some k_ ≠ (.slice (some ad217) t214.length co65 : Value).ownBlock ∧ some k_ ≠ (.slice Ao70 y222.length co70 : Value).ownBlock ∧ some k_ ≠ (.slice (some ad228) t225.length co72 : Value).ownBlock ∧ some k_ ≠ (v230 : Value).ownBlock ∧ k_ ≠ gb207) (.slice Ao73 t218.length co73) t218) := ⟨(by rw [hw]; exact (by (with_reducible repeat (first | apply Kd.N_alloc | apply Kd.N_drewN | apply Kd.N_drew)); exact Kd.N_mono (Kd.N_far (p := ⟨gb207, 3, none⟩) (Kd.N_mono HO220.out (fun k_ hk => (⟨hk, hk.1.1.1.2.2⟩ : _ ∧ k_ ≠ gb207))) (fun _ hk => hk.2) (.int .i64 5000)) (fun _ hk => ⟨hk.1.1.1.1.1, ⟨hk.1.1.1.1.2.1, ⟨hk.1.1.1.2, ⟨hk.1.1.2, ⟨hk.1.2, hk.1.1.1.1.2.2⟩⟩⟩⟩⟩)))⟩; have n6_ : Aside0 (Kd.N k30 30 w76 w.heap.size (fun k_ => some k_ ≠ (.slice Ao63 y211.length co63 : Value).ownBlock ∧ some k_ ≠ (.slice (some ad217) t214.length co65 : Value).ownBlock ∧ some k_ ≠ (.slice Ao73 t218.length co73 : Value).ownBlock ∧ some k_ ≠ (.slice (some ad228) t225.length co72 : Value).ownBlock ∧ some k_ ≠ (v230 : Value).ownBlock ∧ k_ ≠ gb207) (.slice Ao70 y222.length co70) y222) := ⟨(by rw [hw]; exact (by (with_reducible repeat (first | apply Kd.N_alloc | apply Kd.N_drewN | apply Kd.N_drew)); exact Kd.N_mono (Kd.N_far (p := ⟨gb207, 3, none⟩) (Kd.N_mono HO224.out (fun k_ hk => (⟨hk, hk.1.1.2.2.2⟩ : _ ∧ k_ ≠ gb207))) (fun _ hk => hk.2) (.int .i64 5000)) (fun _ hk => ⟨hk.1.1.1.1, ⟨hk.1.1.1.2.1, ⟨hk.1.1.1.2.2.1, ⟨hk.1.1.2, ⟨hk.1.2, hk.1.1.1.2.2.2⟩⟩⟩⟩⟩)))⟩; have n7_ : Aside0 (Kd.N k39 39 w76 w.heap.size (fun k_ => some k_ ≠ (.slice Ao63 y211.length co63 : Value).ownBlock ∧ some k_ ≠ (.slice (some ad217) t214.length co65 : Value).ownBlock ∧ some k_ ≠ (.slice Ao73 t218.length co73 : Value).ownBlock ∧ some k_ ≠ (v230 : Value).ownBlock ∧ k_ ≠ gb207) (.slice (some ad228) t225.length co72) t225) := ⟨(by rw [hw]; exact (by (with_reducible repeat (first | apply Kd.N_alloc | apply Kd.N_drewN | apply Kd.N_drew)); exact Kd.N_mono (Kd.N_far (p := ⟨gb207, 3, none⟩) (Kd.N_mono HO227.out (fun k_ hk => (⟨hk, hk.1.2.2.2⟩ : _ ∧ k_ ≠ gb207))) (fun _ hk => hk.2) (.int .i64 5000)) (fun _ hk => ⟨hk.1.1.1, ⟨hk.1.1.2.1, ⟨hk.1.1.2.2.1, ⟨hk.1.2, hk.1.1.2.2.2⟩⟩⟩⟩)))⟩; have n8_ : Aside0 (Kd.V k38 38 w76 w.heap.size (fun k_ => some k_ ≠ (.slice Ao63 y211.length co63 : Value).ownBlock ∧ some k_ ≠ (.slice (some ad217) t214.length co65 : Value).ownBlock ∧ some k_ ≠ (.slice Ao73 t218.length co73 : Value).ownBlock ∧ some k_ ≠ (.slice (some ad228) t225.length co72 : Value).ownBlock ∧ some k_ ≠ (v230 : Value).ownBlock ∧ k_ ≠ gb207) (.slice A228_0 ((rd_T39 t225 0).f0.f0).length c228_0) ((rd_T39 t225 0).f0.f0)) := ⟨(by rw [hw]; exact (by (with_reducible repeat (first | apply Kd.V_alloc | apply Kd.V_drewN | apply Kd.V_drew)); exact Kd.V_mono (Kd.V_far (p := ⟨gb207, 3, none⟩) (Kd.V_mono HL228_0.out (fun k_ hk => (⟨hk, hk.1.1.2.2.2⟩ : _ ∧ k_ ≠ gb207))) (fun _ hk => hk.2) (.int .i64 5000)) (fun _ hk => ⟨hk.1.1.1.1, ⟨hk.1.1.1.2.1, ⟨hk.1.1.1.2.2.1, ⟨hk.1.1.2, ⟨hk.1.2, hk.1.1.1.2.2.2⟩⟩⟩⟩⟩)))⟩; have n9_ : Aside0 (Kd.V k64 64 w76 w.heap.size (fun k_ => some k_ ≠ (.slice Ao63 y211.length co63 : Value).ownBlock ∧ some k_ ≠ (.slice (some ad217) t214.length co65 : Value).ownBlock ∧ some k_ ≠ (.slice Ao73 t218.length co73 : Value).ownBlock ∧ some k_ ≠ (.slice (some ad228) t225.length co72 : Value).ownBlock ∧ some k_ ≠ (v230 : Value).ownBlock ∧ k_ ≠ gb207) (.slice A228_1 ((rd_T39 t225 0).f0.f1).length c228_1) ((rd_T39 t225 0).f0.f1)) := ⟨(by rw [hw]; exact (by (with_reducible repeat (first | apply Kd.V_alloc | apply Kd.V_drewN | apply Kd.V_drew)); exact Kd.V_mono (Kd.V_far (p := ⟨gb207, 3, none⟩) (Kd.V_mono HL228_1.out (fun k_ hk => (⟨hk, hk.1.1.2.2.2⟩ : _ ∧ k_ ≠ gb207))) (fun _ hk => hk.2) (.int .i64 5000)) (fun _ hk => ⟨hk.1.1.1.1, ⟨hk.1.1.1.2.1, ⟨hk.1.1.1.2.2.1, ⟨hk.1.1.2, ⟨hk.1.2, hk.1.1.1.2.2.2⟩⟩⟩⟩⟩)))⟩; have n10_ : Aside0 (Kd.N k39 39 w76 w.heap.size (fun k_ => some k_ ≠ (.slice Ao63 y211.length co63 : Value).ownBlock ∧ some k_ ≠ (.slice (some ad217) t214.length co65 : Value).ownBlock ∧ some k_ ≠ (.slice Ao73 t218.length co73 : Value).ownBlock ∧ some k_ ≠ (.slice Ao70 y222.length co70 : Value).ownBlock ∧ some k_ ≠ (.slice (some ad228) t225.length co72 : Value).ownBlock ∧ k_ ≠ gb207) v230 t229) := ⟨(by rw [hw]; exact (by (with_reducible repeat (first | apply Kd.N_alloc | apply Kd.N_drewN | apply Kd.N_drew)); exact Kd.N_mono (Kd.N_far (p := ⟨gb207, 3, none⟩) (Kd.N_mono HO231.out (fun k_ hk => (⟨hk, hk.2.2.2.2.2⟩ : _ ∧ k_ ≠ gb207))) (fun _ hk => hk.2) (.int .i64 5000)) (fun _ hk => ⟨hk.1.1, ⟨hk.1.2.1, ⟨hk.1.2.2.1, ⟨hk.1.2.2.2.1, ⟨hk.1.2.2.2.2.1, hk.1.2.2.2.2.2⟩⟩⟩⟩⟩)))⟩; have n11_ : Aside0 (w76.heap[gb207]? = some (.cells #[.slice Ao57 y208.length co57, .slice none 0 0, .int .i64 0, .int .i64 5000, .int .i64 300] 30 (0, 0))) := ⟨(by rw [hw]; exact (by (with_reducible repeat (first | refine blk_drewN ?_ _ | refine blk_drew ?_ | refine blk_alloc ?_ _)); refine blk_put (cs := #[.slice Ao57 y208.length co57, .slice none 0 0, .int .i64 0, .int .i64 500, .int .i64 300]) ?_ 3 _ rfl; (with_reducible repeat (first | refine blk_drewN ?_ _ | refine blk_drew ?_ | refine blk_alloc ?_ _)); exact BK207.out))⟩; have n12_ : Aside0 (Below w.heap.size w w76) := ⟨(by rw [hw]; exact (by repeat (first | (with_reducible first | exact HB.out | apply below_alloc | apply pw_below_drewN | apply below_drew1 | refine below_set ?_ GE207.out) | exact HB.out)))⟩; clear hw; clear HO210; clear HO213; clear HO216; clear HL217_0; clear HL217_1; clear HO220; clear HO224; clear HO227; clear HL228_0; clear HL228_1; clear HO231; clear BK207; clear HB; have HO210 := n0_; have HO213 := n1_; have HO216 := n2_; have HL217_0 := n3_; (try clear HR217_0); have HR217_0 := Aside0.mk (Kd.V_reads' HL217_0.out).2.2; have HL217_1 := n4_; (try clear HR217_1); have HR217_1 := Aside0.mk (Kd.V_reads' HL217_1.out).2.2; have HO220 := n5_; have HO224 := n6_; have HO227 := n7_; have HL228_0 := n8_; (try clear HR228_0); have HR228_0 := Aside0.mk (Kd.V_reads' HL228_0.out).2.2; have HL228_1 := n9_; (try clear HR228_1); have HR228_1 := Aside0.mk (Kd.V_reads' HL228_1.out).2.2; have HO231 := n10_; have BK207 := n11_; have HB := n12_; clear n0_ n1_ n2_ n3_ n4_ n5_ n6_ n7_ n8_ n9_ n10_ n11_ n12_; have hcz77_0 : w76.cell? ⟨gb207, 0, none⟩ = some (.slice Ao57 y208.length co57) := (blk_cell BK207.out 0).trans rfl; have hcz77_1 : w76.cell? ⟨gb207, 1, none⟩ = some (.slice none 0 0) := (blk_cell BK207.out 1).trans rfl; have hcz77_2 : w76.cell? ⟨gb207, 2, none⟩ = some (.int .i64 0) := (blk_cell BK207.out 2).trans rfl; have hcz77_3 : w76.cell? ⟨gb207, 3, none⟩ = some (.int .i64 5000) := (blk_cell BK207.out 3).trans rfl; have hcz77_4 : w76.cell? ⟨gb207, 4, none⟩ = some (.int .i64 300) := (blk_cell BK207.out 4).trans rfl; have hfz77_0 := blk_frozen BK207.out 0; have hfz77_1 := blk_frozen BK207.out 1; have hfz77_2 := blk_frozen BK207.out 2; have hfz77_3 := blk_frozen BK207.out 3; have hfz77_4 := blk_frozen BK207.out 4) | ((with_reducible refine gate_store (t := 3) (p := 33) rfl ?_); refine store_event (t := 3) (p := 33) (v := ?vo_w78) (w1 := (w76.setCell ⟨gb207, 4, none⟩ (.int .i64 301))) ?hg ?ho ?hn ?hr ?_; (case ho => rfl); (case hg => rfl); (case hn => rfl); (case hr => first | (go_simp; done) | (go_simp; rfl)); intro w78 hw; have n0_ : Aside0 (Kd.V k38 38 w78 w.heap.size (fun k_ => some k_ ≠ (.slice Ao63 y211.length co63 : Value).ownBlock ∧ some k_ ≠ (.slice (some ad217) t214.length co65 : Value).ownBlock ∧ some k_ ≠ (.slice Ao73 t218.length co73 : Value).ownBlock ∧ some k_ ≠ (.slice Ao70 y222.length co70 : Value).ownBlock ∧ some k_ ≠ (.slice (some ad228) t225.length co72 : Value).ownBlock ∧ some k_ ≠ (v230 : Value).ownBlock ∧ k_ ≠ gb207) (.slice Ao57 y208.length co57) y208) := ⟨(by rw [hw]; exact (by (with_reducible repeat (first | apply Kd.V_alloc | apply Kd.V_drewN | apply Kd.V_drew)); exact Kd.V_mono (Kd.V_far (p := ⟨gb207, 4, none⟩) (Kd.V_mono HO210.out (fun k_ hk => (⟨hk, hk.2.2.2.2.2.2⟩ : _ ∧ k_ ≠ gb207))) (fun _ hk => hk.2) (.int .i64 301)) (fun _ hk => ⟨hk.1.1, ⟨hk.1.2.1, ⟨hk.1.2.2.1, ⟨hk.1.2.2.2.1, ⟨hk.1.2.2.2.2.1, ⟨hk.1.2.2.2.2.2.1, hk.1.2.2.2.2.2.2⟩⟩⟩⟩⟩⟩)))⟩; have n1_ : Aside0 (Kd.N k30 30 w78 w.heap.size (fun k_ => some k_ ≠ (.slice (some ad217) t214.length co65 : Value).ownBlock ∧ some k_ ≠ (.slice Ao73 t218.length co73 : Value).ownBlock ∧ some k_ ≠ (.slice Ao70 y222.length co70 : Value).ownBlock ∧ some k_ ≠ (.slice (some ad228) t225.length co72 : Value).ownBlock ∧ some k_ ≠ (v230 : Value).ownBlock ∧ k_ ≠ gb207) (.slice Ao63 y211.length co63) y211) := ⟨(by rw [hw]; exact (by (with_reducible repeat (first | apply Kd.N_alloc | apply Kd.N_drewN | apply Kd.N_drew)); exact Kd.N_mono (Kd.N_far (p := ⟨gb207, 4, none⟩) (Kd.N_mono HO213.out (fun k_ hk => (⟨hk, hk.2.2.2.2.2⟩ : _ ∧ k_ ≠ gb207))) (fun _ hk => hk.2) (.int .i64 301)) (fun _ hk => ⟨hk.1.1, ⟨hk.1.2.1, ⟨hk.1.2.2.1, ⟨hk.1.2.2.2.1, ⟨hk.1.2.2.2.2.1, hk.1.2.2.2.2.2⟩⟩⟩⟩⟩)))⟩; have n2_ : Aside0 (Kd.N k39 39 w78 w.heap.size (fun k_ => some k_ ≠ (.slice Ao73 t218.length co73 : Value).ownBlock ∧ some k_ ≠ (.slice Ao70 y222.length co70 : Value).ownBlock ∧ some k_ ≠ (.slice (some ad228) t225.length co72 : Value).ownBlock ∧ some k_ ≠ (v230 : Value).ownBlock ∧ k_ ≠ gb207) (.slice (some ad217) t214.length co65) t214) := ⟨(by rw [hw]; exact (by (with_reducible repeat (first | apply Kd.N_alloc | apply Kd.N_drewN | apply Kd.N_drew)); exact Kd.N_mono (Kd.N_far (p := ⟨gb207, 4, none⟩) (Kd.N_mono HO216.out (fun k_ hk => (⟨hk, hk.2.2.2.2⟩ : _ ∧ k_ ≠ gb207))) (fun _ hk => hk.2) (.int .i64 301)) (fun _ hk => ⟨hk.1.1, ⟨hk.1.2.1, ⟨hk.1.2.2.1, ⟨hk.1.2.2.2.1, hk.1.2.2.2.2⟩⟩⟩⟩)))⟩; have n3_ : Aside0 (Kd.V k38 38 w78 w.heap.size (fun k_ => some k_ ≠ (.slice (some ad217) t214.length co65 : Value).ownBlock ∧ some k_ ≠ (.slice Ao73 t218.length co73 : Value).ownBlock ∧ some k_ ≠ (.slice Ao70 y222.length co70 : Value).ownBlock ∧ some k_ ≠ (.slice (some ad228) t225.length co72 : Value).ownBlock ∧ some k_ ≠ (v230 : Value).ownBlock ∧ k_ ≠ gb207) (.slice A217_0 ((rd_T39 t214 0).f0.f0).length c217_0) ((rd_T39 t214 0).f0.f0)) := ⟨(by rw [hw]; exact (by (with_reducible repeat (first | apply Kd.V_alloc | apply Kd.V_drewN | apply Kd.V_drew)); exact Kd.V_mono (Kd.V_far (p := ⟨gb207, 4, none⟩) (Kd.V_mono HL217_0.out (fun k_ hk => (⟨hk, hk.2.2.2.2.2⟩ : _ ∧ k_ ≠ gb207))) (fun _ hk => hk.2) (.int .i64 301)) (fun _ hk => ⟨hk.1.1, ⟨hk.1.2.1, ⟨hk.1.2.2.1, ⟨hk.1.2.2.2.1, ⟨hk.1.2.2.2.2.1, hk.1.2.2.2.2.2⟩⟩⟩⟩⟩)))⟩; have n4_ : Aside0 (Kd.V k64 64 w78 w.heap.size (fun k_ => some k_ ≠ (.slice (some ad217) t214.length co65 : Value).ownBlock ∧ some k_ ≠ (.slice Ao73 t218.length co73 : Value).ownBlock ∧ some k_ ≠ (.slice Ao70 y222.length co70 : Value).ownBlock ∧ some k_ ≠ (.slice (some ad228) t225.length co72 : Value).ownBlock ∧ some k_ ≠ (v230 : Value).ownBlock ∧ k_ ≠ gb207) (.slice A217_1 ((rd_T39 t214 0).f0.f1).length c217_1) ((rd_T39 t214 0).f0.f1)) := ⟨(by rw [hw]; exact (by (with_reducible repeat (first | apply Kd.V_alloc | apply Kd.V_drewN | apply Kd.V_drew)); exact Kd.V_mono (Kd.V_far (p := ⟨gb207, 4, none⟩) (Kd.V_mono HL217_1.out (fun k_ hk => (⟨hk, hk.2.2.2.2.2⟩ : _ ∧ k_ ≠ gb207))) (fun _ hk => hk.2) (.int .i64 301)) (fun _ hk => ⟨hk.1.1, ⟨hk.1.2.1, ⟨hk.1.2.2.1, ⟨hk.1.2.2.2.1, ⟨hk.1.2.2.2.2.1, hk.1.2.2.2.2.2⟩⟩⟩⟩⟩)))⟩; have n5_ : Aside0 (Kd.N k39 39 w78 w.heap.size (fun k_ => some k_ ≠ (.slice Ao63 y211.length co63 : Value).ownBlock ∧ some k_ ≠ (.slice (some ad217) t214.length co65 : Value).ownBlock ∧ some k_ ≠ (.slice Ao70 y222.length co70 : Value).ownBlock ∧ some k_ ≠ (.slice (some ad228) t225.length co72 : Value).ownBlock ∧ some k_ ≠ (v230 : Value).ownBlock ∧ k_ ≠ gb207) (.slice Ao73 t218.length co73) t218) := ⟨(by rw [hw]; exact (by (with_reducible repeat (first | apply Kd.N_alloc | apply Kd.N_drewN | apply Kd.N_drew)); exact Kd.N_mono (Kd.N_far (p := ⟨gb207, 4, none⟩) (Kd.N_mono HO220.out (fun k_ hk => (⟨hk, hk.2.2.2.2.2⟩ : _ ∧ k_ ≠ gb207))) (fun _ hk => hk.2) (.int .i64 301)) (fun _ hk => ⟨hk.1.1, ⟨hk.1.2.1, ⟨hk.1.2.2.1, ⟨hk.1.2.2.2.1, ⟨hk.1.2.2.2.2.1, hk.1.2.2.2.2.2⟩⟩⟩⟩⟩)))⟩; have n6_ : Aside0 (Kd.N k30 30 w78 w.heap.size (fun k_ => some k_ ≠ (.slice Ao63 y211.length co63 : Value).ownBlock ∧ some k_ ≠ (.slice (some ad217) t214.length co65 : Value).ownBlock ∧ some k_ ≠ (.slice Ao73 t218.length co73 : Value).ownBlock ∧ some k_ ≠ (.slice (some ad228) t225.length co72 : Value).ownBlock ∧ some k_ ≠ (v230 : Value).ownBlock ∧ k_ ≠ gb207) (.slice Ao70 y222.length co70) y222) := ⟨(by rw [hw]; exact (by (with_reducible repeat (first | apply Kd.N_alloc | apply Kd.N_drewN | apply Kd.N_drew)); exact Kd.N_mono (Kd.N_far (p := ⟨gb207, 4, none⟩) (Kd.N_mono HO224.out (fun k_ hk => (⟨hk, hk.2.2.2.2.2⟩ : _ ∧ k_ ≠ gb207))) (fun _ hk => hk.2) (.int .i64 301)) (fun _ hk => ⟨hk.1.1, ⟨hk.1.2.1, ⟨hk.1.2.2.1, ⟨hk.1.2.2.2.1, ⟨hk.1.2.2.2.2.1, hk.1.2.2.2.2.2⟩⟩⟩⟩⟩)))⟩; have n7_ : Aside0 (Kd.N k39 39 w78 w.heap.size (fun k_ => some k_ ≠ (.slice Ao63 y211.length co63 : Value).ownBlock ∧ some k_ ≠ (.slice (some ad217) t214.length co65 : Value).ownBlock ∧ some k_ ≠ (.slice Ao73 t218.length co73 : Value).ownBlock ∧ some k_ ≠ (v230 : Value).ownBlock ∧ k_ ≠ gb207) (.slice (some ad228) t225.length co72) t225) := ⟨(by rw [hw]; exact (by (with_reducible repeat (first | apply Kd.N_alloc | apply Kd.N_drewN | apply Kd.N_drew)); exact Kd.N_mono (Kd.N_far (p := ⟨gb207, 4, none⟩) (Kd.N_mono HO227.out (fun k_ hk => (⟨hk, hk.2.2.2.2⟩ : _ ∧ k_ ≠ gb207))) (fun _ hk => hk.2) (.int .i64 301)) (fun _ hk => ⟨hk.1.1, ⟨hk.1.2.1, ⟨hk.1.2.2.1, ⟨hk.1.2.2.2.1, hk.1.2.2.2.2⟩⟩⟩⟩)))⟩; have n8_ : Aside0 (Kd.V k38 38 w78 w.heap.size (fun k_ => some k_ ≠ (.slice Ao63 y211.length co63 : Value).ownBlock ∧ some k_ ≠ (.slice (some ad217) t214.length co65 : Value).ownBlock ∧ some k_ ≠ (.slice Ao73 t218.length co73 : Value).ownBlock ∧ some k_ ≠ (.slice (some ad228) t225.length co72 : Value).ownBlock ∧ some k_ ≠ (v230 : Value).ownBlock ∧ k_ ≠ gb207) (.slice A228_0 ((rd_T39 t225 0).f0.f0).length c228_0) ((rd_T39 t225 0).f0.f0)) := ⟨(by rw [hw]; exact (by (with_reducible repeat (first | apply Kd.V_alloc | apply Kd.V_drewN | apply Kd.V_drew)); exact Kd.V_mono (Kd.V_far (p := ⟨gb207, 4, none⟩) (Kd.V_mono HL228_0.out (fun k_ hk => (⟨hk, hk.2.2.2.2.2⟩ : _ ∧ k_ ≠ gb207))) (fun _ hk => hk.2) (.int .i64 301)) (fun _ hk => ⟨hk.1.1, ⟨hk.1.2.1, ⟨hk.1.2.2.1, ⟨hk.1.2.2.2.1, ⟨hk.1.2.2.2.2.1, hk.1.2.2.2.2.2⟩⟩⟩⟩⟩)))⟩; have n9_ : Aside0 (Kd.V k64 64 w78 w.heap.size (fun k_ => some k_ ≠ (.slice Ao63 y211.length co63 : Value).ownBlock ∧ some k_ ≠ (.slice (some ad217) t214.length co65 : Value).ownBlock ∧ some k_ ≠ (.slice Ao73 t218.length co73 : Value).ownBlock ∧ some k_ ≠ (.slice (some ad228) t225.length co72 : Value).ownBlock ∧ some k_ ≠ (v230 : Value).ownBlock ∧ k_ ≠ gb207) (.slice A228_1 ((rd_T39 t225 0).f0.f1).length c228_1) ((rd_T39 t225 0).f0.f1)) := ⟨(by rw [hw]; exact (by (with_reducible repeat (first | apply Kd.V_alloc | apply Kd.V_drewN | apply Kd.V_drew)); exact Kd.V_mono (Kd.V_far (p := ⟨gb207, 4, none⟩) (Kd.V_mono HL228_1.out (fun k_ hk => (⟨hk, hk.2.2.2.2.2⟩ : _ ∧ k_ ≠ gb207))) (fun _ hk => hk.2) (.int .i64 301)) (fun _ hk => ⟨hk.1.1, ⟨hk.1.2.1, ⟨hk.1.2.2.1, ⟨hk.1.2.2.2.1, ⟨hk.1.2.2.2.2.1, hk.1.2.2.2.2.2⟩⟩⟩⟩⟩)))⟩; have n10_ : Aside0 (Kd.N k39 39 w78 w.heap.size (fun k_ => some k_ ≠ (.slice Ao63 y211.length co63 : Value).ownBlock ∧ some k_ ≠ (.slice (some ad217) t214.length co65 : Value).ownBlock ∧ some k_ ≠ (.slice Ao73 t218.length co73 : Value).ownBlock ∧ some k_ ≠ (.slice Ao70 y222.length co70 : Value).ownBlock ∧ some k_ ≠ (.slice (some ad228) t225.length co72 : Value).ownBlock ∧ k_ ≠ gb207) v230 t229) := ⟨(by rw [hw]; exact (by (with_reducible repeat (first | apply Kd.N_alloc | apply Kd.N_drewN | apply Kd.N_drew)); exact Kd.N_mono (Kd.N_far (p := ⟨gb207, 4, none⟩) (Kd.N_mono HO231.out (fun k_ hk => (⟨hk, hk.2.2.2.2.2⟩ : _ ∧ k_ ≠ gb207))) (fun _ hk => hk.2) (.int .i64 301)) (fun _ hk => ⟨hk.1.1, ⟨hk.1.2.1, ⟨hk.1.2.2.1, ⟨hk.1.2.2.2.1, ⟨hk.1.2.2.2.2.1, hk.1.2.2.2.2.2⟩⟩⟩⟩⟩)))⟩; have n11_ : Aside0 (w78.heap[gb207]? = some (.cells #[.slice Ao57 y208.length co57, .slice none 0 0, .int .i64 0, .int .i64 5000, .int .i64 301] 30 (0, 0))) := ⟨(by rw [hw]; exact (by (with_reducible repeat (first | refine blk_drewN ?_ _ | refine blk_drew ?_ | refine blk_alloc ?_ _)); refine blk_put (cs := #[.slice Ao57 y208.length co57, .slice none 0 0, .int .i64 0, .int .i64 5000, .int .i64 300]) ?_ 4 _ rfl; (with_reducible repeat (first | refine blk_drewN ?_ _ | refine blk_drew ?_ | refine blk_alloc ?_ _)); exact BK207.out))⟩; have n12_ : Aside0 (Below w.heap.size w w78) := ⟨(by rw [hw]; exact (by repeat (first | (with_reducible first | exact HB.out | apply below_alloc | apply pw_below_drewN | apply below_drew1 | refine below_set ?_ GE207.out) | exact HB.out)))⟩; clear hw; clear HO210; clear HO213; clear HO216; clear HL217_0; clear HL217_1; clear HO220; clear HO224; clear HO227; clear HL228_0; clear HL228_1; clear HO231; clear BK207; clear HB; have HO210 := n0_; have HO213 := n1_; have HO216 := n2_; have HL217_0 := n3_; (try clear HR217_0); have HR217_0 := Aside0.mk (Kd.V_reads' HL217_0.out).2.2; have HL217_1 := n4_; (try clear HR217_1); have HR217_1 := Aside0.mk (Kd.V_reads' HL217_1.out).2.2; have HO220 := n5_; have HO224 := n6_; have HO227 := n7_; have HL228_0 := n8_; (try clear HR228_0); have HR228_0 := Aside0.mk (Kd.V_reads' HL228_0.out).2.2; have HL228_1 := n9_; (try clear HR228_1); have HR228_1 := Aside0.mk (Kd.V_reads' HL228_1.out).2.2; have HO231 := n10_; have BK207 := n11_; have HB := n12_; clear n0_ n1_ n2_ n3_ n4_ n5_ n6_ n7_ n8_ n9_ n10_ n11_ n12_; have hcz79_0 : w78.cell? ⟨gb207, 0, none⟩ = some (.slice Ao57 y208.length co57) := (blk_cell BK207.out 0).trans rfl; have hcz79_1 : w78.cell? ⟨gb207, 1, none⟩ = some (.slice none 0 0) := (blk_cell BK207.out 1).trans rfl; have hcz79_2 : w78.cell? ⟨gb207, 2, none⟩ = some (.int .i64 0) := (blk_cell BK207.out 2).trans rfl; have hcz79_3 : w78.cell? ⟨gb207, 3, none⟩ = some (.int .i64 5000) := (blk_cell BK207.out 3).trans rfl; have hcz79_4 : w78.cell? ⟨gb207, 4, none⟩ = some (.int .i64 301) := (blk_cell BK207.out 4).trans rfl; have hfz79_0 := blk_frozen BK207.out 0; have hfz79_1 := blk_frozen BK207.out 1; have hfz79_2 := blk_frozen BK207.out 2; have hfz79_3 := blk_frozen BK207.out 3; have hfz79_4 := blk_frozen BK207.out 4) | ((with_reducible refine gate_dst (N := 37) rfl ?_); (try (refine gate_guard (by rfl) ?_; dsimp only)); refine Kd.N_lit k30 _ 30 ?hg (N' := 37) ?hd (xs := ([(⟨(⟨y208, ([] : List (S64)), 0⟩ : S28), 5000, 301⟩ : S30)] : List (S30))) (inner := [.slice Ao57 y208.length co57, .slice none 0 0, .int .i64 0, .int .i64 5000, .int .i64 301]) (ok := (fun k_ => some k_ ≠ (.slice Ao63 y211.length co63 : Value).ownBlock ∧ some k_ ≠ (.slice (some ad217) t214.length co65 : Value).ownBlock ∧ some k_ ≠ (.slice Ao73 t218.length co73 : Value).ownBlock ∧ some k_ ≠ (.slice Ao70 y222.length co70 : Value).ownBlock ∧ some k_ ≠ (.slice (some ad228) t225.length co72 : Value).ownBlock ∧ some k_ ≠ (v230 : Value).ownBlock ∧ k_ ≠ gb207)) (okp := (fun k_ => some k_ ≠ (.slice Ao63 y211.length co63 : Value).ownBlock ∧ some k_ ≠ (.slice (some ad217) t214.length co65 : Value).ownBlock ∧ some k_ ≠ (.slice Ao73 t218.length co73 : Value).ownBlock ∧ some k_ ≠ (.slice Ao70 y222.length co70 : Value).ownBlock ∧ some k_ ≠ (.slice (some ad228) t225.length co72 : Value).ownBlock ∧ some k_ ≠ (v230 : Value).ownBlock ∧ k_ ≠ gb207)) ?hr ?hp (fun _ hk => hk) ((show ∀ k_, w78.heap.size ≤ k_ → (fun k_ => some k_ ≠ (.slice Ao63 y211.length co63 : Value).ownBlock ∧ some k_ ≠ (.slice (some ad217) t214.length co65 : Value).ownBlock ∧ some k_ ≠ (.slice Ao73 t218.length co73 : Value).ownBlock ∧ some k_ ≠ (.slice Ao70 y222.length co70 : Value).ownBlock ∧ some k_ ≠ (.slice (some ad228) t225.length co72 : Value).ownBlock ∧ some k_ ≠ (v230 : Value).ownBlock ∧ k_ ≠ gb207) k_ from fun k_ hk => ⟨Kd.fresh' (Kd.N_lt (by (with_reducible repeat (first | apply Kd.N_alloc | apply Kd.N_drewN | apply Kd.N_drew)); exact HO213.out)) k_ hk, Kd.fresh' (Kd.N_lt (by (with_reducible repeat (first | apply Kd.N_alloc | apply Kd.N_drewN | apply Kd.N_drew)); exact HO216.out)) k_ hk, Kd.fresh' (Kd.N_lt (by (with_reducible repeat (first | apply Kd.N_alloc | apply Kd.N_drewN | apply Kd.N_drew)); exact HO220.out)) k_ hk, Kd.fresh' (Kd.N_lt (by (with_reducible repeat (first | apply Kd.N_alloc | apply Kd.N_drewN | apply Kd.N_drew)); exact HO224.out)) k_ hk, Kd.fresh' (Kd.N_lt (by (with_reducible repeat (first | apply Kd.N_alloc | apply Kd.N_drewN | apply Kd.N_drew)); exact HO227.out)) k_ hk, Kd.fresh' (Kd.N_lt (by (with_reducible repeat (first | apply Kd.N_alloc | apply Kd.N_drewN | apply Kd.N_drew)); exact HO231.out)) k_ hk, Kd.freshB (g := gb207) (o := .cells #[.slice Ao57 y208.length co57, .slice none 0 0, .int .i64 0, .int .i64 5000, .int .i64 301] 30 (0, 0)) (by (with_reducible repeat (first | refine blk_drewN ?_ _ | refine blk_drew ?_ | refine blk_alloc ?_ _)); exact BK207.out) k_ hk⟩) _ (Nat.le_refl _)) (Below.refl _ _) (Nat.le_refl _) (by simp) ?_; (case hd => rfl); (case hg => rfl); (case hr => first | (go_simp; done) | (go_simp; rfl)); (case hp => exact (Reps.c5 (show Kd.FK k30 _ _ (⟨(⟨y208, ([] : List (S64)), 0⟩ : S28), 5000, 301⟩ : S30) [.slice Ao57 y208.length co57, .slice none 0 0, .int .i64 0, .int .i64 5000, .int .i64 301] from (k30_mkF _ _ (⟨(⟨y208, ([] : List (S64)), 0⟩ : S28), 5000, 301⟩ : S30) (Kd.V_reads' (Kd.V_mono (ok' := (fun k_ => some k_ ≠ (.slice Ao63 y211.length co63 : Value).ownBlock ∧ some k_ ≠ (.slice (some ad217) t214.length co65 : Value).ownBlock ∧ some k_ ≠ (.slice Ao73 t218.length co73 : Value).ownBlock ∧ some k_ ≠ (.slice Ao70 y222.length co70 : Value).ownBlock ∧ some k_ ≠ (.slice (some ad228) t225.length co72 : Value).ownBlock ∧ some k_ ≠ (v230 : Value).ownBlock ∧ k_ ≠ gb207)) (HO210.out) (fun k_ hk => ⟨hk.1, ⟨hk.2.1, ⟨hk.2.2.1, ⟨hk.2.2.2.1, ⟨hk.2.2.2.2.1, ⟨hk.2.2.2.2.2.1, hk.2.2.2.2.2.2⟩⟩⟩⟩⟩⟩))).2.1 (Kd.V_F (Kd.V_mono (ok' := (fun k_ => some k_ ≠ (.slice Ao63 y211.length co63 : Value).ownBlock ∧ some k_ ≠ (.slice (some ad217) t214.length co65 : Value).ownBlock ∧ some k_ ≠ (.slice Ao73 t218.length co73 : Value).ownBlock ∧ some k_ ≠ (.slice Ao70 y222.length co70 : Value).ownBlock ∧ some k_ ≠ (.slice (some ad228) t225.length co72 : Value).ownBlock ∧ some k_ ≠ (v230 : Value).ownBlock ∧ k_ ≠ gb207)) (HO210.out) (fun k_ hk => ⟨hk.1, ⟨hk.2.1, ⟨hk.2.2.1, ⟨hk.2.2.2.1, ⟨hk.2.2.2.2.1, ⟨hk.2.2.2.2.2.1, hk.2.2.2.2.2.2⟩⟩⟩⟩⟩⟩))) (Nat.le_refl _) (Kd.F_nil _ _ _))) (Reps.none _ _))); intro v234 w80 ho81 hb hg_ hnew_; clear hg_ hnew_; (first | rw [← Ny233.out] at ho81 | (simp only [Int.reduceToNat] at ho81; rw [← Ny233.out] at ho81)); have n0_ := Aside0.mk (Kd.V_elder' (by (with_reducible repeat (first | apply Kd.V_alloc | apply Kd.V_drewN | apply Kd.V_drew)); exact HO210.out) (Kd.N_base ho81) hb); have n1_ := Aside0.mk (Kd.N_elder' (by (with_reducible repeat (first | apply Kd.N_alloc | apply Kd.N_drewN | apply Kd.N_drew)); exact HO213.out) (Kd.N_base ho81) hb); have n2_ := Aside0.mk (Kd.N_elder' (by (with_reducible repeat (first | apply Kd.N_alloc | apply Kd.N_drewN | apply Kd.N_drew)); exact HO216.out) (Kd.N_base ho81) hb); have n3_ := Aside0.mk (Kd.V_elder' (by (with_reducible repeat (first | apply Kd.V_alloc | apply Kd.V_drewN | apply Kd.V_drew)); exact HL217_0.out) (Kd.N_base ho81) hb); have n4_ := Aside0.mk (Kd.V_elder' (by (with_reducible repeat (first | apply Kd.V_alloc | apply Kd.V_drewN | apply Kd.V_drew)); exact HL217_1.out) (Kd.N_base ho81) hb); have n5_ := Aside0.mk (Kd.N_elder' (by (with_reducible repeat (first | apply Kd.N_alloc | apply Kd.N_drewN | apply Kd.N_drew)); exact HO220.out) (Kd.N_base ho81) hb); have n6_ := Aside0.mk (Kd.N_elder' (by (with_reducible repeat (first | apply Kd.N_alloc | apply Kd.N_drewN | apply Kd.N_drew)); exact HO224.out) (Kd.N_base ho81) hb); have n7_ := Aside0.mk (Kd.N_elder' (by (with_reducible repeat (first | apply Kd.N_alloc | apply Kd.N_drewN | apply Kd.N_drew)); exact HO227.out) (Kd.N_base ho81) hb); have n8_ := Aside0.mk (Kd.V_elder' (by (with_reducible repeat (first | apply Kd.V_alloc | apply Kd.V_drewN | apply Kd.V_drew)); exact HL228_0.out) (Kd.N_base ho81) hb); have n9_ := Aside0.mk (Kd.V_elder' (by (with_reducible repeat (first | apply Kd.V_alloc | apply Kd.V_drewN | apply Kd.V_drew)); exact HL228_1.out) (Kd.N_base ho81) hb); have n10_ := Aside0.mk (Kd.N_elder' (by (with_reducible repeat (first | apply Kd.N_alloc | apply Kd.N_drewN | apply Kd.N_drew)); exact HO231.out) (Kd.N_base ho81) hb); have n11_ := Aside0.mk (Kd.N_lower ho81 (below_size (by repeat (first | (with_reducible first | exact HB.out | apply below_alloc | apply pw_below_drewN | apply below_drew1 | refine below_set ?_ GE207.out) | exact HB.out)))); have n12_ := Aside0.mk (blk_below (g := gb207) (o := .cells #[.slice Ao57 y208.length co57, .slice none 0 0, .int .i64 0, .int .i64 5000, .int .i64 301] 30 (0, 0)) (by (with_reducible repeat (first | refine blk_drewN ?_ _ | refine blk_drew ?_ | refine blk_alloc ?_ _)); exact BK207.out) hb); have n13_ := Aside0.mk (Kd.C_below (by repeat (first | (with_reducible exact HR217_0.out) | (with_reducible refine Kd.C_alloc ?_ _) | (with_reducible refine Kd.C_drewN ?_ _) | (with_reducible refine Kd.C_drew ?_) | exact HR217_0.out)) hb); have n14_ := Aside0.mk (Kd.C_below (by repeat (first | (with_reducible exact HR217_1.out) | (with_reducible refine Kd.C_alloc ?_ _) | (with_reducible refine Kd.C_drewN ?_ _) | (with_reducible refine Kd.C_drew ?_) | exact HR217_1.out)) hb); have n15_ := Aside0.mk (Kd.C_below (by repeat (first | (with_reducible exact HR228_0.out) | (with_reducible refine Kd.C_alloc ?_ _) | (with_reducible refine Kd.C_drewN ?_ _) | (with_reducible refine Kd.C_drew ?_) | exact HR228_0.out)) hb); have n16_ := Aside0.mk (Kd.C_below (by repeat (first | (with_reducible exact HR228_1.out) | (with_reducible refine Kd.C_alloc ?_ _) | (with_reducible refine Kd.C_drewN ?_ _) | (with_reducible refine Kd.C_drew ?_) | exact HR228_1.out)) hb); have n17_ := Aside0.mk (below_step (by repeat (first | (with_reducible first | exact HB.out | apply below_alloc | apply pw_below_drewN | apply below_drew1 | refine below_set ?_ GE207.out) | exact HB.out)) hb); clear HO210; clear HO213; clear HO216; clear HL217_0; clear HL217_1; clear HO220; clear HO224; clear HO227; clear HL228_0; clear HL228_1; clear HO231; clear BK207; clear HR217_0; clear HR217_1; clear HR228_0; clear HR228_1; clear HB; have HO210 := n0_; have HO213 := n1_; have HO216 := n2_; have HL217_0 := n3_; have HL217_1 := n4_; have HO220 := n5_; have HO224 := n6_; have HO227 := n7_; have HL228_0 := n8_; have HL228_1 := n9_; have HO231 := n10_; have HO235 := n11_; have BK207 := n12_; have HR217_0 := n13_; have HR217_1 := n14_; have HR228_0 := n15_; have HR228_1 := n16_; have HB := n17_; clear n0_ n1_ n2_ n3_ n4_ n5_ n6_ n7_ n8_ n9_ n10_ n11_ n12_ n13_ n14_ n15_ n16_ n17_; clear hb ho81; obtain ⟨Ao82, co82, eo82⟩ := Kd.N_slice HO235.out; subst eo82) | ((with_reducible refine gate_callee (f := 10) rfl ?_); refine goesL_ (some 38) rfl rfl Try.func10 (by kernel_rfl) rfl #[.slice Ao82 y233.length co82] rfl (by (try simp only [List.map_toArray, List.map_cons, List.map_nil]); first | done | rfl | (simp only [List.length_drop, List.length_take]; rfl)) ?_; (with_reducible refine (coraclelaw18_batches.calls k (fun k_ => (some k_ ≠ (.slice Ao63 y211.length co63 : Value).ownBlock ∧ (some k_ ≠ (.slice (some ad217) t214.length co65 : Value).ownBlock ∧ (some k_ ≠ (.slice Ao73 t218.length co73 : Value).ownBlock ∧ (some k_ ≠ (.slice Ao70 y222.length co70 : Value).ownBlock ∧ (some k_ ≠ (.slice (some ad228) t225.length co72 : Value).ownBlock ∧ (some k_ ≠ (v230 : Value).ownBlock ∧ k_ ≠ gb207))))))) _ _ y233 t236 _ ?side1 A7.out).mono ?_); (case side1 => exact Kd.N_V (HO235.out)); rintro e w83 ⟨v237, rfl, ho0, hb⟩; refine ⟨_, rfl, ?_⟩; have n0_ := Aside0.mk (Kd.V_elder' (by (with_reducible repeat (first | apply Kd.V_alloc | apply Kd.V_drewN | apply Kd.V_drew)); exact HO210.out) (Kd.N_base ho0) hb); have n1_ := Aside0.mk (Kd.N_elder' (by (with_reducible repeat (first | apply Kd.N_alloc | apply Kd.N_drewN | apply Kd.N_drew)); exact HO213.out) (Kd.N_base ho0) hb); have n2_ := Aside0.mk (Kd.N_elder' (by (with_reducible repeat (first | apply Kd.N_alloc | apply Kd.N_drewN | apply Kd.N_drew)); exact HO216.out) (Kd.N_base ho0) hb); have n3_ := Aside0.mk (Kd.V_elder' (by (with_reducible repeat (first | apply Kd.V_alloc | apply Kd.V_drewN | apply Kd.V_drew)); exact HL217_0.out) (Kd.N_base ho0) hb); have n4_ := Aside0.mk (Kd.V_elder' (by (with_reducible repeat (first | apply Kd.V_alloc | apply Kd.V_drewN | apply Kd.V_drew)); exact HL217_1.out) (Kd.N_base ho0) hb); have n5_ := Aside0.mk (Kd.N_elder' (by (with_reducible repeat (first | apply Kd.N_alloc | apply Kd.N_drewN | apply Kd.N_drew)); exact HO220.out) (Kd.N_base ho0) hb); have n6_ := Aside0.mk (Kd.N_elder' (by (with_reducible repeat (first | apply Kd.N_alloc | apply Kd.N_drewN | apply Kd.N_drew)); exact HO224.out) (Kd.N_base ho0) hb); have n7_ := Aside0.mk (Kd.N_elder' (by (with_reducible repeat (first | apply Kd.N_alloc | apply Kd.N_drewN | apply Kd.N_drew)); exact HO227.out) (Kd.N_base ho0) hb); have n8_ := Aside0.mk (Kd.V_elder' (by (with_reducible repeat (first | apply Kd.V_alloc | apply Kd.V_drewN | apply Kd.V_drew)); exact HL228_0.out) (Kd.N_base ho0) hb); have n9_ := Aside0.mk (Kd.V_elder' (by (with_reducible repeat (first | apply Kd.V_alloc | apply Kd.V_drewN | apply Kd.V_drew)); exact HL228_1.out) (Kd.N_base ho0) hb); have n10_ := Aside0.mk (Kd.N_elder' (by (with_reducible repeat (first | apply Kd.N_alloc | apply Kd.N_drewN | apply Kd.N_drew)); exact HO231.out) (Kd.N_base ho0) hb); have n11_ := Aside0.mk (Kd.N_elder' (by (with_reducible repeat (first | apply Kd.N_alloc | apply Kd.N_drewN | apply Kd.N_drew)); exact HO235.out) (Kd.N_base ho0) hb); have n12_ := Aside0.mk (Kd.N_lower (Kd.N_mono (ok' := fun k_ => some k_ ≠ (.slice Ao63 y211.length co63 : Value).ownBlock ∧ some k_ ≠ (.slice (some ad217) t214.length co65 : Value).ownBlock ∧ some k_ ≠ (.slice Ao73 t218.length co73 : Value).ownBlock ∧ some k_ ≠ (.slice Ao70 y222.length co70 : Value).ownBlock ∧ some k_ ≠ (.slice (some ad228) t225.length co72 : Value).ownBlock ∧ some k_ ≠ (v230 : Value).ownBlock ∧ k_ ≠ gb207) ho0 (fun k_ hk_ => ⟨Or.elim hk_ (fun hs_ => hs_.1) (fun hn_ => (Kd.fresh' (Kd.N_lt (by (with_reducible repeat (first | apply Kd.N_alloc | apply Kd.N_drewN | apply Kd.N_drew)); exact HO213.out)) k_ hn_)), Or.elim hk_ (fun hs_ => hs_.2.1) (fun hn_ => (Kd.fresh' (Kd.N_lt (by (with_reducible repeat (first | apply Kd.N_alloc | apply Kd.N_drewN | apply Kd.N_drew)); exact HO216.out)) k_ hn_)), Or.elim hk_ (fun hs_ => hs_.2.2.1) (fun hn_ => (Kd.fresh' (Kd.N_lt (by (with_reducible repeat (first | apply Kd.N_alloc | apply Kd.N_drewN | apply Kd.N_drew)); exact HO220.out)) k_ hn_)), Or.elim hk_ (fun hs_ => hs_.2.2.2.1) (fun hn_ => (Kd.fresh' (Kd.N_lt (by (with_reducible repeat (first | apply Kd.N_alloc | apply Kd.N_drewN | apply Kd.N_drew)); exact HO224.out)) k_ hn_)), Or.elim hk_ (fun hs_ => hs_.2.2.2.2.1) (fun hn_ => (Kd.fresh' (Kd.N_lt (by (with_reducible repeat (first | apply Kd.N_alloc | apply Kd.N_drewN | apply Kd.N_drew)); exact HO227.out)) k_ hn_)), Or.elim hk_ (fun hs_ => hs_.2.2.2.2.2.1) (fun hn_ => (Kd.fresh' (Kd.N_lt (by (with_reducible repeat (first | apply Kd.N_alloc | apply Kd.N_drewN | apply Kd.N_drew)); exact HO231.out)) k_ hn_)), Or.elim hk_ (fun hs_ => hs_.2.2.2.2.2.2) (fun hn_ => (Kd.freshB (g := gb207) (o := .cells #[.slice Ao57 y208.length co57, .slice none 0 0, .int .i64 0, .int .i64 5000, .int .i64 301] 30 (0, 0)) (by (with_reducible repeat (first | refine blk_drewN ?_ _ | refine blk_drew ?_ | refine blk_alloc ?_ _)); exact BK207.out) k_ hn_))⟩)) (below_size (by repeat (first | (with_reducible first | exact HB.out | apply below_alloc | apply pw_below_drewN | apply below_drew1 | refine below_set ?_ GE207.out) | exact HB.out)))); have n13_ := Aside0.mk (blk_below (g := gb207) (o := .cells #[.slice Ao57 y208.length co57, .slice none 0 0, .int .i64 0, .int .i64 5000, .int .i64 301] 30 (0, 0)) (by (with_reducible repeat (first | refine blk_drewN ?_ _ | refine blk_drew ?_ | refine blk_alloc ?_ _)); exact BK207.out) hb); have n14_ := Aside0.mk (Kd.C_below (by repeat (first | (with_reducible exact HR217_0.out) | (with_reducible refine Kd.C_alloc ?_ _) | (with_reducible refine Kd.C_drewN ?_ _) | (with_reducible refine Kd.C_drew ?_) | exact HR217_0.out)) hb); have n15_ := Aside0.mk (Kd.C_below (by repeat (first | (with_reducible exact HR217_1.out) | (with_reducible refine Kd.C_alloc ?_ _) | (with_reducible refine Kd.C_drewN ?_ _) | (with_reducible refine Kd.C_drew ?_) | exact HR217_1.out)) hb); have n16_ := Aside0.mk (Kd.C_below (by repeat (first | (with_reducible exact HR228_0.out) | (with_reducible refine Kd.C_alloc ?_ _) | (with_reducible refine Kd.C_drewN ?_ _) | (with_reducible refine Kd.C_drew ?_) | exact HR228_0.out)) hb); have n17_ := Aside0.mk (Kd.C_below (by repeat (first | (with_reducible exact HR228_1.out) | (with_reducible refine Kd.C_alloc ?_ _) | (with_reducible refine Kd.C_drewN ?_ _) | (with_reducible refine Kd.C_drew ?_) | exact HR228_1.out)) hb); have n18_ := Aside0.mk (below_step (by repeat (first | (with_reducible first | exact HB.out | apply below_alloc | apply pw_below_drewN | apply below_drew1 | refine below_set ?_ GE207.out) | exact HB.out)) hb); clear HO210; clear HO213; clear HO216; clear HL217_0; clear HL217_1; clear HO220; clear HO224; clear HO227; clear HL228_0; clear HL228_1; clear HO231; clear HO235; clear BK207; clear HR217_0; clear HR217_1; clear HR228_0; clear HR228_1; clear HB; have HO210 := n0_; have HO213 := n1_; have HO216 := n2_; have HL217_0 := n3_; have HL217_1 := n4_; have HO220 := n5_; have HO224 := n6_; have HO227 := n7_; have HL228_0 := n8_; have HL228_1 := n9_; have HO231 := n10_; have HO235 := n11_; have HO238 := n12_; have BK207 := n13_; have HR217_0 := n14_; have HR217_1 := n15_; have HR228_0 := n16_; have HR228_1 := n17_; have HB := n18_; clear n0_ n1_ n2_ n3_ n4_ n5_ n6_ n7_ n8_ n9_ n10_ n11_ n12_ n13_ n14_ n15_ n16_ n17_ n18_; (try clear hb); (try clear hb2); (try clear hk); (try clear hi); (try clear ho0); obtain ⟨Ao84, co84, eo84⟩ := Kd.N_slice HO238.out; subst eo84; have p239 : 0 ≤ (0 : Int) := (by omega); have q239 : 0 < (t236.length : Int) := of_decide_eq_true (by first | (with_reducible assumption) | assumption); obtain ⟨ad239, A239_0, c239_0, A239_1, c239_1, e239, hx239_0, hx239_1, hx239_2, hx239_3, hx239_4, hl239_0, hi239_0, hl239_1, hi239_1⟩ := at_T39 (Kd.N_reads' HO238.out).2.2 0 p239 q239; cases e239; obtain ⟨ce239, hce239, hMe239, hcc239⟩ := Kd.N_get HO238.out z39 0 p239 (by first | exact q239 | exact of_decide_eq_true (by first | (with_reducible assumption) | assumption) | (have e_ := (Kd.N_reads' HO238.out).1; omega)); obtain ⟨ua239_0, uc239_0, ua239_1, uc239_1, rfl, ul239_0, ge239_0, ul239_1, ge239_1⟩ := k39_openF hMe239; have hv239_0 := hcc239 0 _ rfl; rw [Nat.add_zero] at hv239_0; replace hv239_0 := Option.some.inj (hv239_0.symm.trans hx239_0); injection hv239_0 with hva_ hvn_ hvc_; rw [hva_] at ge239_0; rw [hvc_] at ul239_0; have HL239_0 := Aside0.mk (show Kd.V k38 38 _ w.heap.size _ _ ((rd_T39 t236 0).f0.f0) from Kd.V_mk ul239_0 ge239_0); clear hva_ hvn_ hvc_ ge239_0 ul239_0; have hv239_1 := hcc239 1 _ rfl; rw [add_field _ _ 1 (by omega)] at hv239_1; replace hv239_1 := Option.some.inj (hv239_1.symm.trans hx239_1); injection hv239_1 with hva_ hvn_ hvc_; rw [hva_] at ge239_1; rw [hvc_] at ul239_1; have HL239_1 := Aside0.mk (show Kd.V k64 64 _ w.heap.size _ _ ((rd_T39 t236 0).f0.f1) from Kd.V_mk ul239_1 ge239_1); clear hva_ hvn_ hvc_ ge239_1 ul239_1; clear hcc239 hce239; have qi239 : (0 < t236.length) = True := eq_true (by omega); (try rw [show ((0 : Int)).toNat = 0 from rfl] at hx239_0); (try rw [show 0 * 5 = 0 from rfl] at hx239_0); (try rw [Addr.add_zero'] at hx239_0); (try rw [show ((0 : Int)).toNat = 0 from rfl] at hx239_1); (try rw [show 0 * 5 = 0 from rfl] at hx239_1); (try rw [Addr.add_zero'] at hx239_1); (try rw [show ((0 : Int)).toNat = 0 from rfl] at hx239_2); (try rw [show 0 * 5 = 0 from rfl] at hx239_2); (try rw [Addr.add_zero'] at hx239_2); (try rw [show ((0 : Int)).toNat = 0 from rfl] at hx239_3); (try rw [show 0 * 5 = 0 from rfl] at hx239_3); (try rw [Addr.add_zero'] at hx239_3); (try rw [show ((0 : Int)).toNat = 0 from rfl] at hx239_4); (try rw [show 0 * 5 = 0 from rfl] at hx239_4); (try rw [Addr.add_zero'] at hx239_4); have HR239_0 := Aside0.mk hi239_0; have HC239_0 := Aside0.mk hl239_0; clear hi239_0 hl239_0; have HR239_1 := Aside0.mk hi239_1; have HC239_1 := Aside0.mk hl239_1; clear hi239_1 hl239_1; replace p239 := eq_true p239; replace q239 := eq_true q239) | ((with_reducible refine gate_callee (f := 15) rfl ?_); refine goesL_ (some 41) rfl rfl Try.func15 (by kernel_rfl) rfl #[.slice Ao73 t218.length co73, .agg #[.slice A239_0 ((rd_T39 t236 0).f0.f0).length c239_0, .slice A239_1 ((rd_T39 t236 0).f0.f1).length c239_1, .int .i64 ((rd_T39 t236 0).f0.f2), .int .i64 ((rd_T39 t236 0).f1), .int .i64 ((rd_T39 t236 0).f2)]] rfl (by (try simp only [List.map_toArray, List.map_cons, List.map_nil]); first | done | rfl | (simp only [List.length_drop, List.length_take]; rfl)) ?_; (with_reducible refine (replace_Put.calls k _ _ t218 _ _ ((rd_T39 t236 0).f0.f0) _ _ ((rd_T39 t236 0).f0.f1) ((rd_T39 t236 0).f0.f2) ((rd_T39 t236 0).f1) ((rd_T39 t236 0).f2) t240 true _ ?side1 ?side2 ?side3 ?side4 ?side5 ?side6 A9.out).mono ?_); (case side1 => repeat (first | exact (Kd.N_reads' HO220.out).2.2 | (with_reducible refine Kd.C_alloc ?_ _) | (with_reducible refine Kd.C_drewN ?_ _) | (with_reducible refine Kd.C_drew ?_))); (case side2 => exact (Kd.N_reads' HO220.out).2.1); (case side3 => repeat (first | exact (by repeat (first | (with_reducible exact HR239_0.out) | (with_reducible refine Kd.C_alloc ?_ _) | (with_reducible refine Kd.C_drewN ?_ _) | (with_reducible refine Kd.C_drew ?_) | exact HR239_0.out)) | (with_reducible refine Kd.C_alloc ?_ _) | (with_reducible refine Kd.C_drewN ?_ _) | (with_reducible refine Kd.C_drew ?_))); (case side4 => exact HC239_0.out); (case side5 => repeat (first | exact (by repeat (first | (with_reducible exact HR239_1.out) | (with_reducible refine Kd.C_alloc ?_ _) | (with_reducible refine Kd.C_drewN ?_ _) | (with_reducible refine Kd.C_drew ?_) | exact HR239_1.out)) | (with_reducible refine Kd.C_alloc ?_ _) | (with_reducible refine Kd.C_drewN ?_ _) | (with_reducible refine Kd.C_drew ?_))); (case side6 => exact HC239_1.out); rintro e w85 ⟨v241, rfl, ho0, hb⟩; refine ⟨_, rfl, ?_⟩; have n0_ := Aside0.mk (Kd.V_elder' (by (with_reducible repeat (first | apply Kd.V_alloc | apply Kd.V_drewN | apply Kd.V_drew)); exact HO210.out) (Kd.R_base ho0) hb); have n1_ := Aside0.mk (Kd.N_elder' (by (with_reducible repeat (first | apply Kd.N_alloc | apply Kd.N_drewN | apply Kd.N_drew)); exact HO213.out) (Kd.R_base ho0) hb); have n2_ := Aside0.mk (Kd.N_elder' (by (with_reducible repeat (first | apply Kd.N_alloc | apply Kd.N_drewN | apply Kd.N_drew)); exact HO216.out) (Kd.R_base ho0) hb); have n3_ := Aside0.mk (Kd.V_elder' (by (with_reducible repeat (first | apply Kd.V_alloc | apply Kd.V_drewN | apply Kd.V_drew)); exact HL217_0.out) (Kd.R_base ho0) hb); have n4_ := Aside0.mk (Kd.V_elder' (by (with_reducible repeat (first | apply Kd.V_alloc | apply Kd.V_drewN | apply Kd.V_drew)); exact HL217_1.out) (Kd.R_base ho0) hb); have n5_ := Aside0.mk (Kd.N_elder' (by (with_reducible repeat (first | apply Kd.N_alloc | apply Kd.N_drewN | apply Kd.N_drew)); exact HO220.out) (Kd.R_base ho0) hb); have n6_ := Aside0.mk (Kd.N_elder' (by (with_reducible repeat (first | apply Kd.N_alloc | apply Kd.N_drewN | apply Kd.N_drew)); exact HO224.out) (Kd.R_base ho0) hb); have n7_ := Aside0.mk (Kd.N_elder' (by (with_reducible repeat (first | apply Kd.N_alloc | apply Kd.N_drewN | apply Kd.N_drew)); exact HO227.out) (Kd.R_base ho0) hb); have n8_ := Aside0.mk (Kd.V_elder' (by (with_reducible repeat (first | apply Kd.V_alloc | apply Kd.V_drewN | apply Kd.V_drew)); exact HL228_0.out) (Kd.R_base ho0) hb); have n9_ := Aside0.mk (Kd.V_elder' (by (with_reducible repeat (first | apply Kd.V_alloc | apply Kd.V_drewN | apply Kd.V_drew)); exact HL228_1.out) (Kd.R_base ho0) hb); have n10_ := Aside0.mk (Kd.N_elder' (by (with_reducible repeat (first | apply Kd.N_alloc | apply Kd.N_drewN | apply Kd.N_drew)); exact HO231.out) (Kd.R_base ho0) hb); have n11_ := Aside0.mk (Kd.N_elder' (by (with_reducible repeat (first | apply Kd.N_alloc | apply Kd.N_drewN | apply Kd.N_drew)); exact HO235.out) (Kd.R_base ho0) hb); have n12_ := Aside0.mk (Kd.N_elder' (by (with_reducible repeat (first | apply Kd.N_alloc | apply Kd.N_drewN | apply Kd.N_drew)); exact HO238.out) (Kd.R_base ho0) hb); have n13_ := Aside0.mk (Kd.V_elder' (by (with_reducible repeat (first | apply Kd.V_alloc | apply Kd.V_drewN | apply Kd.V_drew)); exact HL239_0.out) (Kd.R_base ho0) hb); have n14_ := Aside0.mk (Kd.V_elder' (by (with_reducible repeat (first | apply Kd.V_alloc | apply Kd.V_drewN | apply Kd.V_drew)); exact HL239_1.out) (Kd.R_base ho0) hb); have n15_ := Aside0.mk (Kd.N_lower (Kd.N_mono (ok' := fun k_ => some k_ ≠ (.slice Ao63 y211.length co63 : Value).ownBlock ∧ some k_ ≠ (.slice (some ad217) t214.length co65 : Value).ownBlock ∧ some k_ ≠ (.slice Ao73 t218.length co73 : Value).ownBlock ∧ some k_ ≠ (.slice Ao70 y222.length co70 : Value).ownBlock ∧ some k_ ≠ (.slice (some ad228) t225.length co72 : Value).ownBlock ∧ some k_ ≠ (v230 : Value).ownBlock ∧ some k_ ≠ (.slice Ao82 y233.length co82 : Value).ownBlock ∧ some k_ ≠ (.slice (some ad239) t236.length co84 : Value).ownBlock ∧ k_ ≠ gb207) (Kd.R_N (Kd.R_bound ho0)) (fun k_ hk_ => ⟨(Kd.fresh' (Kd.N_lt (by (with_reducible repeat (first | apply Kd.N_alloc | apply Kd.N_drewN | apply Kd.N_drew)); exact HO213.out)) k_ hk_.2.1), (Kd.fresh' (Kd.N_lt (by (with_reducible repeat (first | apply Kd.N_alloc | apply Kd.N_drewN | apply Kd.N_drew)); exact HO216.out)) k_ hk_.2.1), (Kd.fresh' (Kd.N_lt (by (with_reducible repeat (first | apply Kd.N_alloc | apply Kd.N_drewN | apply Kd.N_drew)); exact HO220.out)) k_ hk_.2.1), (Kd.fresh' (Kd.N_lt (by (with_reducible repeat (first | apply Kd.N_alloc | apply Kd.N_drewN | apply Kd.N_drew)); exact HO224.out)) k_ hk_.2.1), (Kd.fresh' (Kd.N_lt (by (with_reducible repeat (first | apply Kd.N_alloc | apply Kd.N_drewN | apply Kd.N_drew)); exact HO227.out)) k_ hk_.2.1), (Kd.fresh' (Kd.N_lt (by (with_reducible repeat (first | apply Kd.N_alloc | apply Kd.N_drewN | apply Kd.N_drew)); exact HO231.out)) k_ hk_.2.1), (Kd.fresh' (Kd.N_lt (by (with_reducible repeat (first | apply Kd.N_alloc | apply Kd.N_drewN | apply Kd.N_drew)); exact HO235.out)) k_ hk_.2.1), (Kd.fresh' (Kd.N_lt (by (with_reducible repeat (first | apply Kd.N_alloc | apply Kd.N_drewN | apply Kd.N_drew)); exact HO238.out)) k_ hk_.2.1), (Kd.freshB (g := gb207) (o := .cells #[.slice Ao57 y208.length co57, .slice none 0 0, .int .i64 0, .int .i64 5000, .int .i64 301] 30 (0, 0)) (by (with_reducible repeat (first | refine blk_drewN ?_ _ | refine blk_drew ?_ | refine blk_alloc ?_ _)); exact BK207.out) k_ hk_.2.1)⟩)) (below_size (by repeat (first | (with_reducible first | exact HB.out | apply below_alloc | apply pw_below_drewN | apply below_drew1 | refine below_set ?_ GE207.out) | exact HB.out)))); have n16_ := Aside0.mk (blk_below (g := gb207) (o := .cells #[.slice Ao57 y208.length co57, .slice none 0 0, .int .i64 0, .int .i64 5000, .int .i64 301] 30 (0, 0)) (by (with_reducible repeat (first | refine blk_drewN ?_ _ | refine blk_drew ?_ | refine blk_alloc ?_ _)); exact BK207.out) hb); have n17_ := Aside0.mk (Kd.C_below (by repeat (first | (with_reducible exact HR217_0.out) | (with_reducible refine Kd.C_alloc ?_ _) | (with_reducible refine Kd.C_drewN ?_ _) | (with_reducible refine Kd.C_drew ?_) | exact HR217_0.out)) hb); have n18_ := Aside0.mk (Kd.C_below (by repeat (first | (with_reducible exact HR217_1.out) | (with_reducible refine Kd.C_alloc ?_ _) | (with_reducible refine Kd.C_drewN ?_ _) | (with_reducible refine Kd.C_drew ?_) | exact HR217_1.out)) hb); have n19_ := Aside0.mk (Kd.C_below (by repeat (first | (with_reducible exact HR228_0.out) | (with_reducible refine Kd.C_alloc ?_ _) | (with_reducible refine Kd.C_drewN ?_ _) | (with_reducible refine Kd.C_drew ?_) | exact HR228_0.out)) hb); have n20_ := Aside0.mk (Kd.C_below (by repeat (first | (with_reducible exact HR228_1.out) | (with_reducible refine Kd.C_alloc ?_ _) | (with_reducible refine Kd.C_drewN ?_ _) | (with_reducible refine Kd.C_drew ?_) | exact HR228_1.out)) hb); have n21_ := Aside0.mk (Kd.C_below (by repeat (first | (with_reducible exact HR239_0.out) | (with_reducible refine Kd.C_alloc ?_ _) | (with_reducible refine Kd.C_drewN ?_ _) | (with_reducible refine Kd.C_drew ?_) | exact HR239_0.out)) hb); have n22_ := Aside0.mk (Kd.C_below (by repeat (first | (with_reducible exact HR239_1.out) | (with_reducible refine Kd.C_alloc ?_ _) | (with_reducible refine Kd.C_drewN ?_ _) | (with_reducible refine Kd.C_drew ?_) | exact HR239_1.out)) hb); have n23_ := Aside0.mk (below_step (by repeat (first | (with_reducible first | exact HB.out | apply below_alloc | apply pw_below_drewN | apply below_drew1 | refine below_set ?_ GE207.out) | exact HB.out)) hb); clear HO210; clear HO213; clear HO216; clear HL217_0; clear HL217_1; clear HO220; clear HO224; clear HO227; clear HL228_0; clear HL228_1; clear HO231; clear HO235; clear HO238; clear HL239_0; clear HL239_1; clear BK207; clear HR217_0; clear HR217_1; clear HR228_0; clear HR228_1; clear HR239_0; clear HR239_1; clear HB; have HO210 := n0_; have HO213 := n1_; have HO216 := n2_; have HL217_0 := n3_; have HL217_1 := n4_; have HO220 := n5_; have HO224 := n6_; have HO227 := n7_; have HL228_0 := n8_; have HL228_1 := n9_; have HO231 := n10_; have HO235 := n11_; have HO238 := n12_; have HL239_0 := n13_; have HL239_1 := n14_; have HO242 := n15_; have BK207 := n16_; have HR217_0 := n17_; have HR217_1 := n18_; have HR228_0 := n19_; have HR228_1 := n20_; have HR239_0 := n21_; have HR239_1 := n22_; have HB := n23_; clear n0_ n1_ n2_ n3_ n4_ n5_ n6_ n7_ n8_ n9_ n10_ n11_ n12_ n13_ n14_ n15_ n16_ n17_ n18_ n19_ n20_ n21_ n22_ n23_; (try clear hb); (try clear hb2); (try clear hk); (try clear hi); (try clear ho0)))
            have n0_ := Aside0.mk (Kd.V_drew HO210.out)
            have n1_ := Aside0.mk (Kd.N_drew HO213.out)
            have n2_ := Aside0.mk (Kd.N_drew HO216.out)
            have n3_ := Aside0.mk (Kd.V_drew HL217_0.out)
            have n4_ := Aside0.mk (Kd.V_drew HL217_1.out)
            have n5_ := Aside0.mk (Kd.N_drew HO220.out)
            have n6_ := Aside0.mk (Kd.N_drew HO224.out)
            have n7_ := Aside0.mk (Kd.N_drew HO227.out)
            have n8_ := Aside0.mk (Kd.V_drew HL228_0.out)
            have n9_ := Aside0.mk (Kd.V_drew HL228_1.out)
            have n10_ := Aside0.mk (Kd.N_drew HO231.out)
            have n11_ := Aside0.mk (Kd.N_drew HO235.out)
            have n12_ := Aside0.mk (Kd.N_drew HO238.out)
            have n13_ := Aside0.mk (Kd.V_drew HL239_0.out)
            have n14_ := Aside0.mk (Kd.V_drew HL239_1.out)
            have n15_ := Aside0.mk (Kd.N_drew HO242.out)
            have n16_ := Aside0.mk (blk_drew BK207.out)
            have n17_ := Aside0.mk (Kd.C_drew HR217_0.out)
            have n18_ := Aside0.mk (Kd.C_drew HR217_1.out)
            have n19_ := Aside0.mk (Kd.C_drew HR228_0.out)
            have n20_ := Aside0.mk (Kd.C_drew HR228_1.out)
            have n21_ := Aside0.mk (Kd.C_drew HR239_0.out)
            have n22_ := Aside0.mk (Kd.C_drew HR239_1.out)
            have n23_ := Aside0.mk (below_drew1 HB.out)
            clear HO210
            clear HO213
            clear HO216
            clear HL217_0
            clear HL217_1
            clear HO220
            clear HO224
            clear HO227
            clear HL228_0
            clear HL228_1
            clear HO231
            clear HO235
            clear HO238
            clear HL239_0
            clear HL239_1
            clear HO242
            clear BK207
            clear HR217_0
            clear HR217_1
            clear HR228_0
            clear HR228_1
            clear HR239_0
            clear HR239_1
            clear HB
            have HO210 := n0_
            have HO213 := n1_
            have HO216 := n2_
            have HL217_0 := n3_
            have HL217_1 := n4_
            have HO220 := n5_
            have HO224 := n6_
            have HO227 := n7_
            have HL228_0 := n8_
            have HL228_1 := n9_
            have HO231 := n10_
            have HO235 := n11_
            have HO238 := n12_
            have HL239_0 := n13_
            have HL239_1 := n14_
            have HO242 := n15_
            have BK207 := n16_
            have HR217_0 := n17_
            have HR217_1 := n18_
            have HR228_0 := n19_
            have HR228_1 := n20_
            have HR239_0 := n21_
            have HR239_1 := n22_
            have HB := n23_
            clear n0_ n1_ n2_ n3_ n4_ n5_ n6_ n7_ n8_ n9_ n10_ n11_ n12_ n13_ n14_ n15_ n16_ n17_ n18_ n19_ n20_ n21_ n22_ n23_
            obtain ⟨Ao87, co87, eo87⟩ := Kd.N_slice HO242.out
            (first | subst eo87 | (injection eo87 with f1_ f2_ f3_; have f4_ := f1_.symm; have f5_ := f3_.symm; clear f1_ f2_ f3_; subst f4_; subst f5_))
            have p244 : 0 ≤ (0 : Int) := (by omega)
            have q244 : 0 < (t240.length : Int) := of_decide_eq_true (by first | (with_reducible assumption) | assumption)
            obtain ⟨ad244, A244_0, c244_0, A244_1, c244_1, e244, hx244_0, hx244_1, hx244_2, hx244_3, hx244_4, hl244_0, hi244_0, hl244_1, hi244_1⟩ := at_T39 (Kd.N_reads' HO242.out).2.2 0 p244 q244
            cases e244
            obtain ⟨ce244, hce244, hMe244, hcc244⟩ := Kd.N_get HO242.out z39 0 p244 (by first | exact q244 | exact of_decide_eq_true (by first | (with_reducible assumption) | assumption) | (have e_ := (Kd.N_reads' HO242.out).1; omega))
            obtain ⟨ua244_0, uc244_0, ua244_1, uc244_1, rfl, ul244_0, ge244_0, ul244_1, ge244_1⟩ := k39_openF hMe244
            have hv244_0 := hcc244 0 _ rfl
            rw [Nat.add_zero] at hv244_0
            replace hv244_0 := Option.some.inj (hv244_0.symm.trans hx244_0)
            injection hv244_0 with hva_ hvn_ hvc_
            rw [hva_] at ge244_0
            rw [hvc_] at ul244_0
            have HL244_0 := Aside0.mk (show Kd.V k38 38 _ w.heap.size _ _ ((rd_T39 t240 0).f0.f0) from Kd.V_mk ul244_0 ge244_0)
            clear hva_ hvn_ hvc_ ge244_0 ul244_0
            have hv244_1 := hcc244 1 _ rfl
            rw [add_field _ _ 1 (by omega)] at hv244_1
            replace hv244_1 := Option.some.inj (hv244_1.symm.trans hx244_1)
            injection hv244_1 with hva_ hvn_ hvc_
            rw [hva_] at ge244_1
            rw [hvc_] at ul244_1
            have HL244_1 := Aside0.mk (show Kd.V k64 64 _ w.heap.size _ _ ((rd_T39 t240 0).f0.f1) from Kd.V_mk ul244_1 ge244_1)
            clear hva_ hvn_ hvc_ ge244_1 ul244_1
            clear hcc244 hce244
            have qi244 : (0 < t240.length) = True := eq_true (by omega)
            (try rw [show ((0 : Int)).toNat = 0 from rfl] at hx244_0)
            (try rw [show 0 * 5 = 0 from rfl] at hx244_0)
            (try rw [Addr.add_zero'] at hx244_0)
            (try rw [show ((0 : Int)).toNat = 0 from rfl] at hx244_1)
            (try rw [show 0 * 5 = 0 from rfl] at hx244_1)
            (try rw [Addr.add_zero'] at hx244_1)
            (try rw [show ((0 : Int)).toNat = 0 from rfl] at hx244_2)
            (try rw [show 0 * 5 = 0 from rfl] at hx244_2)
            (try rw [Addr.add_zero'] at hx244_2)
            (try rw [show ((0 : Int)).toNat = 0 from rfl] at hx244_3)
            (try rw [show 0 * 5 = 0 from rfl] at hx244_3)
            (try rw [Addr.add_zero'] at hx244_3)
            (try rw [show ((0 : Int)).toNat = 0 from rfl] at hx244_4)
            (try rw [show 0 * 5 = 0 from rfl] at hx244_4)
            (try rw [Addr.add_zero'] at hx244_4)
            have HR244_0 := Aside0.mk hi244_0
            have HC244_0 := Aside0.mk hl244_0
            clear hi244_0 hl244_0
            have HR244_1 := Aside0.mk hi244_1
            have HC244_1 := Aside0.mk hl244_1
            clear hi244_1 hl244_1
            replace p244 := eq_true p244
            replace q244 := eq_true q244
            have p245 : 0 ≤ (0 : Int) := (by omega)
            have q245 : 0 < (t218.length : Int) := of_decide_eq_true (by first | (with_reducible assumption) | assumption)
            obtain ⟨ad245, A245_0, c245_0, A245_1, c245_1, e245, hx245_0, hx245_1, hx245_2, hx245_3, hx245_4, hl245_0, hi245_0, hl245_1, hi245_1⟩ := at_T39 (Kd.N_reads' HO220.out).2.2 0 p245 q245
            cases e245
            obtain ⟨ce245, hce245, hMe245, hcc245⟩ := Kd.N_get HO220.out z39 0 p245 (by first | exact q245 | exact of_decide_eq_true (by first | (with_reducible assumption) | assumption) | (have e_ := (Kd.N_reads' HO220.out).1; omega))
            obtain ⟨ua245_0, uc245_0, ua245_1, uc245_1, rfl, ul245_0, ge245_0, ul245_1, ge245_1⟩ := k39_openF hMe245
            have hv245_0 := hcc245 0 _ rfl
            rw [Nat.add_zero] at hv245_0
            replace hv245_0 := Option.some.inj (hv245_0.symm.trans hx245_0)
            injection hv245_0 with hva_ hvn_ hvc_
            rw [hva_] at ge245_0
            rw [hvc_] at ul245_0
            have HL245_0 := Aside0.mk (show Kd.V k38 38 _ w.heap.size _ _ ((rd_T39 t218 0).f0.f0) from Kd.V_mk ul245_0 ge245_0)
            clear hva_ hvn_ hvc_ ge245_0 ul245_0
            have hv245_1 := hcc245 1 _ rfl
            rw [add_field _ _ 1 (by omega)] at hv245_1
            replace hv245_1 := Option.some.inj (hv245_1.symm.trans hx245_1)
            injection hv245_1 with hva_ hvn_ hvc_
            rw [hva_] at ge245_1
            rw [hvc_] at ul245_1
            have HL245_1 := Aside0.mk (show Kd.V k64 64 _ w.heap.size _ _ ((rd_T39 t218 0).f0.f1) from Kd.V_mk ul245_1 ge245_1)
            clear hva_ hvn_ hvc_ ge245_1 ul245_1
            clear hcc245 hce245
            have qi245 : (0 < t218.length) = True := eq_true (by omega)
            (try rw [show ((0 : Int)).toNat = 0 from rfl] at hx245_0)
            (try rw [show 0 * 5 = 0 from rfl] at hx245_0)
            (try rw [Addr.add_zero'] at hx245_0)
            (try rw [show ((0 : Int)).toNat = 0 from rfl] at hx245_1)
            (try rw [show 0 * 5 = 0 from rfl] at hx245_1)
            (try rw [Addr.add_zero'] at hx245_1)
            (try rw [show ((0 : Int)).toNat = 0 from rfl] at hx245_2)
            (try rw [show 0 * 5 = 0 from rfl] at hx245_2)
            (try rw [Addr.add_zero'] at hx245_2)
            (try rw [show ((0 : Int)).toNat = 0 from rfl] at hx245_3)
            (try rw [show 0 * 5 = 0 from rfl] at hx245_3)
            (try rw [Addr.add_zero'] at hx245_3)
            (try rw [show ((0 : Int)).toNat = 0 from rfl] at hx245_4)
            (try rw [show 0 * 5 = 0 from rfl] at hx245_4)
            (try rw [Addr.add_zero'] at hx245_4)
            have HR245_0 := Aside0.mk hi245_0
            have HC245_0 := Aside0.mk hl245_0
            clear hi245_0 hl245_0
            have HR245_1 := Aside0.mk hi245_1
            have HC245_1 := Aside0.mk hl245_1
            clear hi245_1 hl245_1
            replace p245 := eq_true p245
            replace q245 := eq_true q245
            have p246 : 0 ≤ (0 : Int) := (by omega)
            have q246 : 0 < (t240.length : Int) := of_decide_eq_true (by first | (with_reducible assumption) | assumption)
            obtain ⟨ad246, A246_0, c246_0, A246_1, c246_1, e246, hx246_0, hx246_1, hx246_2, hx246_3, hx246_4, hl246_0, hi246_0, hl246_1, hi246_1⟩ := at_T39 (Kd.N_reads' HO242.out).2.2 0 p246 q246
            obtain rfl : ad244 = ad246 := (by injection e246)
            obtain ⟨ce246, hce246, hMe246, hcc246⟩ := Kd.N_get HO242.out z39 0 p246 (by first | exact q246 | exact of_decide_eq_true (by first | (with_reducible assumption) | assumption) | (have e_ := (Kd.N_reads' HO242.out).1; omega))
            obtain ⟨ua246_0, uc246_0, ua246_1, uc246_1, rfl, ul246_0, ge246_0, ul246_1, ge246_1⟩ := k39_openF hMe246
            have hv246_0 := hcc246 0 _ rfl
            rw [Nat.add_zero] at hv246_0
            replace hv246_0 := Option.some.inj (hv246_0.symm.trans hx246_0)
            injection hv246_0 with hva_ hvn_ hvc_
            rw [hva_] at ge246_0
            rw [hvc_] at ul246_0
            have HL246_0 := Aside0.mk (show Kd.V k38 38 _ w.heap.size _ _ ((rd_T39 t240 0).f0.f0) from Kd.V_mk ul246_0 ge246_0)
            clear hva_ hvn_ hvc_ ge246_0 ul246_0
            have hv246_1 := hcc246 1 _ rfl
            rw [add_field _ _ 1 (by omega)] at hv246_1
            replace hv246_1 := Option.some.inj (hv246_1.symm.trans hx246_1)
            injection hv246_1 with hva_ hvn_ hvc_
            rw [hva_] at ge246_1
            rw [hvc_] at ul246_1
            have HL246_1 := Aside0.mk (show Kd.V k64 64 _ w.heap.size _ _ ((rd_T39 t240 0).f0.f1) from Kd.V_mk ul246_1 ge246_1)
            clear hva_ hvn_ hvc_ ge246_1 ul246_1
            clear hcc246 hce246
            have qi246 : (0 < t240.length) = True := eq_true (by omega)
            (try rw [show ((0 : Int)).toNat = 0 from rfl] at hx246_0)
            (try rw [show 0 * 5 = 0 from rfl] at hx246_0)
            (try rw [Addr.add_zero'] at hx246_0)
            (try rw [show ((0 : Int)).toNat = 0 from rfl] at hx246_1)
            (try rw [show 0 * 5 = 0 from rfl] at hx246_1)
            (try rw [Addr.add_zero'] at hx246_1)
            (try rw [show ((0 : Int)).toNat = 0 from rfl] at hx246_2)
            (try rw [show 0 * 5 = 0 from rfl] at hx246_2)
            (try rw [Addr.add_zero'] at hx246_2)
            (try rw [show ((0 : Int)).toNat = 0 from rfl] at hx246_3)
            (try rw [show 0 * 5 = 0 from rfl] at hx246_3)
            (try rw [Addr.add_zero'] at hx246_3)
            (try rw [show ((0 : Int)).toNat = 0 from rfl] at hx246_4)
            (try rw [show 0 * 5 = 0 from rfl] at hx246_4)
            (try rw [Addr.add_zero'] at hx246_4)
            have HR246_0 := Aside0.mk hi246_0
            have HC246_0 := Aside0.mk hl246_0
            clear hi246_0 hl246_0
            have HR246_1 := Aside0.mk hi246_1
            have HC246_1 := Aside0.mk hl246_1
            clear hi246_1 hl246_1
            replace p246 := eq_true p246
            replace q246 := eq_true q246
            have ea_ := Option.some.inj (hx244_0.symm.trans hx246_0)
            injection ea_ with ea_ en_ ec_
            subst ea_
            subst ec_
            clear en_
            have ea_ := Option.some.inj (hx244_1.symm.trans hx246_1)
            injection ea_ with ea_ en_ ec_
            subst ea_
            subst ec_
            clear en_
            refine start_ (n := 35) (S := fun w' => w'.cell? ad244 = some (.slice A244_0 ((rd_T39 t240 0).f0.f0).length c244_0) ∧ w'.cell? ⟨ad244.block, ad244.off + 1, none⟩ = some (.slice A244_1 ((rd_T39 t240 0).f0.f1).length c244_1) ∧ w'.cell? ⟨ad244.block, ad244.off + 2, none⟩ = some (.int .i64 ((rd_T39 t240 0).f0.f2)) ∧ w'.cell? ⟨ad244.block, ad244.off + 3, none⟩ = some (.int .i64 ((rd_T39 t240 0).f1)) ∧ w'.cell? ⟨ad244.block, ad244.off + 4, none⟩ = some (.int .i64 ((rd_T39 t240 0).f2)) ∧ w'.cell? ad245 = some (.slice A245_0 ((rd_T39 t218 0).f0.f0).length c245_0) ∧ w'.cell? ⟨ad245.block, ad245.off + 1, none⟩ = some (.slice A245_1 ((rd_T39 t218 0).f0.f1).length c245_1) ∧ w'.cell? ⟨ad245.block, ad245.off + 2, none⟩ = some (.int .i64 ((rd_T39 t218 0).f0.f2)) ∧ w'.cell? ⟨ad245.block, ad245.off + 3, none⟩ = some (.int .i64 ((rd_T39 t218 0).f1)) ∧ w'.cell? ⟨ad245.block, ad245.off + 4, none⟩ = some (.int .i64 ((rd_T39 t218 0).f2)) ∧ w'.cell? ad244 = some (.slice A244_0 ((rd_T39 t240 0).f0.f0).length c244_0) ∧ w'.cell? ⟨ad244.block, ad244.off + 1, none⟩ = some (.slice A244_1 ((rd_T39 t240 0).f0.f1).length c244_1) ∧ w'.cell? ⟨ad244.block, ad244.off + 2, none⟩ = some (.int .i64 ((rd_T39 t240 0).f0.f2)) ∧ w'.cell? ⟨ad244.block, ad244.off + 3, none⟩ = some (.int .i64 ((rd_T39 t240 0).f1)) ∧ w'.cell? ⟨ad244.block, ad244.off + 4, none⟩ = some (.int .i64 ((rd_T39 t240 0).f2))) (ds := []) #[false, false, false, false, false, false, false, false, false, false, false, false, false, false, false, false, false, false, false, false, false, false, false, false, false, false, false, false, false, false, false, false, false, false, false] (by kernel_rfl) rfl rfl ⟨hx244_0, hx244_1, hx244_2, hx244_3, hx244_4, hx245_0, hx245_1, hx245_2, hx245_3, hx245_4, hx246_0, hx246_1, hx246_2, hx246_3, hx246_4⟩ (fun hHeld => ?_); refine with_tabW coraclelaw18_awake.tab7 coraclelaw18_awake.bits7 (fun HT_ HW_ => ?_)
            generalize w85.drew = w86 at HO210 HO213 HO216 HL217_0 HL217_1 HO220 HO224 HO227 HL228_0 HL228_1 HO231 HO235 HO238 HL239_0 HL239_1 HO242 BK207 HR217_0 HR217_1 HR228_0 HR228_1 HR239_0 HR239_1 HB HL244_0 HL244_1 HL245_0 HL245_1 HL246_0 HL246_1 HR244_0 HR244_1 HR245_0 HR245_1 HR246_0 HR246_1 hx244_0 hx244_1 hx244_2 hx244_3 hx244_4 hx245_0 hx245_1 hx245_2 hx245_3 hx245_4 hx246_0 hx246_1 hx246_2 hx246_3 hx246_4 hHeld ⊢
            refine pure_ (i := 0) (N := some 44) (v := ?_) (a' := ?_) #[true, false, false, false, false, false, false, false, false, false, false, false, false, false, false, false, false, false, false, false, false, false, false, false, false, false, false, false, false, false, false, false, false, false, false] rfl rfl (any_of HT_.out (by kernel_rfl)) (fun _ _ _ h => h) (Or.inl ⟨by rfl, ?_⟩) ?_ ?_
            rotate_left
            ·
             intro w'
             go_simp
             with_reducible rfl
            rotate_left
            ·
             simp only [Act.put, List.setIfInBounds_toArray, List.set_cons_zero, List.set_cons_succ, i64_w, i32_w]
             rfl
            refine pure_ (i := 1) (N := some 45) (v := ?_) (a' := ?_) #[true, true, false, false, false, false, false, false, false, false, false, false, false, false, false, false, false, false, false, false, false, false, false, false, false, false, false, false, false, false, false, false, false, false, false] rfl rfl (any_of HT_.out (by kernel_rfl)) (fun _ _ _ h => h) (Or.inl ⟨by rfl, ?_⟩) ?_ ?_
            rotate_left
            ·
             intro w'
             go_simp
             with_reducible rfl
            rotate_left
            ·
             simp only [Act.put, List.setIfInBounds_toArray, List.set_cons_zero, List.set_cons_succ, i64_w, i32_w]
             rfl
            refine pure_ (i := 2) (N := some 46) (v := ?_) (a' := ?_) #[true, true, true, false, false, false, false, false, false, false, false, false, false, false, false, false, false, false, false, false, false, false, false, false, false, false, false, false, false, false, false, false, false, false, false] rfl rfl (any_of HT_.out (by kernel_rfl)) (fun _ _ _ h => h) (Or.inl ⟨by rfl, ?_⟩) ?_ ?_
            rotate_left
            ·
             intro w'
             go_simp
             with_reducible rfl
            rotate_left
            ·
             simp only [Act.put, List.setIfInBounds_toArray, List.set_cons_zero, List.set_cons_succ, i64_w, i32_w]
             rfl
            refine pure_ (i := 3) (N := some 47) (v := ?_) (a' := ?_) #[true, true, true, true, false, false, false, false, false, false, false, false, false, false, false, false, false, false, false, false, false, false, false, false, false, false, false, false, false, false, false, false, false, false, false] rfl rfl (any_of HT_.out (by kernel_rfl)) (fun _ _ _ h => h) (Or.inl ⟨by rfl, ?_⟩) ?_ ?_
            rotate_left
            ·
             intro w'
             go_simp
             with_reducible rfl
            rotate_left
            ·
             simp only [Act.put, List.setIfInBounds_toArray, List.set_cons_zero, List.set_cons_succ, i64_w, i32_w]
             rfl
            refine pure_ (i := 4) (N := some 48) (v := ?_) (a' := ?_) #[true, true, true, true, true, false, false, false, false, false, false, false, false, false, false, false, false, false, false, false, false, false, false, false, false, false, false, false, false, false, false, false, false, false, false] rfl rfl (any_of HT_.out (by kernel_rfl)) (fun _ _ _ h => h) (Or.inl ⟨by rfl, ?_⟩) ?_ ?_
            rotate_left
            ·
             intro w'
             go_simp
             with_reducible rfl
            rotate_left
            ·
             simp only [Act.put, List.setIfInBounds_toArray, List.set_cons_zero, List.set_cons_succ, i64_w, i32_w]
             rfl
            refine pure_ (i := 5) (N := some 49) (v := ?_) (a' := ?_) #[true, true, true, true, true, true, false, false, false, false, false, false, false, false, false, false, false, false, false, false, false, false, false, false, false, false, false, false, false, false, false, false, false, false, false] rfl rfl (any_of HT_.out (by kernel_rfl)) (fun _ _ _ h => h) (Or.inl ⟨by rfl, ?_⟩) ?_ ?_
            rotate_left
            ·
             intro w'
             go_simp
             with_reducible rfl
            rotate_left
            ·
             simp only [Act.put, List.setIfInBounds_toArray, List.set_cons_zero, List.set_cons_succ, i64_w, i32_w]
             rfl
            refine pure_ (i := 6) (N := some 50) (v := ?_) (a' := ?_) #[true, true, true, true, true, true, true, false, false, false, false, false, false, false, false, false, false, false, false, false, false, false, false, false, false, false, false, false, false, false, false, false, false, false, false] rfl rfl (any_of HT_.out (by kernel_rfl)) (fun _ _ _ h => h) (Or.inl ⟨by rfl, ?_⟩) ?_ ?_
            rotate_left
            ·
             intro w'
             go_simp
             with_reducible rfl
            rotate_left
            ·
             simp only [Act.put, List.setIfInBounds_toArray, List.set_cons_zero, List.set_cons_succ, i64_w, i32_w]
             rfl
            refine pure_ (i := 7) (N := some 51) (v := ?_) (a' := ?_) #[true, true, true, true, true, true, true, true, false, false, false, false, false, false, false, false, false, false, false, false, false, false, false, false, false, false, false, false, false, false, false, false, false, false, false] rfl rfl (any_of HT_.out (by kernel_rfl)) (fun _ _ _ h => h) (Or.inl ⟨by rfl, ?_⟩) ?_ ?_
            rotate_left
            ·
             intro w'
             go_simp
             with_reducible rfl
            rotate_left
            ·
             simp only [Act.put, List.setIfInBounds_toArray, List.set_cons_zero, List.set_cons_succ, i64_w, i32_w]
             rfl
            refine pure_ (i := 8) (N := some 52) (v := ?_) (a' := ?_) #[true, true, true, true, true, true, true, true, true, false, false, false, false, false, false, false, false, false, false, false, false, false, false, false, false, false, false, false, false, false, false, false, false, false, false] rfl rfl (any_of HT_.out (by kernel_rfl)) (fun _ _ _ h => h) (Or.inl ⟨by rfl, ?_⟩) ?_ ?_
            rotate_left
            ·
             intro w'
             go_simp
             with_reducible rfl
            rotate_left
            ·
             simp only [Act.put, List.setIfInBounds_toArray, List.set_cons_zero, List.set_cons_succ, i64_w, i32_w]
             rfl
            refine pure_ (i := 9) (N := some 53) (v := ?_) (a' := ?_) #[true, true, true, true, true, true, true, true, true, true, false, false, false, false, false, false, false, false, false, false, false, false, false, false, false, false, false, false, false, false, false, false, false, false, false] rfl rfl (any_of HT_.out (by kernel_rfl)) (fun _ _ _ h => h) (Or.inl ⟨by rfl, ?_⟩) ?_ ?_
            rotate_left
            ·
             intro w'
             go_simp
             with_reducible rfl
            rotate_left
            ·
             simp only [Act.put, List.setIfInBounds_toArray, List.set_cons_zero, List.set_cons_succ, i64_w, i32_w]
             rfl
            refine pure_ (i := 10) (N := some 54) (v := ?_) (a' := ?_) #[true, true, true, true, true, true, true, true, true, true, true, false, false, false, false, false, false, false, false, false, false, false, false, false, false, false, false, false, false, false, false, false, false, false, false] rfl rfl (any_of HT_.out (by kernel_rfl)) (fun _ _ _ h => h) (Or.inl ⟨by rfl, ?_⟩) ?_ ?_
            rotate_left
            ·
             intro w'
             go_simp
             with_reducible rfl
            rotate_left
            ·
             simp only [Act.put, List.setIfInBounds_toArray, List.set_cons_zero, List.set_cons_succ, i64_w, i32_w]
             rfl
            refine pure_ (i := 11) (N := some 55) (v := ?_) (a' := ?_) #[true, true, true, true, true, true, true, true, true, true, true, true, false, false, false, false, false, false, false, false, false, false, false, false, false, false, false, false, false, false, false, false, false, false, false] rfl rfl (any_of HT_.out (by kernel_rfl)) (fun _ _ _ h => h) (Or.inl ⟨by rfl, ?_⟩) ?_ ?_
            rotate_left
            ·
             intro w'
             go_simp
             with_reducible rfl
            rotate_left
            ·
             simp only [Act.put, List.setIfInBounds_toArray, List.set_cons_zero, List.set_cons_succ, i64_w, i32_w]
             rfl
            refine pure_ (i := 12) (N := some 56) (v := ?_) (a' := ?_) #[true, true, true, true, true, true, true, true, true, true, true, true, true, false, false, false, false, false, false, false, false, false, false, false, false, false, false, false, false, false, false, false, false, false, false] rfl rfl (any_of HT_.out (by kernel_rfl)) (fun _ _ _ h => h) (Or.inl ⟨by rfl, ?_⟩) ?_ ?_
            rotate_left
            ·
             intro w'
             go_simp
             with_reducible rfl
            rotate_left
            ·
             simp only [Act.put, List.setIfInBounds_toArray, List.set_cons_zero, List.set_cons_succ, i64_w, i32_w]
             rfl
            refine pure_ (i := 13) (N := some 57) (v := ?_) (a' := ?_) #[true, true, true, true, true, true, true, true, true, true, true, true, true, true, false, false, false, false, false, false, false, false, false, false, false, false, false, false, false, false, false, false, false, false, false] rfl rfl (any_of HT_.out (by kernel_rfl)) (fun _ _ _ h => h) (Or.inl ⟨by rfl, ?_⟩) ?_ ?_
            rotate_left
            ·
             intro w'
             go_simp
             with_reducible rfl
            rotate_left
            ·
             simp only [Act.put, List.setIfInBounds_toArray, List.set_cons_zero, List.set_cons_succ, i64_w, i32_w]
             rfl
            refine pure_ (i := 14) (N := some 58) (v := ?_) (a' := ?_) #[true, true, true, true, true, true, true, true, true, true, true, true, true, true, true, false, false, false, false, false, false, false, false, false, false, false, false, false, false, false, false, false, false, false, false] rfl rfl (any_of HT_.out (by kernel_rfl)) (fun _ _ _ h => h) (Or.inl ⟨by rfl, ?_⟩) ?_ ?_
            rotate_left
            ·
             intro w'
             go_simp
             with_reducible rfl
            rotate_left
            ·
             simp only [Act.put, List.setIfInBounds_toArray, List.set_cons_zero, List.set_cons_succ, i64_w, i32_w]
             rfl
            refine pure_ (i := 15) (N := some 59) (v := ?_) (a' := ?_) #[true, true, true, true, true, true, true, true, true, true, true, true, true, true, true, true, false, false, false, false, false, false, false, false, false, false, false, false, false, false, false, false, false, false, false] rfl rfl (any_of HT_.out (by kernel_rfl)) (fun _ _ _ h => h) (Or.inl ⟨by rfl, ?_⟩) ?_ ?_
            rotate_left
            ·
             intro w'
             go_simp
             with_reducible rfl
            rotate_left
            ·
             simp only [Act.put, List.setIfInBounds_toArray, List.set_cons_zero, List.set_cons_succ, i64_w, i32_w]
             rfl
            refine pure_ (i := 16) (N := some 60) (v := ?_) (a' := ?_) #[true, true, true, true, true, true, true, true, true, true, true, true, true, true, true, true, true, false, false, false, false, false, false, false, false, false, false, false, false, false, false, false, false, false, false] rfl rfl (any_of HT_.out (by kernel_rfl)) (fun _ _ _ h => h) (Or.inl ⟨by rfl, ?_⟩) ?_ ?_
            rotate_left
            ·
             intro w'
             go_simp
             with_reducible rfl
            rotate_left
            ·
             simp only [Act.put, List.setIfInBounds_toArray, List.set_cons_zero, List.set_cons_succ, i64_w, i32_w]
             rfl
            refine pure_ (i := 17) (N := some 61) (v := ?_) (a' := ?_) #[true, true, true, true, true, true, true, true, true, true, true, true, true, true, true, true, true, true, false, false, false, false, false, false, false, false, false, false, false, false, false, false, false, false, false] rfl rfl (any_of HT_.out (by kernel_rfl)) (fun _ _ _ h => h) (Or.inl ⟨by rfl, ?_⟩) ?_ ?_
            rotate_left
            ·
             intro w'
             go_simp
             with_reducible rfl
            rotate_left
            ·
             simp only [Act.put, List.setIfInBounds_toArray, List.set_cons_zero, List.set_cons_succ, i64_w, i32_w]
             rfl
            refine pure_ (i := 18) (N := some 62) (v := ?_) (a' := ?_) #[true, true, true, true, true, true, true, true, true, true, true, true, true, true, true, true, true, true, true, false, false, false, false, false, false, false, false, false, false, false, false, false, false, false, false] rfl rfl (any_of HT_.out (by kernel_rfl)) (fun _ _ _ h => h) (Or.inl ⟨by rfl, ?_⟩) ?_ ?_
            rotate_left
            ·
             intro w'
             go_simp
             with_reducible rfl
            rotate_left
            ·
             simp only [Act.put, List.setIfInBounds_toArray, List.set_cons_zero, List.set_cons_succ, i64_w, i32_w]
             rfl
            refine pure_ (i := 19) (N := some 63) (v := ?_) (a' := ?_) #[true, true, true, true, true, true, true, true, true, true, true, true, true, true, true, true, true, true, true, true, false, false, false, false, false, false, false, false, false, false, false, false, false, false, false] rfl rfl (any_of HT_.out (by kernel_rfl)) (fun _ _ _ h => h) (Or.inl ⟨by rfl, ?_⟩) ?_ ?_
            rotate_left
            ·
             intro w'
             go_simp
             with_reducible rfl
            rotate_left
            ·
             simp only [Act.put, List.setIfInBounds_toArray, List.set_cons_zero, List.set_cons_succ, i64_w, i32_w]
             rfl
            refine pure_ (i := 20) (N := some 64) (v := ?_) (a' := ?_) #[true, true, true, true, true, true, true, true, true, true, true, true, true, true, true, true, true, true, true, true, true, false, false, false, false, false, false, false, false, false, false, false, false, false, false] rfl rfl (any_of HT_.out (by kernel_rfl)) (fun _ _ _ h => h) (Or.inl ⟨by rfl, ?_⟩) ?_ ?_
            rotate_left
            ·
             intro w'
             go_simp
             with_reducible rfl
            rotate_left
            ·
             simp only [Act.put, List.setIfInBounds_toArray, List.set_cons_zero, List.set_cons_succ, i64_w, i32_w]
             rfl
            refine pure_ (i := 21) (N := some 65) (v := ?_) (a' := ?_) #[true, true, true, true, true, true, true, true, true, true, true, true, true, true, true, true, true, true, true, true, true, true, false, false, false, false, false, false, false, false, false, false, false, false, false] rfl rfl (any_of HT_.out (by kernel_rfl)) (fun _ _ _ h => h) (Or.inl ⟨by rfl, ?_⟩) ?_ ?_
            rotate_left
            ·
             intro w'
             go_simp
             with_reducible rfl
            rotate_left
            ·
             simp only [Act.put, List.setIfInBounds_toArray, List.set_cons_zero, List.set_cons_succ, i64_w, i32_w]
             rfl
            refine take_ (i := 22) (N := some 66) (v := ?_) (a' := ?_) #[true, true, true, true, true, true, true, true, true, true, true, true, true, true, true, true, true, true, true, true, true, true, true, false, false, false, false, false, false, false, false, false, false, false, false] rfl rfl (take_ofW HT_.out HW_.out (by kernel_rfl)) (fun _ _ _ h => h) (Or.inl ⟨by rfl, ?_⟩) hHeld ?_ ?_
            rotate_left
            ·
             rintro w' ⟨s0, s1, s2, s3, s4, s5, s6, s7, s8, s9, s10, s11, s12, s13, s14⟩
             go_simp
             with_reducible rfl
            rotate_left
            ·
             simp only [Act.put, List.setIfInBounds_toArray, List.set_cons_zero, List.set_cons_succ, i64_w, i32_w]
             rfl
            refine pure_ (i := 23) (N := some 67) (v := ?_) (a' := ?_) #[true, true, true, true, true, true, true, true, true, true, true, true, true, true, true, true, true, true, true, true, true, true, true, true, false, false, false, false, false, false, false, false, false, false, false] rfl rfl (any_of HT_.out (by kernel_rfl)) (fun _ _ _ h => h) (Or.inl ⟨by rfl, ?_⟩) ?_ ?_
            rotate_left
            ·
             intro w'
             go_simp
             with_reducible rfl
            rotate_left
            ·
             simp only [Act.put, List.setIfInBounds_toArray, List.set_cons_zero, List.set_cons_succ, i64_w, i32_w]
             rfl
            refine pure_ (i := 24) (N := some 68) (v := ?_) (a' := ?_) #[true, true, true, true, true, true, true, true, true, true, true, true, true, true, true, true, true, true, true, true, true, true, true, true, true, false, false, false, false, false, false, false, false, false, false] rfl rfl (any_of HT_.out (by kernel_rfl)) (fun _ _ _ h => h) (Or.inl ⟨by rfl, ?_⟩) ?_ ?_
            rotate_left
            ·
             intro w'
             go_simp
             with_reducible rfl
            rotate_left
            ·
             simp only [Act.put, List.setIfInBounds_toArray, List.set_cons_zero, List.set_cons_succ, i64_w, i32_w]
             rfl
            refine pure_ (i := 25) (N := some 69) (v := ?_) (a' := ?_) #[true, true, true, true, true, true, true, true, true, true, true, true, true, true, true, true, true, true, true, true, true, true, true, true, true, true, false, false, false, false, false, false, false, false, false] rfl rfl (any_of HT_.out (by kernel_rfl)) (fun _ _ _ h => h) (Or.inl ⟨by rfl, ?_⟩) ?_ ?_
            rotate_left
            ·
             intro w'
             go_simp
             with_reducible rfl
            rotate_left
            ·
             simp only [Act.put, List.setIfInBounds_toArray, List.set_cons_zero, List.set_cons_succ, i64_w, i32_w]
             rfl
            refine pure_ (i := 26) (N := some 70) (v := ?_) (a' := ?_) #[true, true, true, true, true, true, true, true, true, true, true, true, true, true, true, true, true, true, true, true, true, true, true, true, true, true, true, false, false, false, false, false, false, false, false] rfl rfl (any_of HT_.out (by kernel_rfl)) (fun _ _ _ h => h) (Or.inl ⟨by rfl, ?_⟩) ?_ ?_
            rotate_left
            ·
             intro w'
             go_simp
             with_reducible rfl
            rotate_left
            ·
             simp only [Act.put, List.setIfInBounds_toArray, List.set_cons_zero, List.set_cons_succ, i64_w, i32_w]
             rfl
            refine pure_ (i := 27) (N := some 71) (v := ?_) (a' := ?_) #[true, true, true, true, true, true, true, true, true, true, true, true, true, true, true, true, true, true, true, true, true, true, true, true, true, true, true, true, false, false, false, false, false, false, false] rfl rfl (any_of HT_.out (by kernel_rfl)) (fun _ _ _ h => h) (Or.inl ⟨by rfl, ?_⟩) ?_ ?_
            rotate_left
            ·
             intro w'
             go_simp
             with_reducible rfl
            rotate_left
            ·
             simp only [Act.put, List.setIfInBounds_toArray, List.set_cons_zero, List.set_cons_succ, i64_w, i32_w]
             rfl
            refine pure_ (i := 29) (N := some 73) (v := ?_) (a' := ?_) #[true, true, true, true, true, true, true, true, true, true, true, true, true, true, true, true, true, true, true, true, true, true, true, true, true, true, true, true, false, true, false, false, false, false, false] rfl rfl (any_of HT_.out (by kernel_rfl)) (fun _ _ _ h => h) (Or.inl ⟨by rfl, ?_⟩) ?_ ?_
            rotate_left
            ·
             intro w'
             go_simp
             with_reducible rfl
            rotate_left
            ·
             simp only [Act.put, List.setIfInBounds_toArray, List.set_cons_zero, List.set_cons_succ, i64_w, i32_w]
             rfl
            refine pure_ (i := 30) (N := some 74) (v := ?_) (a' := ?_) #[true, true, true, true, true, true, true, true, true, true, true, true, true, true, true, true, true, true, true, true, true, true, true, true, true, true, true, true, false, true, true, false, false, false, false] rfl rfl (any_of HT_.out (by kernel_rfl)) (fun _ _ _ h => h) (Or.inl ⟨by rfl, ?_⟩) ?_ ?_
            rotate_left
            ·
             intro w'
             go_simp
             with_reducible rfl
            rotate_left
            ·
             simp only [Act.put, List.setIfInBounds_toArray, List.set_cons_zero, List.set_cons_succ, i64_w, i32_w]
             rfl
            refine take_ (i := 28) (N := some 72) (v := ?_) (a' := ?_) #[true, true, true, true, true, true, true, true, true, true, true, true, true, true, true, true, true, true, true, true, true, true, true, true, true, true, true, true, true, true, true, false, false, false, false] rfl rfl (take_ofW HT_.out HW_.out (by kernel_rfl)) (fun _ _ _ h => h) (Or.inl ⟨by rfl, ?_⟩) hHeld ?_ ?_
            rotate_left
            ·
             rintro w' ⟨s0, s1, s2, s3, s4, s5, s6, s7, s8, s9, s10, s11, s12, s13, s14⟩
             go_simp
             with_reducible rfl
            rotate_left
            ·
             simp only [Act.put, List.setIfInBounds_toArray, List.set_cons_zero, List.set_cons_succ, i64_w, i32_w]
             rfl
            refine take_ (i := 31) (N := some 75) (v := ?_) (a' := ?_) #[true, true, true, true, true, true, true, true, true, true, true, true, true, true, true, true, true, true, true, true, true, true, true, true, true, true, true, true, true, true, true, true, false, false, false] rfl rfl (take_ofW HT_.out HW_.out (by kernel_rfl)) (fun _ _ _ h => h) (Or.inl ⟨by rfl, ?_⟩) hHeld ?_ ?_
            rotate_left
            ·
             rintro w' ⟨s0, s1, s2, s3, s4, s5, s6, s7, s8, s9, s10, s11, s12, s13, s14⟩
             go_simp
             with_reducible rfl
            rotate_left
            ·
             simp only [Act.put, List.setIfInBounds_toArray, List.set_cons_zero, List.set_cons_succ, i64_w, i32_w]
             rfl
            refine one_ (i := 32) (N := some 76) #[true, true, true, true, true, true, true, true, true, true, true, true, true, true, true, true, true, true, true, true, true, true, true, true, true, true, true, true, true, true, true, true, true, false, false] rfl rfl (one_of HT_.out (by kernel_rfl)) (by decide) (fun K hK => ?_)
            refine goes_ Try.func16 (by kernel_rfl) rfl #[.agg #[.slice A245_0 ((rd_T39 t218 0).f0.f0).length c245_0, .slice A245_1 ((rd_T39 t218 0).f0.f1).length c245_1, .int .i64 ((rd_T39 t218 0).f0.f2), .int .i64 ((rd_T39 t218 0).f1), .int .i64 ((rd_T39 t218 0).f2)], .agg #[.slice A244_0 ((rd_T39 t240 0).f0.f0).length c244_0, .slice A244_1 ((rd_T39 t240 0).f0.f1).length c244_1, .int .i64 ((rd_T39 t240 0).f0.f2), .int .i64 ((rd_T39 t240 0).f1), .int .i64 ((rd_T39 t240 0).f2)]] (by rfl) rfl rfl (by (try simp only [List.map_toArray, List.map_cons, List.map_nil]); first | done | rfl | (simp only [List.length_drop, List.length_take]; rfl)) ?_
            with_reducible refine (replace_Alike.calls k _ _ ((rd_T39 t218 0).f0.f0) _ _ ((rd_T39 t218 0).f0.f1) ((rd_T39 t218 0).f0.f2) ((rd_T39 t218 0).f1) ((rd_T39 t218 0).f2) _ _ ((rd_T39 t240 0).f0.f0) _ _ ((rd_T39 t240 0).f0.f1) ((rd_T39 t240 0).f0.f2) ((rd_T39 t240 0).f1) ((rd_T39 t240 0).f2) t247 _ ?side1 ?side2 ?side3 ?side4 ?side5 ?side6 ?side7 ?side8 A52.out).mono ?_
            (case side1 => repeat (first | exact (by repeat (first | (with_reducible exact HR245_0.out) | (with_reducible refine Kd.C_alloc ?_ _) | (with_reducible refine Kd.C_drewN ?_ _) | (with_reducible refine Kd.C_drew ?_) | exact HR245_0.out)) | (with_reducible refine Kd.C_alloc ?_ _) | (with_reducible refine Kd.C_drewN ?_ _) | (with_reducible refine Kd.C_drew ?_)))
            (case side2 => exact HC245_0.out)
            (case side3 => repeat (first | exact (by repeat (first | (with_reducible exact HR245_1.out) | (with_reducible refine Kd.C_alloc ?_ _) | (with_reducible refine Kd.C_drewN ?_ _) | (with_reducible refine Kd.C_drew ?_) | exact HR245_1.out)) | (with_reducible refine Kd.C_alloc ?_ _) | (with_reducible refine Kd.C_drewN ?_ _) | (with_reducible refine Kd.C_drew ?_)))
            (case side4 => exact HC245_1.out)
            (case side5 => repeat (first | exact (by repeat (first | (with_reducible exact HR246_0.out) | (with_reducible refine Kd.C_alloc ?_ _) | (with_reducible refine Kd.C_drewN ?_ _) | (with_reducible refine Kd.C_drew ?_) | exact HR246_0.out)) | (with_reducible refine Kd.C_alloc ?_ _) | (with_reducible refine Kd.C_drewN ?_ _) | (with_reducible refine Kd.C_drew ?_)))
            (case side6 => exact HC246_0.out)
            (case side7 => repeat (first | exact (by repeat (first | (with_reducible exact HR246_1.out) | (with_reducible refine Kd.C_alloc ?_ _) | (with_reducible refine Kd.C_drewN ?_ _) | (with_reducible refine Kd.C_drew ?_) | exact HR246_1.out)) | (with_reducible refine Kd.C_alloc ?_ _) | (with_reducible refine Kd.C_drewN ?_ _) | (with_reducible refine Kd.C_drew ?_)))
            (case side8 => exact HC246_1.out)
            rintro e w88 ⟨rfl, hb⟩
            have HS0_ := (hb.cell (World.block_lt_of_cell? _ _ (hHeld.1))).trans (hHeld.1)
            have HS1_ := (hb.cell (World.block_lt_of_cell? _ _ (hHeld.2.1))).trans (hHeld.2.1)
            have HS2_ := (hb.cell (World.block_lt_of_cell? _ _ (hHeld.2.2.1))).trans (hHeld.2.2.1)
            have HS3_ := (hb.cell (World.block_lt_of_cell? _ _ (hHeld.2.2.2.1))).trans (hHeld.2.2.2.1)
            have HS4_ := (hb.cell (World.block_lt_of_cell? _ _ (hHeld.2.2.2.2.1))).trans (hHeld.2.2.2.2.1)
            have HS5_ := (hb.cell (World.block_lt_of_cell? _ _ (hHeld.2.2.2.2.2.1))).trans (hHeld.2.2.2.2.2.1)
            have HS6_ := (hb.cell (World.block_lt_of_cell? _ _ (hHeld.2.2.2.2.2.2.1))).trans (hHeld.2.2.2.2.2.2.1)
            have HS7_ := (hb.cell (World.block_lt_of_cell? _ _ (hHeld.2.2.2.2.2.2.2.1))).trans (hHeld.2.2.2.2.2.2.2.1)
            have HS8_ := (hb.cell (World.block_lt_of_cell? _ _ (hHeld.2.2.2.2.2.2.2.2.1))).trans (hHeld.2.2.2.2.2.2.2.2.1)
            have HS9_ := (hb.cell (World.block_lt_of_cell? _ _ (hHeld.2.2.2.2.2.2.2.2.2.1))).trans (hHeld.2.2.2.2.2.2.2.2.2.1)
            have HS10_ := (hb.cell (World.block_lt_of_cell? _ _ (hHeld.2.2.2.2.2.2.2.2.2.2.1))).trans (hHeld.2.2.2.2.2.2.2.2.2.2.1)
            have HS11_ := (hb.cell (World.block_lt_of_cell? _ _ (hHeld.2.2.2.2.2.2.2.2.2.2.2.1))).trans (hHeld.2.2.2.2.2.2.2.2.2.2.2.1)
            have HS12_ := (hb.cell (World.block_lt_of_cell? _ _ (hHeld.2.2.2.2.2.2.2.2.2.2.2.2.1))).trans (hHeld.2.2.2.2.2.2.2.2.2.2.2.2.1)
            have HS13_ := (hb.cell (World.block_lt_of_cell? _ _ (hHeld.2.2.2.2.2.2.2.2.2.2.2.2.2.1))).trans (hHeld.2.2.2.2.2.2.2.2.2.2.2.2.2.1)
            have HS14_ := (hb.cell (World.block_lt_of_cell? _ _ (hHeld.2.2.2.2.2.2.2.2.2.2.2.2.2.2))).trans (hHeld.2.2.2.2.2.2.2.2.2.2.2.2.2.2)
            refine ⟨_, rfl, ?_⟩
            have n0_ := Aside0.mk (Kd.V_below (by (with_reducible repeat (first | apply Kd.V_alloc | apply Kd.V_drewN | apply Kd.V_drew)); exact HO210.out) hb)
            have n1_ := Aside0.mk (Kd.N_below (by (with_reducible repeat (first | apply Kd.N_alloc | apply Kd.N_drewN | apply Kd.N_drew)); exact HO213.out) hb)
            have n2_ := Aside0.mk (Kd.N_below (by (with_reducible repeat (first | apply Kd.N_alloc | apply Kd.N_drewN | apply Kd.N_drew)); exact HO216.out) hb)
            have n3_ := Aside0.mk (Kd.V_below (by (with_reducible repeat (first | apply Kd.V_alloc | apply Kd.V_drewN | apply Kd.V_drew)); exact HL217_0.out) hb)
            have n4_ := Aside0.mk (Kd.V_below (by (with_reducible repeat (first | apply Kd.V_alloc | apply Kd.V_drewN | apply Kd.V_drew)); exact HL217_1.out) hb)
            have n5_ := Aside0.mk (Kd.N_below (by (with_reducible repeat (first | apply Kd.N_alloc | apply Kd.N_drewN | apply Kd.N_drew)); exact HO220.out) hb)
            have n6_ := Aside0.mk (Kd.N_below (by (with_reducible repeat (first | apply Kd.N_alloc | apply Kd.N_drewN | apply Kd.N_drew)); exact HO224.out) hb)
            have n7_ := Aside0.mk (Kd.N_below (by (with_reducible repeat (first | apply Kd.N_alloc | apply Kd.N_drewN | apply Kd.N_drew)); exact HO227.out) hb)
            have n8_ := Aside0.mk (Kd.V_below (by (with_reducible repeat (first | apply Kd.V_alloc | apply Kd.V_drewN | apply Kd.V_drew)); exact HL228_0.out) hb)
            have n9_ := Aside0.mk (Kd.V_below (by (with_reducible repeat (first | apply Kd.V_alloc | apply Kd.V_drewN | apply Kd.V_drew)); exact HL228_1.out) hb)
            have n10_ := Aside0.mk (Kd.N_below (by (with_reducible repeat (first | apply Kd.N_alloc | apply Kd.N_drewN | apply Kd.N_drew)); exact HO231.out) hb)
            have n11_ := Aside0.mk (Kd.N_below (by (with_reducible repeat (first | apply Kd.N_alloc | apply Kd.N_drewN | apply Kd.N_drew)); exact HO235.out) hb)
            have n12_ := Aside0.mk (Kd.N_below (by (with_reducible repeat (first | apply Kd.N_alloc | apply Kd.N_drewN | apply Kd.N_drew)); exact HO238.out) hb)
            have n13_ := Aside0.mk (Kd.V_below (by (with_reducible repeat (first | apply Kd.V_alloc | apply Kd.V_drewN | apply Kd.V_drew)); exact HL239_0.out) hb)
            have n14_ := Aside0.mk (Kd.V_below (by (with_reducible repeat (first | apply Kd.V_alloc | apply Kd.V_drewN | apply Kd.V_drew)); exact HL239_1.out) hb)
            have n15_ := Aside0.mk (Kd.N_below (by (with_reducible repeat (first | apply Kd.N_alloc | apply Kd.N_drewN | apply Kd.N_drew)); exact HO242.out) hb)
            have n16_ := Aside0.mk (Kd.V_below (by (with_reducible repeat (first | apply Kd.V_alloc | apply Kd.V_drewN | apply Kd.V_drew)); exact HL244_0.out) hb)
            have n17_ := Aside0.mk (Kd.V_below (by (with_reducible repeat (first | apply Kd.V_alloc | apply Kd.V_drewN | apply Kd.V_drew)); exact HL244_1.out) hb)
            have n18_ := Aside0.mk (Kd.V_below (by (with_reducible repeat (first | apply Kd.V_alloc | apply Kd.V_drewN | apply Kd.V_drew)); exact HL245_0.out) hb)
            have n19_ := Aside0.mk (Kd.V_below (by (with_reducible repeat (first | apply Kd.V_alloc | apply Kd.V_drewN | apply Kd.V_drew)); exact HL245_1.out) hb)
            have n20_ := Aside0.mk (Kd.V_below (by (with_reducible repeat (first | apply Kd.V_alloc | apply Kd.V_drewN | apply Kd.V_drew)); exact HL246_0.out) hb)
            have n21_ := Aside0.mk (Kd.V_below (by (with_reducible repeat (first | apply Kd.V_alloc | apply Kd.V_drewN | apply Kd.V_drew)); exact HL246_1.out) hb)
            have n22_ := Aside0.mk (blk_below (g := gb207) (o := .cells #[.slice Ao57 y208.length co57, .slice none 0 0, .int .i64 0, .int .i64 5000, .int .i64 301] 30 (0, 0)) (by (with_reducible repeat (first | refine blk_drewN ?_ _ | refine blk_drew ?_ | refine blk_alloc ?_ _)); exact BK207.out) hb)
            have n23_ := Aside0.mk (Kd.C_below (by repeat (first | (with_reducible exact HR217_0.out) | (with_reducible refine Kd.C_alloc ?_ _) | (with_reducible refine Kd.C_drewN ?_ _) | (with_reducible refine Kd.C_drew ?_) | exact HR217_0.out)) hb)
            have n24_ := Aside0.mk (Kd.C_below (by repeat (first | (with_reducible exact HR217_1.out) | (with_reducible refine Kd.C_alloc ?_ _) | (with_reducible refine Kd.C_drewN ?_ _) | (with_reducible refine Kd.C_drew ?_) | exact HR217_1.out)) hb)
            have n25_ := Aside0.mk (Kd.C_below (by repeat (first | (with_reducible exact HR228_0.out) | (with_reducible refine Kd.C_alloc ?_ _) | (with_reducible refine Kd.C_drewN ?_ _) | (with_reducible refine Kd.C_drew ?_) | exact HR228_0.out)) hb)
            have n26_ := Aside0.mk (Kd.C_below (by repeat (first | (with_reducible exact HR228_1.out) | (with_reducible refine Kd.C_alloc ?_ _) | (with_reducible refine Kd.C_drewN ?_ _) | (with_reducible refine Kd.C_drew ?_) | exact HR228_1.out)) hb)
            have n27_ := Aside0.mk (Kd.C_below (by repeat (first | (with_reducible exact HR239_0.out) | (with_reducible refine Kd.C_alloc ?_ _) | (with_reducible refine Kd.C_drewN ?_ _) | (with_reducible refine Kd.C_drew ?_) | exact HR239_0.out)) hb)
            have n28_ := Aside0.mk (Kd.C_below (by repeat (first | (with_reducible exact HR239_1.out) | (with_reducible refine Kd.C_alloc ?_ _) | (with_reducible refine Kd.C_drewN ?_ _) | (with_reducible refine Kd.C_drew ?_) | exact HR239_1.out)) hb)
            have n29_ := Aside0.mk (Kd.C_below (by repeat (first | (with_reducible exact HR244_0.out) | (with_reducible refine Kd.C_alloc ?_ _) | (with_reducible refine Kd.C_drewN ?_ _) | (with_reducible refine Kd.C_drew ?_) | exact HR244_0.out)) hb)
            have n30_ := Aside0.mk (Kd.C_below (by repeat (first | (with_reducible exact HR244_1.out) | (with_reducible refine Kd.C_alloc ?_ _) | (with_reducible refine Kd.C_drewN ?_ _) | (with_reducible refine Kd.C_drew ?_) | exact HR244_1.out)) hb)
            have n31_ := Aside0.mk (Kd.C_below (by repeat (first | (with_reducible exact HR245_0.out) | (with_reducible refine Kd.C_alloc ?_ _) | (with_reducible refine Kd.C_drewN ?_ _) | (with_reducible refine Kd.C_drew ?_) | exact HR245_0.out)) hb)
            have n32_ := Aside0.mk (Kd.C_below (by repeat (first | (with_reducible exact HR245_1.out) | (with_reducible refine Kd.C_alloc ?_ _) | (with_reducible refine Kd.C_drewN ?_ _) | (with_reducible refine Kd.C_drew ?_) | exact HR245_1.out)) hb)
            have n33_ := Aside0.mk (Kd.C_below (by repeat (first | (with_reducible exact HR246_0.out) | (with_reducible refine Kd.C_alloc ?_ _) | (with_reducible refine Kd.C_drewN ?_ _) | (with_reducible refine Kd.C_drew ?_) | exact HR246_0.out)) hb)
            have n34_ := Aside0.mk (Kd.C_below (by repeat (first | (with_reducible exact HR246_1.out) | (with_reducible refine Kd.C_alloc ?_ _) | (with_reducible refine Kd.C_drewN ?_ _) | (with_reducible refine Kd.C_drew ?_) | exact HR246_1.out)) hb)
            have n35_ := Aside0.mk (below_step (by repeat (first | (with_reducible first | exact HB.out | apply below_alloc | apply pw_below_drewN | apply below_drew1 | refine below_set ?_ GE207.out) | exact HB.out)) hb)
            clear HO210
            clear HO213
            clear HO216
            clear HL217_0
            clear HL217_1
            clear HO220
            clear HO224
            clear HO227
            clear HL228_0
            clear HL228_1
            clear HO231
            clear HO235
            clear HO238
            clear HL239_0
            clear HL239_1
            clear HO242
            clear HL244_0
            clear HL244_1
            clear HL245_0
            clear HL245_1
            clear HL246_0
            clear HL246_1
            clear BK207
            clear HR217_0
            clear HR217_1
            clear HR228_0
            clear HR228_1
            clear HR239_0
            clear HR239_1
            clear HR244_0
            clear HR244_1
            clear HR245_0
            clear HR245_1
            clear HR246_0
            clear HR246_1
            clear HB
            have HO210 := n0_
            have HO213 := n1_
            have HO216 := n2_
            have HL217_0 := n3_
            have HL217_1 := n4_
            have HO220 := n5_
            have HO224 := n6_
            have HO227 := n7_
            have HL228_0 := n8_
            have HL228_1 := n9_
            have HO231 := n10_
            have HO235 := n11_
            have HO238 := n12_
            have HL239_0 := n13_
            have HL239_1 := n14_
            have HO242 := n15_
            have HL244_0 := n16_
            have HL244_1 := n17_
            have HL245_0 := n18_
            have HL245_1 := n19_
            have HL246_0 := n20_
            have HL246_1 := n21_
            have BK207 := n22_
            have HR217_0 := n23_
            have HR217_1 := n24_
            have HR228_0 := n25_
            have HR228_1 := n26_
            have HR239_0 := n27_
            have HR239_1 := n28_
            have HR244_0 := n29_
            have HR244_1 := n30_
            have HR245_0 := n31_
            have HR245_1 := n32_
            have HR246_0 := n33_
            have HR246_1 := n34_
            have HB := n35_
            clear n0_ n1_ n2_ n3_ n4_ n5_ n6_ n7_ n8_ n9_ n10_ n11_ n12_ n13_ n14_ n15_ n16_ n17_ n18_ n19_ n20_ n21_ n22_ n23_ n24_ n25_ n26_ n27_ n28_ n29_ n30_ n31_ n32_ n33_ n34_ n35_
            (try clear hb)
            (try clear hb2)
            (try clear hk)
            (try clear hi)
            refine hK.out _ _ ⟨HS0_, HS1_, HS2_, HS3_, HS4_, HS5_, HS6_, HS7_, HS8_, HS9_, HS10_, HS11_, HS12_, HS13_, HS14_⟩ (fun hHeld => ?_)
            clear hK K
            refine norm_ (a' := ?_) ?_ ?_
            rotate_left
            ·
             show Act.put _ (some 76) _ = _
             simp only [Act.put, List.setIfInBounds_toArray, List.set_cons_zero, List.set_cons_succ, i64_w, i32_w]
             rfl
            refine pure_ (i := 33) (N := some 77) (v := ?_) (a' := ?_) #[true, true, true, true, true, true, true, true, true, true, true, true, true, true, true, true, true, true, true, true, true, true, true, true, true, true, true, true, true, true, true, true, true, true, false] rfl rfl (any_of HT_.out (by kernel_rfl)) (fun _ _ _ h => h) (Or.inl ⟨by rfl, ?_⟩) ?_ ?_
            rotate_left
            ·
             intro w'
             go_simp
             with_reducible rfl
            rotate_left
            ·
             simp only [Act.put, List.setIfInBounds_toArray, List.set_cons_zero, List.set_cons_succ, i64_w, i32_w]
             rfl
            refine pure_ (i := 34) (N := some 0) (v := ?_) (a' := ?_) #[true, true, true, true, true, true, true, true, true, true, true, true, true, true, true, true, true, true, true, true, true, true, true, true, true, true, true, true, true, true, true, true, true, true, true] rfl rfl (any_of HT_.out (by kernel_rfl)) (fun _ _ _ h => h) (Or.inl ⟨by rfl, ?_⟩) ?_ ?_
            rotate_left
            ·
             intro w'
             go_simp
             with_reducible rfl
            rotate_left
            ·
             simp only [Act.put, List.setIfInBounds_toArray, List.set_cons_zero, List.set_cons_succ, i64_w, i32_w]
             rfl
            refine done_ (done_of HT_.out (by kernel_rfl)) ?_
            try go_wp2
            go_ret
            exact ⟨by first | rfl | (simp [errW_none, errW_some] <;> rfl) | (simp [*, errW_none, errW_some] <;> rfl), by repeat (first | (with_reducible first | exact HB.out | apply below_alloc | apply pw_below_drewN | apply below_drew1 | refine below_set ?_ GE207.out) | exact HB.out)⟩
           ·
            rw [if_neg c51] at H
            exact absurd H (by simp)
          ·
           rw [if_neg c50] at H
           have c50b0 : (((rd_T39 t240 0).f1) == 5000) = false := beq_eq_false_iff_ne.mpr c50
           have c50b1 : (((rd_T39 t240 0).f1) != 5000) = true := bne_iff_ne.mpr c50
           exact absurd (H.trans (congrArg some HTOLD.out)) (by decide)
         ·
          rw [if_neg c49] at H
          exact absurd H (by simp)
        ·
         rw [if_neg c48] at H
         have c48b0 : ((t240.length : Int) == 1) = false := beq_eq_false_iff_ne.mpr c48
         have c48b1 : ((t240.length : Int) != 1) = true := bne_iff_ne.mpr c48
         exact absurd (H.trans (congrArg some HTOLD.out)) (by decide)
       ·
        replace c47 := Bool.eq_false_iff.mpr c47
        subst c47
        have H1 : (some false) = some r := by rw [if_neg (show ¬ (false = true) by decide)] at H; exact H
        clear H
        have H := H1
        clear H1
        exact absurd (H.trans (congrArg some HTOLD.out)) (by decide)
     ·
      rw [if_neg c11] at H
      have c11b0 : ((t218.length : Int) == 1) = false := beq_eq_false_iff_ne.mpr c11
      have c11b1 : ((t218.length : Int) != 1) = true := bne_iff_ne.mpr c11
      exact absurd (H.trans (congrArg some HTOLD.out)) (by decide)
    ·
     replace c10 := Bool.eq_false_iff.mpr c10
     subst c10
     have H1 : (some false) = some r := by rw [if_neg (show ¬ (false = true) by decide)] at H; exact H
     clear H
     have H := H1
     clear H1
     exact absurd (H.trans (congrArg some HTOLD.out)) (by decide)
   ·
    rw [if_neg c8] at H
    exact absurd H (by simp)
  ·
   rw [if_neg c5] at H
   exact absurd H (by simp)
 ·
  rw [if_neg c2] at H
  exact absurd H (by simp)

end Go.Proofs.Ytiodebjjbgcbhaa.QRep
