/- Functions of the program as plain Lean functions, and that its calls come to what these tell: written by a program of this session; Lean checks it. -/
import Derived.Test.YtfoahgdaigfhoaaQAmtx0
import Derived.Test.YtfoahgdaigfhoaaQAmtx1
namespace Go.Proofs.Ytfoahgdaigfhoaa.QAmt
open Go.RowKit Go.Proofs.YtfoahgdaigfhoaaW.PrintWords Go.Proofs.YtfoahgdaigfhoaaW.PrintLast Go.Proofs.YtfoahgdaigfhoaaW.PrintMore
attribute [local go_sem] max2_int min2_int max_two min_two max_three min_three max_four min_four   -- for this text's walks alone
set_option linter.unusedVariables false
set_option linter.unusedSimpArgs false

/-! ### coraclelaw4_AmountSums: function 3 -/
mutual
def coraclelaw4_AmountSums.j0 : Nat → Int → Int → Int → Int → Int → Int → Int → Int → Int → Int → Int → Int → Bool → Option (Bool)
  | 0, _, _, _, _, _, _, _, _, _, _, _, _, _ => none
  | k + 1, x0, x1, x7, x8, x9, x10, x11, x12, x13, x14, x15, x16, x17 => if x7 = x9 then (if x8 = x10 then (if x13 = x15 then (if x14 = x16 then ((amount_Valid.f x0).bind fun t150 => ((coracleref1_Money.f x0).bind fun t151 => (coraclelaw4_AmountSums.j1 k x0 x1 x11 x12 x17 (t150 != t151)))) else (coraclelaw4_AmountSums.j1 k x0 x1 x11 x12 x17 true)) else (coraclelaw4_AmountSums.j1 k x0 x1 x11 x12 x17 true)) else (coraclelaw4_AmountSums.j1 k x0 x1 x11 x12 x17 true)) else (coraclelaw4_AmountSums.j1 k x0 x1 x11 x12 x17 true)
def coraclelaw4_AmountSums.j1 : Nat → Int → Int → Int → Int → Bool → Bool → Option (Bool)
  | 0, _, _, _, _, _, _ => none
  | k + 1, x0, x1, x11, x12, x17, x85 => if x85 = true then (some false) else (if x17 = true then (if x11 = (wrap64 (x0 - x1)) then (if x12 = 0 then ((coraclelaw4_awake.f k).bind fun t152 => (some t152)) else (some false)) else (some false)) else (if x11 = 0 then (if x12 = 11 then ((coraclelaw4_awake.f k).bind fun t153 => (some t153)) else (some false)) else (some false)))
end
def coraclelaw4_AmountSums.f (k : Nat) (a0 : Int) (a1 : Int) (l2 : List Int) : Option (Bool) := if (l2.length : Int) > 100 then ((coraclelaw4_awake.f k).bind fun t137 => (some t137)) else ((amount_Add.f a0 a1).bind fun bt138 => ((coracleref1_Add.f a0 a1).bind fun bt140 => ((amount_Sub.f a0 a1).bind fun bt142 => ((amount_Total.f k l2).bind fun bt144 => ((coracleref1_Total.f k l2).bind fun bt146 => ((coracleref1_Money.f a0).bind fun t148 => (if t148 = true then ((coracleref1_Money.f a1).bind fun t149 => (if t149 = true then (coraclelaw4_AmountSums.j0 k a0 a1 bt138.1 bt138.2 bt140.1 bt140.2 bt142.1 bt142.2 bt144.1 bt144.2 bt146.1 bt146.2 (decide (a0 ≥ a1))) else (coraclelaw4_AmountSums.j0 k a0 a1 bt138.1 bt138.2 bt140.1 bt140.2 bt142.1 bt142.2 bt144.1 bt144.2 bt146.1 bt146.2 false))) else (coraclelaw4_AmountSums.j0 k a0 a1 bt138.1 bt138.2 bt140.1 bt140.2 bt142.1 bt142.2 bt144.1 bt144.2 bt146.1 bt146.2 false))))))))
theorem coraclelaw4_AmountSums.mono_l : ∀ k, (∀ y0 y1 y2 y3 y4 y5 y6 y7 y8 y9 y10 y11 y12, LeO (coraclelaw4_AmountSums.j0 k y0 y1 y2 y3 y4 y5 y6 y7 y8 y9 y10 y11 y12) (coraclelaw4_AmountSums.j0 (k + 1) y0 y1 y2 y3 y4 y5 y6 y7 y8 y9 y10 y11 y12)) ∧ (∀ y0 y1 y2 y3 y4 y5, LeO (coraclelaw4_AmountSums.j1 k y0 y1 y2 y3 y4 y5) (coraclelaw4_AmountSums.j1 (k + 1) y0 y1 y2 y3 y4 y5))
  | 0 => ⟨fun _ _ _ _ _ _ _ _ _ _ _ _ _ r h => by simp [coraclelaw4_AmountSums.j0] at h, fun _ _ _ _ _ _ r h => by simp [coraclelaw4_AmountSums.j1] at h⟩
  | k + 1 => by
    obtain ⟨ih0, ih1⟩ := coraclelaw4_AmountSums.mono_l k
    refine ⟨?_, ?_⟩
    · intro y0 y1 y2 y3 y4 y5 y6 y7 y8 y9 y10 y11 y12
      unfold coraclelaw4_AmountSums.j0
      repeat' first
      | (with_reducible exact ih0 _ _ _ _ _ _ _ _ _ _ _ _ _)
      | (with_reducible exact ih1 _ _ _ _ _ _)
      | (with_reducible exact amount_Total.mono _ _)
      | (with_reducible exact coraclelaw4_awake.mono _)
      | (with_reducible exact coracleref1_Total.mono _ _)
      | (with_reducible exact LeO.refl _)
      | (with_reducible exact LeO.none _)
      | (with_reducible refine LeO.ite ?_ ?_)
      | (with_reducible refine LeO.bind ?_ (fun _ => ?_))
      | exact ih0 _ _ _ _ _ _ _ _ _ _ _ _ _
      | exact ih1 _ _ _ _ _ _
      | exact amount_Total.mono _ _
      | exact coraclelaw4_awake.mono _
      | exact coracleref1_Total.mono _ _
      | exact LeO.none _
      | refine LeO.ite ?_ ?_
      | refine LeO.bind ?_ (fun _ => ?_)
    · intro y0 y1 y2 y3 y4 y5
      unfold coraclelaw4_AmountSums.j1
      repeat' first
      | (with_reducible exact ih0 _ _ _ _ _ _ _ _ _ _ _ _ _)
      | (with_reducible exact ih1 _ _ _ _ _ _)
      | (with_reducible exact amount_Total.mono _ _)
      | (with_reducible exact coraclelaw4_awake.mono _)
      | (with_reducible exact coracleref1_Total.mono _ _)
      | (with_reducible exact LeO.refl _)
      | (with_reducible exact LeO.none _)
      | (with_reducible refine LeO.ite ?_ ?_)
      | (with_reducible refine LeO.bind ?_ (fun _ => ?_))
      | exact ih0 _ _ _ _ _ _ _ _ _ _ _ _ _
      | exact ih1 _ _ _ _ _ _
      | exact amount_Total.mono _ _
      | exact coraclelaw4_awake.mono _
      | exact coracleref1_Total.mono _ _
      | exact LeO.none _
      | refine LeO.ite ?_ ?_
      | refine LeO.bind ?_ (fun _ => ?_)
theorem coraclelaw4_AmountSums.mono : ∀ a0 a1 a2 k, LeO (coraclelaw4_AmountSums.f k a0 a1 a2) (coraclelaw4_AmountSums.f (k + 1) a0 a1 a2) := by
  intro a0 a1 a2 k
  obtain ⟨ih0, ih1⟩ := coraclelaw4_AmountSums.mono_l k
  unfold coraclelaw4_AmountSums.f
  repeat' first
      | (with_reducible exact ih0 _ _ _ _ _ _ _ _ _ _ _ _ _)
      | (with_reducible exact ih1 _ _ _ _ _ _)
      | (with_reducible exact amount_Total.mono _ _)
      | (with_reducible exact coraclelaw4_awake.mono _)
      | (with_reducible exact coracleref1_Total.mono _ _)
      | (with_reducible exact LeO.refl _)
      | (with_reducible exact LeO.none _)
      | (with_reducible refine LeO.ite ?_ ?_)
      | (with_reducible refine LeO.bind ?_ (fun _ => ?_))
      | exact ih0 _ _ _ _ _ _ _ _ _ _ _ _ _
      | exact ih1 _ _ _ _ _ _
      | exact amount_Total.mono _ _
      | exact coraclelaw4_awake.mono _
      | exact coracleref1_Total.mono _ _
      | exact LeO.none _
      | refine LeO.ite ?_ ?_
      | refine LeO.bind ?_ (fun _ => ?_)
set_option maxHeartbeats 8000000 in
set_option maxRecDepth 100000 in
theorem coraclelaw4_AmountSums.calls (k : Nat) (a0 : Int) (a1 : Int) (A2 : Option Addr) (c2 : Nat) (l2 : List Int) (r : Bool) (w : World) (hr2 : Kd.C (Kd.int .i64) w A2 l2.length l2) (hc2 : l2.length ≤ c2) (h : coraclelaw4_AmountSums.f k a0 a1 l2 = some r) :
    Calls Try.prog 3 #[.int .i64 a0, .int .i64 a1, .slice A2 l2.length c2] w fun e w' => e = .returned (.bool r) ∧ Drawn0 w w' := by
  have HR2 := Aside0.mk hr2
  have HC2 := Aside0.mk hc2
  clear hr2 hc2
  have H : (if (l2.length : Int) > 100 then ((coraclelaw4_awake.f k).bind fun t137 => (some t137)) else ((amount_Add.f a0 a1).bind fun bt138 => ((coracleref1_Add.f a0 a1).bind fun bt140 => ((amount_Sub.f a0 a1).bind fun bt142 => ((amount_Total.f k l2).bind fun bt144 => ((coracleref1_Total.f k l2).bind fun bt146 => ((coracleref1_Money.f a0).bind fun t148 => (if t148 = true then ((coracleref1_Money.f a1).bind fun t149 => (if t149 = true then (coraclelaw4_AmountSums.j0 k a0 a1 bt138.1 bt138.2 bt140.1 bt140.2 bt142.1 bt142.2 bt144.1 bt144.2 bt146.1 bt146.2 (decide (a0 ≥ a1))) else (coraclelaw4_AmountSums.j0 k a0 a1 bt138.1 bt138.2 bt140.1 bt140.2 bt142.1 bt142.2 bt144.1 bt144.2 bt146.1 bt146.2 false))) else (coraclelaw4_AmountSums.j0 k a0 a1 bt138.1 bt138.2 bt140.1 bt140.2 bt142.1 bt142.2 bt144.1 bt144.2 bt146.1 bt146.2 false))))))))) = some r := h
  clear h
  by_cases c4 : (l2.length : Int) > 100
  · rw [if_pos c4] at H
    have c4b0 : decide (100 < (l2.length : Int)) = true := decide_eq_true c4
    have c4b1 : decide (100 < l2.length) = true := decide_eq_true (by omega)
    clear c4
    replace H := Option.bind_eq_some_iff.mp H
    obtain ⟨t137, A50, H⟩ := H
    replace H : (some t137) = some r := H
    have A5 := Aside0.mk A50
    clear A50
    obtain rfl := Option.some.inj H
    go_enter Try.func3, Try.ntmps3
    go_wp2_with (first | ((with_reducible refine gate_callee (f := 16) rfl ?_); refine goesL_ (some 21) rfl rfl Try.func16 (by kernel_rfl) rfl #[] rfl (by (try simp only [List.map_toArray, List.map_cons, List.map_nil]); first | done | rfl | (simp only [List.length_drop, List.length_take]; rfl)) ?_; (with_reducible refine (coraclelaw4_awake.calls k  t137 _ A5.out).mono ?_); rintro e w' ⟨rfl, ⟨nd, rfl⟩⟩; refine ⟨_, rfl, ?_⟩))
    go_ret
    exact ⟨by first | rfl | (simp; done) | (simp [*]; done), by repeat (first | exact Drawn0.refl _ | apply Drawn0.step)⟩
  · rw [if_neg c4] at H
    have c4b0 : decide (100 < (l2.length : Int)) = false := decide_eq_false c4
    have c4b1 : decide (100 < l2.length) = false := decide_eq_false (by omega)
    clear c4
    replace H := Option.bind_eq_some_iff.mp H
    obtain ⟨⟨t138, t139⟩, A60, H⟩ := H
    replace H : ((coracleref1_Add.f a0 a1).bind fun bt140 => ((amount_Sub.f a0 a1).bind fun bt142 => ((amount_Total.f k l2).bind fun bt144 => ((coracleref1_Total.f k l2).bind fun bt146 => ((coracleref1_Money.f a0).bind fun t148 => (if t148 = true then ((coracleref1_Money.f a1).bind fun t149 => (if t149 = true then (coraclelaw4_AmountSums.j0 k a0 a1 t138 t139 bt140.1 bt140.2 bt142.1 bt142.2 bt144.1 bt144.2 bt146.1 bt146.2 (decide (a0 ≥ a1))) else (coraclelaw4_AmountSums.j0 k a0 a1 t138 t139 bt140.1 bt140.2 bt142.1 bt142.2 bt144.1 bt144.2 bt146.1 bt146.2 false))) else (coraclelaw4_AmountSums.j0 k a0 a1 t138 t139 bt140.1 bt140.2 bt142.1 bt142.2 bt144.1 bt144.2 bt146.1 bt146.2 false))))))) = some r := H
    have A6 := Aside0.mk A60
    clear A60
    replace H := Option.bind_eq_some_iff.mp H
    obtain ⟨⟨t140, t141⟩, A70, H⟩ := H
    replace H : ((amount_Sub.f a0 a1).bind fun bt142 => ((amount_Total.f k l2).bind fun bt144 => ((coracleref1_Total.f k l2).bind fun bt146 => ((coracleref1_Money.f a0).bind fun t148 => (if t148 = true then ((coracleref1_Money.f a1).bind fun t149 => (if t149 = true then (coraclelaw4_AmountSums.j0 k a0 a1 t138 t139 t140 t141 bt142.1 bt142.2 bt144.1 bt144.2 bt146.1 bt146.2 (decide (a0 ≥ a1))) else (coraclelaw4_AmountSums.j0 k a0 a1 t138 t139 t140 t141 bt142.1 bt142.2 bt144.1 bt144.2 bt146.1 bt146.2 false))) else (coraclelaw4_AmountSums.j0 k a0 a1 t138 t139 t140 t141 bt142.1 bt142.2 bt144.1 bt144.2 bt146.1 bt146.2 false)))))) = some r := H
    have A7 := Aside0.mk A70
    clear A70
    replace H := Option.bind_eq_some_iff.mp H
    obtain ⟨⟨t142, t143⟩, A80, H⟩ := H
    replace H : ((amount_Total.f k l2).bind fun bt144 => ((coracleref1_Total.f k l2).bind fun bt146 => ((coracleref1_Money.f a0).bind fun t148 => (if t148 = true then ((coracleref1_Money.f a1).bind fun t149 => (if t149 = true then (coraclelaw4_AmountSums.j0 k a0 a1 t138 t139 t140 t141 t142 t143 bt144.1 bt144.2 bt146.1 bt146.2 (decide (a0 ≥ a1))) else (coraclelaw4_AmountSums.j0 k a0 a1 t138 t139 t140 t141 t142 t143 bt144.1 bt144.2 bt146.1 bt146.2 false))) else (coraclelaw4_AmountSums.j0 k a0 a1 t138 t139 t140 t141 t142 t143 bt144.1 bt144.2 bt146.1 bt146.2 false))))) = some r := H
    have A8 := Aside0.mk A80
    clear A80
    replace H := Option.bind_eq_some_iff.mp H
    obtain ⟨⟨t144, t145⟩, A90, H⟩ := H
    replace H : ((coracleref1_Total.f k l2).bind fun bt146 => ((coracleref1_Money.f a0).bind fun t148 => (if t148 = true then ((coracleref1_Money.f a1).bind fun t149 => (if t149 = true then (coraclelaw4_AmountSums.j0 k a0 a1 t138 t139 t140 t141 t142 t143 t144 t145 bt146.1 bt146.2 (decide (a0 ≥ a1))) else (coraclelaw4_AmountSums.j0 k a0 a1 t138 t139 t140 t141 t142 t143 t144 t145 bt146.1 bt146.2 false))) else (coraclelaw4_AmountSums.j0 k a0 a1 t138 t139 t140 t141 t142 t143 t144 t145 bt146.1 bt146.2 false)))) = some r := H
    have A9 := Aside0.mk A90
    clear A90
    replace H := Option.bind_eq_some_iff.mp H
    obtain ⟨⟨t146, t147⟩, A100, H⟩ := H
    replace H : ((coracleref1_Money.f a0).bind fun t148 => (if t148 = true then ((coracleref1_Money.f a1).bind fun t149 => (if t149 = true then (coraclelaw4_AmountSums.j0 k a0 a1 t138 t139 t140 t141 t142 t143 t144 t145 t146 t147 (decide (a0 ≥ a1))) else (coraclelaw4_AmountSums.j0 k a0 a1 t138 t139 t140 t141 t142 t143 t144 t145 t146 t147 false))) else (coraclelaw4_AmountSums.j0 k a0 a1 t138 t139 t140 t141 t142 t143 t144 t145 t146 t147 false))) = some r := H
    have A10 := Aside0.mk A100
    clear A100
    have HC11 := Aside0.mk H
    clear H
    go_enter Try.func3, Try.ntmps3
    go_upto_region 8 with (first | ((with_reducible refine gate_callee (f := 17) rfl ?_); refine goesL_ (some 25) rfl rfl Try.func17 (by kernel_rfl) rfl #[.int .i64 a0, .int .i64 a1] rfl (by (try simp only [List.map_toArray, List.map_cons, List.map_nil]); first | done | rfl | (simp only [List.length_drop, List.length_take]; rfl)) ?_; (with_reducible refine (amount_Add.calls a0 a1 t138 t139 _ A6.out).mono ?_); rintro e w' ⟨rfl, ⟨nd, rfl⟩⟩; refine ⟨_, rfl, ?_⟩) | ((with_reducible refine gate_callee (f := 18) rfl ?_); refine goesL_ (some 31) rfl rfl Try.func18 (by kernel_rfl) rfl #[.int .i64 a0, .int .i64 a1] rfl (by (try simp only [List.map_toArray, List.map_cons, List.map_nil]); first | done | rfl | (simp only [List.length_drop, List.length_take]; rfl)) ?_; (with_reducible refine (coracleref1_Add.calls a0 a1 t140 t141 _ A7.out).mono ?_); rintro e w' ⟨rfl, ⟨nd, rfl⟩⟩; refine ⟨_, rfl, ?_⟩) | ((with_reducible refine gate_callee (f := 19) rfl ?_); refine goesL_ (some 37) rfl rfl Try.func19 (by kernel_rfl) rfl #[.int .i64 a0, .int .i64 a1] rfl (by (try simp only [List.map_toArray, List.map_cons, List.map_nil]); first | done | rfl | (simp only [List.length_drop, List.length_take]; rfl)) ?_; (with_reducible refine (amount_Sub.calls a0 a1 t142 t143 _ A8.out).mono ?_); rintro e w' ⟨rfl, ⟨nd, rfl⟩⟩; refine ⟨_, rfl, ?_⟩) | ((with_reducible refine gate_callee (f := 20) rfl ?_); refine goesL_ (some 42) rfl rfl Try.func20 (by kernel_rfl) rfl #[.slice A2 l2.length c2] rfl (by (try simp only [List.map_toArray, List.map_cons, List.map_nil]); first | done | rfl | (simp only [List.length_drop, List.length_take]; rfl)) ?_; (with_reducible refine (amount_Total.calls k _ _ l2 t144 t145 _ ?side1 ?side2 A9.out).mono ?_); (case side1 => repeat (first | exact HR2.out | (with_reducible refine Kd.C_alloc ?_ _) | (with_reducible refine Kd.C_drewN ?_ _) | (with_reducible refine Kd.C_drew ?_))); (case side2 => exact HC2.out); rintro e w' ⟨rfl, ⟨nd, rfl⟩⟩; refine ⟨_, rfl, ?_⟩) | ((with_reducible refine gate_callee (f := 21) rfl ?_); refine goesL_ (some 47) rfl rfl Try.func21 (by kernel_rfl) rfl #[.slice A2 l2.length c2] rfl (by (try simp only [List.map_toArray, List.map_cons, List.map_nil]); first | done | rfl | (simp only [List.length_drop, List.length_take]; rfl)) ?_; (with_reducible refine (coracleref1_Total.calls k _ _ l2 t146 t147 _ ?side1 ?side2 A10.out).mono ?_); (case side1 => repeat (first | exact HR2.out | (with_reducible refine Kd.C_alloc ?_ _) | (with_reducible refine Kd.C_drewN ?_ _) | (with_reducible refine Kd.C_drew ?_))); (case side2 => exact HC2.out); rintro e w' ⟨rfl, ⟨nd, rfl⟩⟩; refine ⟨_, rfl, ?_⟩))
    (try simp only [Act.put, List.setIfInBounds_toArray, List.set_cons_zero, List.set_cons_succ])
    go_cut [17] (fun v17 wc => ∃ (kq : Nat) (x17_10 : Bool), v17 = .bool x17_10 ∧ Aside0 (coraclelaw4_AmountSums.j0 kq a0 a1 t138 t139 t140 t141 t142 t143 t144 t145 t146 t147 x17_10 = some r) ∧ Aside0 (kq ≤ k) ∧ Drawn0 w wc)
    case first =>
      have H := HC11.out
      clear HC11
      replace H := Option.bind_eq_some_iff.mp H
      obtain ⟨t148, A120, H⟩ := H
      replace H : (if t148 = true then ((coracleref1_Money.f a1).bind fun t149 => (if t149 = true then (coraclelaw4_AmountSums.j0 k a0 a1 t138 t139 t140 t141 t142 t143 t144 t145 t146 t147 (decide (a0 ≥ a1))) else (coraclelaw4_AmountSums.j0 k a0 a1 t138 t139 t140 t141 t142 t143 t144 t145 t146 t147 false))) else (coraclelaw4_AmountSums.j0 k a0 a1 t138 t139 t140 t141 t142 t143 t144 t145 t146 t147 false)) = some r := H
      have A12 := Aside0.mk A120
      clear A120
      by_cases c13 : t148 = true
      · subst c13
        have H1 : ((coracleref1_Money.f a1).bind fun t149 => (if t149 = true then (coraclelaw4_AmountSums.j0 k a0 a1 t138 t139 t140 t141 t142 t143 t144 t145 t146 t147 (decide (a0 ≥ a1))) else (coraclelaw4_AmountSums.j0 k a0 a1 t138 t139 t140 t141 t142 t143 t144 t145 t146 t147 false))) = some r := by rw [if_pos rfl] at H; exact H
        clear H
        have H := H1
        clear H1
        replace H := Option.bind_eq_some_iff.mp H
        obtain ⟨t149, A140, H⟩ := H
        replace H : (if t149 = true then (coraclelaw4_AmountSums.j0 k a0 a1 t138 t139 t140 t141 t142 t143 t144 t145 t146 t147 (decide (a0 ≥ a1))) else (coraclelaw4_AmountSums.j0 k a0 a1 t138 t139 t140 t141 t142 t143 t144 t145 t146 t147 false)) = some r := H
        have A14 := Aside0.mk A140
        clear A140
        by_cases c15 : t149 = true
        · subst c15
          have H1 : (coraclelaw4_AmountSums.j0 k a0 a1 t138 t139 t140 t141 t142 t143 t144 t145 t146 t147 (decide (a0 ≥ a1))) = some r := by rw [if_pos rfl] at H; exact H
          clear H
          have H := H1
          clear H1
          have H' := Aside0.mk H
          clear H
          go_wp2_with (first | ((with_reducible refine gate_callee (f := 22) rfl ?_); refine goesL_ (some 51) rfl rfl Try.func22 (by kernel_rfl) rfl #[.int .i64 a0] rfl (by (try simp only [List.map_toArray, List.map_cons, List.map_nil]); first | done | rfl | (simp only [List.length_drop, List.length_take]; rfl)) ?_; (with_reducible refine (coracleref1_Money.calls a0 true _ A12.out).mono ?_); rintro e w' ⟨rfl, ⟨nd, rfl⟩⟩; refine ⟨_, rfl, ?_⟩) | (go_at_call 22; (with_reducible refine (coracleref1_Money.calls a1 true _ A14.out).mono ?_); rintro e w' ⟨rfl, ⟨nd, rfl⟩⟩))
          go_meet
          case rel => exact ⟨_, (decide (a0 ≥ a1)), (by first | rfl | (simp; done) | (simp [*]; done)), H', ⟨by first | omega | exact Nat.le_refl _⟩, by repeat (first | exact Drawn0.refl _ | apply Drawn0.step)⟩
        · replace c15 := Bool.eq_false_iff.mpr c15
          subst c15
          have H1 : (coraclelaw4_AmountSums.j0 k a0 a1 t138 t139 t140 t141 t142 t143 t144 t145 t146 t147 false) = some r := by rw [if_neg (show ¬ (false = true) by decide)] at H; exact H
          clear H
          have H := H1
          clear H1
          have H' := Aside0.mk H
          clear H
          go_wp2_with (first | ((with_reducible refine gate_callee (f := 22) rfl ?_); refine goesL_ (some 51) rfl rfl Try.func22 (by kernel_rfl) rfl #[.int .i64 a0] rfl (by (try simp only [List.map_toArray, List.map_cons, List.map_nil]); first | done | rfl | (simp only [List.length_drop, List.length_take]; rfl)) ?_; (with_reducible refine (coracleref1_Money.calls a0 true _ A12.out).mono ?_); rintro e w' ⟨rfl, ⟨nd, rfl⟩⟩; refine ⟨_, rfl, ?_⟩) | (go_at_call 22; (with_reducible refine (coracleref1_Money.calls a1 false _ A14.out).mono ?_); rintro e w' ⟨rfl, ⟨nd, rfl⟩⟩))
          go_meet
          case rel => exact ⟨_, (false), (by first | rfl | (simp; done) | (simp [*]; done)), H', ⟨by first | omega | exact Nat.le_refl _⟩, by repeat (first | exact Drawn0.refl _ | apply Drawn0.step)⟩
      · replace c13 := Bool.eq_false_iff.mpr c13
        subst c13
        have H1 : (coraclelaw4_AmountSums.j0 k a0 a1 t138 t139 t140 t141 t142 t143 t144 t145 t146 t147 false) = some r := by rw [if_neg (show ¬ (false = true) by decide)] at H; exact H
        clear H
        have H := H1
        clear H1
        have H' := Aside0.mk H
        clear H
        go_wp2_with (first | ((with_reducible refine gate_callee (f := 22) rfl ?_); refine goesL_ (some 51) rfl rfl Try.func22 (by kernel_rfl) rfl #[.int .i64 a0] rfl (by (try simp only [List.map_toArray, List.map_cons, List.map_nil]); first | done | rfl | (simp only [List.length_drop, List.length_take]; rfl)) ?_; (with_reducible refine (coracleref1_Money.calls a0 false _ A12.out).mono ?_); rintro e w' ⟨rfl, ⟨nd, rfl⟩⟩; refine ⟨_, rfl, ?_⟩))
        go_meet
        case rel => exact ⟨_, (false), (by first | rfl | (simp; done) | (simp [*]; done)), H', ⟨by first | omega | exact Nat.le_refl _⟩, by repeat (first | exact Drawn0.refl _ | apply Drawn0.step)⟩
    case rest =>
      clear HC11
      try clear c1
      try clear c2
      try clear p2
      try clear c3
      try clear c4
      try clear c4b0
      try clear c4b1
      try clear c13
      try clear c15
      obtain ⟨kq, x17_10, rfl, HA, HJ10, ⟨mc10, rfl⟩⟩ := hcut
      cases kq with
      | zero => exact absurd HA.out (by simp [coraclelaw4_AmountSums.j0])
      | succ kj10 =>
        have H := HA.out
        clear HA
        simp only [coraclelaw4_AmountSums.j0] at H
        have HC16 := Aside0.mk H
        clear H
        go_upto_region 9 with (fail)
        go_cut [85] (fun v85 wc => ∃ (kq : Nat) (x85_15 : Bool), v85 = .bool x85_15 ∧ Aside0 (coraclelaw4_AmountSums.j1 kq a0 a1 t142 t143 x17_10 x85_15 = some r) ∧ Aside0 (kq ≤ kj10) ∧ Drawn0 w wc)
        case first =>
          have H := HC16.out
          clear HC16
          by_cases c17 : t138 = t140
          · rw [if_pos c17] at H
            have c17b0 : (t138 == t140) = true := beq_iff_eq.mpr c17
            have c17b1 : (t138 != t140) = false := bne_eq_false_iff_eq.mpr c17
            clear c17
            (first | rw [c17b0] | (simp only [i64_w, i32_w]; rw [c17b0]) | skip)
            by_cases c18 : t139 = t141
            · rw [if_pos c18] at H
              have c18b0 : (t139 == t141) = true := beq_iff_eq.mpr c18
              have c18b1 : (t139 != t141) = false := bne_eq_false_iff_eq.mpr c18
              clear c18
              by_cases c19 : t144 = t146
              · rw [if_pos c19] at H
                have c19b0 : (t144 == t146) = true := beq_iff_eq.mpr c19
                have c19b1 : (t144 != t146) = false := bne_eq_false_iff_eq.mpr c19
                clear c19
                by_cases c20 : t145 = t147
                · rw [if_pos c20] at H
                  have c20b0 : (t145 == t147) = true := beq_iff_eq.mpr c20
                  have c20b1 : (t145 != t147) = false := bne_eq_false_iff_eq.mpr c20
                  clear c20
                  replace H := Option.bind_eq_some_iff.mp H
                  obtain ⟨t150, A210, H⟩ := H
                  replace H : ((coracleref1_Money.f a0).bind fun t151 => (coraclelaw4_AmountSums.j1 kj10 a0 a1 t142 t143 x17_10 (t150 != t151))) = some r := H
                  have A21 := Aside0.mk A210
                  clear A210
                  replace H := Option.bind_eq_some_iff.mp H
                  obtain ⟨t151, A220, H⟩ := H
                  replace H : (coraclelaw4_AmountSums.j1 kj10 a0 a1 t142 t143 x17_10 (t150 != t151)) = some r := H
                  have A22 := Aside0.mk A220
                  clear A220
                  have H' := Aside0.mk H
                  clear H
                  go_wp2_with (first | (go_at_call 23; (with_reducible refine (amount_Valid.calls a0 t150 _ A21.out).mono ?_); rintro e w' ⟨rfl, ⟨nd, rfl⟩⟩) | (go_at_call 22; (with_reducible refine (coracleref1_Money.calls a0 t151 _ A22.out).mono ?_); rintro e w' ⟨rfl, ⟨nd, rfl⟩⟩))
                  go_meet
                  case rel => exact ⟨_, ((t150 != t151)), (by first | rfl | (simp; done) | (simp [*]; done)), H', ⟨by have := HJ10.out; first | omega | exact Nat.le_refl _⟩, by repeat (first | exact Drawn0.refl _ | apply Drawn0.step)⟩
                · rw [if_neg c20] at H
                  have c20b0 : (t145 == t147) = false := beq_eq_false_iff_ne.mpr c20
                  have c20b1 : (t145 != t147) = true := bne_iff_ne.mpr c20
                  have H' := Aside0.mk H
                  clear H
                  go_wp2
                  go_meet
                  case rel => exact ⟨_, (true), (by first | rfl | (simp; done) | (simp [*]; done)), H', ⟨by have := HJ10.out; first | omega | exact Nat.le_refl _⟩, by repeat (first | exact Drawn0.refl _ | apply Drawn0.step)⟩
              · rw [if_neg c19] at H
                have c19b0 : (t144 == t146) = false := beq_eq_false_iff_ne.mpr c19
                have c19b1 : (t144 != t146) = true := bne_iff_ne.mpr c19
                have H' := Aside0.mk H
                clear H
                go_wp2
                go_meet
                case rel => exact ⟨_, (true), (by first | rfl | (simp; done) | (simp [*]; done)), H', ⟨by have := HJ10.out; first | omega | exact Nat.le_refl _⟩, by repeat (first | exact Drawn0.refl _ | apply Drawn0.step)⟩
            · rw [if_neg c18] at H
              have c18b0 : (t139 == t141) = false := beq_eq_false_iff_ne.mpr c18
              have c18b1 : (t139 != t141) = true := bne_iff_ne.mpr c18
              have H' := Aside0.mk H
              clear H
              go_wp2
              go_meet
              case rel => exact ⟨_, (true), (by first | rfl | (simp; done) | (simp [*]; done)), H', ⟨by have := HJ10.out; first | omega | exact Nat.le_refl _⟩, by repeat (first | exact Drawn0.refl _ | apply Drawn0.step)⟩
          · rw [if_neg c17] at H
            have c17b0 : (t138 == t140) = false := beq_eq_false_iff_ne.mpr c17
            have c17b1 : (t138 != t140) = true := bne_iff_ne.mpr c17
            (first | rw [c17b0] | (simp only [i64_w, i32_w]; rw [c17b0]) | skip)
            have H' := Aside0.mk H
            clear H
            go_wp2
            go_meet
            case rel => exact ⟨_, (true), (by first | rfl | (simp; done) | (simp [*]; done)), H', ⟨by have := HJ10.out; first | omega | exact Nat.le_refl _⟩, by repeat (first | exact Drawn0.refl _ | apply Drawn0.step)⟩
        case rest =>
          clear HC16
          try clear c1
          try clear c2
          try clear p2
          try clear c3
          try clear c4
          try clear c4b0
          try clear c4b1
          try clear c10
          try clear c13
          try clear c15
          try clear c16
          try clear c17
          try clear c17b0
          try clear c17b1
          try clear c18
          try clear c18b0
          try clear c18b1
          try clear c19
          try clear c19b0
          try clear c19b1
          try clear c20
          try clear c20b0
          try clear c20b1
          try clear c21
          try clear c22
          try clear p2
          obtain ⟨kq, x85_15, rfl, HA, HJ15, ⟨mc15, rfl⟩⟩ := hcut
          cases kq with
          | zero => exact absurd HA.out (by simp [coraclelaw4_AmountSums.j1])
          | succ kj15 =>
            have H := HA.out
            clear HA
            simp only [coraclelaw4_AmountSums.j1] at H
            by_cases c23 : x85_15 = true
            · subst c23
              have H1 : (some false) = some r := by rw [if_pos rfl] at H; exact H
              clear H
              have H := H1
              clear H1
              obtain rfl := Option.some.inj H
              go_wp2
              go_ret
              exact ⟨by first | rfl | (simp; done) | (simp [*]; done), by repeat (first | exact Drawn0.refl _ | apply Drawn0.step)⟩
            · replace c23 := Bool.eq_false_iff.mpr c23
              subst c23
              have H1 : (if x17_10 = true then (if t142 = (wrap64 (a0 - a1)) then (if t143 = 0 then ((coraclelaw4_awake.f kj15).bind fun t152 => (some t152)) else (some false)) else (some false)) else (if t142 = 0 then (if t143 = 11 then ((coraclelaw4_awake.f kj15).bind fun t153 => (some t153)) else (some false)) else (some false))) = some r := by rw [if_neg (show ¬ (false = true) by decide)] at H; exact H
              clear H
              have H := H1
              clear H1
              by_cases c24 : x17_10 = true
              · subst c24
                have H1 : (if t142 = (wrap64 (a0 - a1)) then (if t143 = 0 then ((coraclelaw4_awake.f kj15).bind fun t152 => (some t152)) else (some false)) else (some false)) = some r := by rw [if_pos rfl] at H; exact H
                clear H
                have H := H1
                clear H1
                by_cases c25 : t142 = (wrap64 (a0 - a1))
                · rw [if_pos c25] at H
                  have c25b0 : (t142 == (wrap64 (a0 - a1))) = true := beq_iff_eq.mpr c25
                  have c25b1 : (t142 != (wrap64 (a0 - a1))) = false := bne_eq_false_iff_eq.mpr c25
                  clear c25
                  by_cases c26 : t143 = 0
                  · rw [if_pos c26] at H
                    have c26b0 : (t143 == 0) = true := beq_iff_eq.mpr c26
                    have c26b1 : (t143 != 0) = false := bne_eq_false_iff_eq.mpr c26
                    clear c26
                    replace H := Option.bind_eq_some_iff.mp H
                    obtain ⟨t152, A270, H⟩ := H
                    replace H : (some t152) = some r := H
                    have A27 := Aside0.mk A270
                    clear A270
                    obtain rfl := Option.some.inj H
                    go_wp2_with (first | (go_at_call 16; (with_reducible refine (coraclelaw4_awake.calls kj15  t152 _ A27.out).mono ?_); rintro e w' ⟨rfl, ⟨nd, rfl⟩⟩))
                    go_ret
                    exact ⟨by first | rfl | (simp; done) | (simp [*]; done), by repeat (first | exact Drawn0.refl _ | apply Drawn0.step)⟩
                  · rw [if_neg c26] at H
                    have c26b0 : (t143 == 0) = false := beq_eq_false_iff_ne.mpr c26
                    have c26b1 : (t143 != 0) = true := bne_iff_ne.mpr c26
                    obtain rfl := Option.some.inj H
                    go_wp2
                    go_ret
                    exact ⟨by first | rfl | (simp; done) | (simp [*]; done), by repeat (first | exact Drawn0.refl _ | apply Drawn0.step)⟩
                · rw [if_neg c25] at H
                  have c25b0 : (t142 == (wrap64 (a0 - a1))) = false := beq_eq_false_iff_ne.mpr c25
                  have c25b1 : (t142 != (wrap64 (a0 - a1))) = true := bne_iff_ne.mpr c25
                  obtain rfl := Option.some.inj H
                  go_wp2
                  go_ret
                  exact ⟨by first | rfl | (simp; done) | (simp [*]; done), by repeat (first | exact Drawn0.refl _ | apply Drawn0.step)⟩
              · replace c24 := Bool.eq_false_iff.mpr c24
                subst c24
                have H1 : (if t142 = 0 then (if t143 = 11 then ((coraclelaw4_awake.f kj15).bind fun t153 => (some t153)) else (some false)) else (some false)) = some r := by rw [if_neg (show ¬ (false = true) by decide)] at H; exact H
                clear H
                have H := H1
                clear H1
                by_cases c28 : t142 = 0
                · rw [if_pos c28] at H
                  have c28b0 : (t142 == 0) = true := beq_iff_eq.mpr c28
                  have c28b1 : (t142 != 0) = false := bne_eq_false_iff_eq.mpr c28
                  clear c28
                  by_cases c29 : t143 = 11
                  · rw [if_pos c29] at H
                    have c29b0 : (t143 == 11) = true := beq_iff_eq.mpr c29
                    have c29b1 : (t143 != 11) = false := bne_eq_false_iff_eq.mpr c29
                    clear c29
                    replace H := Option.bind_eq_some_iff.mp H
                    obtain ⟨t153, A300, H⟩ := H
                    replace H : (some t153) = some r := H
                    have A30 := Aside0.mk A300
                    clear A300
                    obtain rfl := Option.some.inj H
                    go_wp2_with (first | (go_at_call 16; (with_reducible refine (coraclelaw4_awake.calls kj15  t153 _ A30.out).mono ?_); rintro e w' ⟨rfl, ⟨nd, rfl⟩⟩))
                    go_ret
                    exact ⟨by first | rfl | (simp; done) | (simp [*]; done), by repeat (first | exact Drawn0.refl _ | apply Drawn0.step)⟩
                  · rw [if_neg c29] at H
                    have c29b0 : (t143 == 11) = false := beq_eq_false_iff_ne.mpr c29
                    have c29b1 : (t143 != 11) = true := bne_iff_ne.mpr c29
                    obtain rfl := Option.some.inj H
                    go_wp2
                    go_ret
                    exact ⟨by first | rfl | (simp; done) | (simp [*]; done), by repeat (first | exact Drawn0.refl _ | apply Drawn0.step)⟩
                · rw [if_neg c28] at H
                  have c28b0 : (t142 == 0) = false := beq_eq_false_iff_ne.mpr c28
                  have c28b1 : (t142 != 0) = true := bne_iff_ne.mpr c28
                  obtain rfl := Option.some.inj H
                  go_wp2
                  go_ret
                  exact ⟨by first | rfl | (simp; done) | (simp [*]; done), by repeat (first | exact Drawn0.refl _ | apply Drawn0.step)⟩

/-- THE ONE PURE STATEMENT of coraclelaw4_AmountSums: yours. -/
def coraclelaw4_AmountSums.Pure : Prop := ∀ (a0 : Int) (a1 : Int) (l2 : List Int), (Lit.int .i64 a0).wf = true → (Lit.int .i64 a1).wf = true → l2.length ≤ maxLen → l2.length * 8 ≤ 140737488351232 → (∀ x ∈ l2, (Lit.int .i64 x).wf = true) → ∃ k, coraclelaw4_AmountSums.f k a0 a1 l2 = some true
theorem coraclelaw4_AmountSums.walk (P : coraclelaw4_AmountSums.Pure) (a0 : Int) (a1 : Int) (a2 : Option Addr) (len2 cap2 : Nat) (z2 : List Int) (w : World) (w0 : (Lit.int .i64 a0).wf = true) (w1 : (Lit.int .i64 a1).wf = true) (w2 : (a2 = none ∧ len2 = 0 ∧ cap2 = 0 ∧ z2 = []) ∨ ∃ x, a2 = some x ∧ len2 ≤ cap2 ∧ cap2 ≤ maxLen ∧ z2.length = cap2 ∧ (∀ i, i < z2.length → w.cell? (x.add i) = some (.int .i64 (z2.getD i 0))) ∧ ∀ n ∈ z2, (Lit.int .i64 n).wf = true) (y2 : len2 * 8 ≤ 140737488351232) :
    Calls Try.prog 3 #[.int .i64 a0, .int .i64 a1, .slice a2 len2 cap2] w fun e w' => e = .returned (.bool true) ∧ Below w.heap.size w w' := by
  obtain ⟨l2, rfl, hr2, hm2, hw2, hc2⟩ := ReadsInt.ofRowC w2
  obtain ⟨k, h⟩ := P a0 a1 l2 w0 w1 hm2 y2 hw2
  refine (coraclelaw4_AmountSums.calls k a0 a1 _ _ l2 true w (Kd.C_of_reads (d := (0 : Int)) (h1 := fun _ => rfl) hr2) hc2 h).mono ?_
  rintro e w' ⟨rfl, hd⟩
  exact ⟨rfl, hd.below⟩

/-! ### coraclelaw4_AmountUndo: function 4 -/
mutual
def coraclelaw4_AmountUndo.j0 : Nat → List Int → Int → Option (Bool)
  | 0, _, _ => none
  | k + 1, x2, x3 => if (wrap64 ((x2.length : Int) + 1)) = 0 then (none) else (if 0 ≤ (Int.tmod (wrap64 ((wrap64 ((Int.tmod x3 (wrap64 ((x2.length : Int) + 1))) + (x2.length : Int))) + 1)) (wrap64 ((x2.length : Int) + 1))) then (if (Int.tmod (wrap64 ((wrap64 ((Int.tmod x3 (wrap64 ((x2.length : Int) + 1))) + (x2.length : Int))) + 1)) (wrap64 ((x2.length : Int) + 1))) ≤ (x2.length : Int) then ((amount_Total.f k (x2.take ((Int.tmod (wrap64 ((wrap64 ((Int.tmod x3 (wrap64 ((x2.length : Int) + 1))) + (x2.length : Int))) + 1)) (wrap64 ((x2.length : Int) + 1))) : Int).toNat)).bind fun bt162 => ((amount_Total.f k (x2.drop ((Int.tmod (wrap64 ((wrap64 ((Int.tmod x3 (wrap64 ((x2.length : Int) + 1))) + (x2.length : Int))) + 1)) (wrap64 ((x2.length : Int) + 1))) : Int).toNat)).bind fun bt165 => ((amount_Total.f k x2).bind fun bt167 => (if bt162.2 = 0 then (coraclelaw4_AmountUndo.j1 k bt162.1 bt165.1 bt167.1 bt167.2 (bt165.2 != 0)) else (coraclelaw4_AmountUndo.j1 k bt162.1 bt165.1 bt167.1 bt167.2 true))))) else (none)) else (none))
def coraclelaw4_AmountUndo.j1 : Nat → Int → Int → Int → Int → Bool → Option (Bool)
  | 0, _, _, _, _, _ => none
  | k + 1, x16, x18, x20, x21, x101 => if x101 = true then (if x21 = 11 then (if x20 = 0 then ((coraclelaw4_awake.f k).bind fun t169 => (some t169)) else (some false)) else (some false)) else ((amount_Add.f x16 x18).bind fun bt170 => (if x21 = bt170.2 then (if x20 = bt170.1 then ((coraclelaw4_awake.f k).bind fun t172 => (some t172)) else (some false)) else (some false)))
end
def coraclelaw4_AmountUndo.f (k : Nat) (a0 : Int) (a1 : Int) (l2 : List Int) (a3 : Int) : Option (Bool) := if (l2.length : Int) > 50 then ((coraclelaw4_awake.f k).bind fun t154 => (some t154)) else ((amount_Add.f a0 a1).bind fun bt155 => (if bt155.2 = 0 then ((amount_Sub.f bt155.1 a1).bind fun bt157 => ((amount_Add.f a1 a0).bind fun bt159 => (if bt157.2 = 0 then (if bt157.1 = a0 then (if bt159.2 = 0 then (if bt159.1 = bt155.1 then (coraclelaw4_AmountUndo.j0 k l2 a3) else (some false)) else (some false)) else (some false)) else (some false)))) else (coraclelaw4_AmountUndo.j0 k l2 a3)))
theorem coraclelaw4_AmountUndo.mono_l : ∀ k, (∀ y0 y1, LeO (coraclelaw4_AmountUndo.j0 k y0 y1) (coraclelaw4_AmountUndo.j0 (k + 1) y0 y1)) ∧ (∀ y0 y1 y2 y3 y4, LeO (coraclelaw4_AmountUndo.j1 k y0 y1 y2 y3 y4) (coraclelaw4_AmountUndo.j1 (k + 1) y0 y1 y2 y3 y4))
  | 0 => ⟨fun _ _ r h => by simp [coraclelaw4_AmountUndo.j0] at h, fun _ _ _ _ _ r h => by simp [coraclelaw4_AmountUndo.j1] at h⟩
  | k + 1 => by
    obtain ⟨ih0, ih1⟩ := coraclelaw4_AmountUndo.mono_l k
    refine ⟨?_, ?_⟩
    · intro y0 y1
      unfold coraclelaw4_AmountUndo.j0
      repeat' first
      | (with_reducible exact ih0 _ _)
      | (with_reducible exact ih1 _ _ _ _ _)
      | (with_reducible exact amount_Total.mono _ _)
      | (with_reducible exact coraclelaw4_awake.mono _)
      | (with_reducible exact LeO.refl _)
      | (with_reducible exact LeO.none _)
      | (with_reducible refine LeO.ite ?_ ?_)
      | (with_reducible refine LeO.bind ?_ (fun _ => ?_))
      | exact ih0 _ _
      | exact ih1 _ _ _ _ _
      | exact amount_Total.mono _ _
      | exact coraclelaw4_awake.mono _
      | exact LeO.none _
      | refine LeO.ite ?_ ?_
      | refine LeO.bind ?_ (fun _ => ?_)
    · intro y0 y1 y2 y3 y4
      unfold coraclelaw4_AmountUndo.j1
      repeat' first
      | (with_reducible exact ih0 _ _)
      | (with_reducible exact ih1 _ _ _ _ _)
      | (with_reducible exact amount_Total.mono _ _)
      | (with_reducible exact coraclelaw4_awake.mono _)
      | (with_reducible exact LeO.refl _)
      | (with_reducible exact LeO.none _)
      | (with_reducible refine LeO.ite ?_ ?_)
      | (with_reducible refine LeO.bind ?_ (fun _ => ?_))
      | exact ih0 _ _
      | exact ih1 _ _ _ _ _
      | exact amount_Total.mono _ _
      | exact coraclelaw4_awake.mono _
      | exact LeO.none _
      | refine LeO.ite ?_ ?_
      | refine LeO.bind ?_ (fun _ => ?_)
theorem coraclelaw4_AmountUndo.mono : ∀ a0 a1 a2 a3 k, LeO (coraclelaw4_AmountUndo.f k a0 a1 a2 a3) (coraclelaw4_AmountUndo.f (k + 1) a0 a1 a2 a3) := by
  intro a0 a1 a2 a3 k
  obtain ⟨ih0, ih1⟩ := coraclelaw4_AmountUndo.mono_l k
  unfold coraclelaw4_AmountUndo.f
  repeat' first
      | (with_reducible exact ih0 _ _)
      | (with_reducible exact ih1 _ _ _ _ _)
      | (with_reducible exact amount_Total.mono _ _)
      | (with_reducible exact coraclelaw4_awake.mono _)
      | (with_reducible exact LeO.refl _)
      | (with_reducible exact LeO.none _)
      | (with_reducible refine LeO.ite ?_ ?_)
      | (with_reducible refine LeO.bind ?_ (fun _ => ?_))
      | exact ih0 _ _
      | exact ih1 _ _ _ _ _
      | exact amount_Total.mono _ _
      | exact coraclelaw4_awake.mono _
      | exact LeO.none _
      | refine LeO.ite ?_ ?_
      | refine LeO.bind ?_ (fun _ => ?_)
set_option maxHeartbeats 8000000 in
set_option maxRecDepth 100000 in
theorem coraclelaw4_AmountUndo.calls (k : Nat) (a0 : Int) (a1 : Int) (A2 : Option Addr) (c2 : Nat) (l2 : List Int) (a3 : Int) (r : Bool) (w : World) (hr2 : Kd.C (Kd.int .i64) w A2 l2.length l2) (hc2 : l2.length ≤ c2) (h : coraclelaw4_AmountUndo.f k a0 a1 l2 a3 = some r) :
    Calls Try.prog 4 #[.int .i64 a0, .int .i64 a1, .slice A2 l2.length c2, .int .i64 a3] w fun e w' => e = .returned (.bool r) ∧ Drawn0 w w' := by
  have HR2 := Aside0.mk hr2
  have HC2 := Aside0.mk hc2
  clear hr2 hc2
  have H : (if (l2.length : Int) > 50 then ((coraclelaw4_awake.f k).bind fun t154 => (some t154)) else ((amount_Add.f a0 a1).bind fun bt155 => (if bt155.2 = 0 then ((amount_Sub.f bt155.1 a1).bind fun bt157 => ((amount_Add.f a1 a0).bind fun bt159 => (if bt157.2 = 0 then (if bt157.1 = a0 then (if bt159.2 = 0 then (if bt159.1 = bt155.1 then (coraclelaw4_AmountUndo.j0 k l2 a3) else (some false)) else (some false)) else (some false)) else (some false)))) else (coraclelaw4_AmountUndo.j0 k l2 a3)))) = some r := h
  clear h
  by_cases c5 : (l2.length : Int) > 50
  · rw [if_pos c5] at H
    have c5b0 : decide (50 < (l2.length : Int)) = true := decide_eq_true c5
    have c5b1 : decide (50 < l2.length) = true := decide_eq_true (by omega)
    clear c5
    replace H := Option.bind_eq_some_iff.mp H
    obtain ⟨t154, A60, H⟩ := H
    replace H : (some t154) = some r := H
    have A6 := Aside0.mk A60
    clear A60
    obtain rfl := Option.some.inj H
    go_enter Try.func4, Try.ntmps4
    go_wp2_with (first | ((with_reducible refine gate_callee (f := 16) rfl ?_); refine goesL_ (some 27) rfl rfl Try.func16 (by kernel_rfl) rfl #[] rfl (by (try simp only [List.map_toArray, List.map_cons, List.map_nil]); first | done | rfl | (simp only [List.length_drop, List.length_take]; rfl)) ?_; (with_reducible refine (coraclelaw4_awake.calls k  t154 _ A6.out).mono ?_); rintro e w' ⟨rfl, ⟨nd, rfl⟩⟩; refine ⟨_, rfl, ?_⟩))
    go_ret
    exact ⟨by first | rfl | (simp; done) | (simp [*]; done), by repeat (first | exact Drawn0.refl _ | apply Drawn0.step)⟩
  · rw [if_neg c5] at H
    have c5b0 : decide (50 < (l2.length : Int)) = false := decide_eq_false c5
    have c5b1 : decide (50 < l2.length) = false := decide_eq_false (by omega)
    clear c5
    replace H := Option.bind_eq_some_iff.mp H
    obtain ⟨⟨t155, t156⟩, A70, H⟩ := H
    replace H : (if t156 = 0 then ((amount_Sub.f t155 a1).bind fun bt157 => ((amount_Add.f a1 a0).bind fun bt159 => (if bt157.2 = 0 then (if bt157.1 = a0 then (if bt159.2 = 0 then (if bt159.1 = t155 then (coraclelaw4_AmountUndo.j0 k l2 a3) else (some false)) else (some false)) else (some false)) else (some false)))) else (coraclelaw4_AmountUndo.j0 k l2 a3)) = some r := H
    have A7 := Aside0.mk A70
    clear A70
    have HC8 := Aside0.mk H
    clear H
    go_enter Try.func4, Try.ntmps4
    go_upto_if 35 with (first | ((with_reducible refine gate_callee (f := 17) rfl ?_); refine goesL_ (some 31) rfl rfl Try.func17 (by kernel_rfl) rfl #[.int .i64 a0, .int .i64 a1] rfl (by (try simp only [List.map_toArray, List.map_cons, List.map_nil]); first | done | rfl | (simp only [List.length_drop, List.length_take]; rfl)) ?_; (with_reducible refine (amount_Add.calls a0 a1 t155 t156 _ A7.out).mono ?_); rintro e w' ⟨rfl, ⟨nd, rfl⟩⟩; refine ⟨_, rfl, ?_⟩))
    (try simp only [Act.put, List.setIfInBounds_toArray, List.set_cons_zero, List.set_cons_succ])
    go_cut [] (fun wc => ∃ (kq : Nat), Aside0 (coraclelaw4_AmountUndo.j0 kq l2 a3 = some r) ∧ Aside0 (kq ≤ k) ∧ Drawn0 w wc)
    case first =>
      have H := HC8.out
      clear HC8
      by_cases c9 : t156 = 0
      · rw [if_pos c9] at H
        have c9b0 : (t156 == 0) = true := beq_iff_eq.mpr c9
        have c9b1 : (t156 != 0) = false := bne_eq_false_iff_eq.mpr c9
        clear c9
        (first | rw [c9b0] | (simp only [i64_w, i32_w]; rw [c9b0]) | skip)
        replace H := Option.bind_eq_some_iff.mp H
        obtain ⟨⟨t157, t158⟩, A100, H⟩ := H
        replace H : ((amount_Add.f a1 a0).bind fun bt159 => (if t158 = 0 then (if t157 = a0 then (if bt159.2 = 0 then (if bt159.1 = t155 then (coraclelaw4_AmountUndo.j0 k l2 a3) else (some false)) else (some false)) else (some false)) else (some false))) = some r := H
        have A10 := Aside0.mk A100
        clear A100
        replace H := Option.bind_eq_some_iff.mp H
        obtain ⟨⟨t159, t160⟩, A110, H⟩ := H
        replace H : (if t158 = 0 then (if t157 = a0 then (if t160 = 0 then (if t159 = t155 then (coraclelaw4_AmountUndo.j0 k l2 a3) else (some false)) else (some false)) else (some false)) else (some false)) = some r := H
        have A11 := Aside0.mk A110
        clear A110
        by_cases c12 : t158 = 0
        · rw [if_pos c12] at H
          have c12b0 : (t158 == 0) = true := beq_iff_eq.mpr c12
          have c12b1 : (t158 != 0) = false := bne_eq_false_iff_eq.mpr c12
          clear c12
          by_cases c13 : t157 = a0
          · rw [if_pos c13] at H
            have c13b0 : (t157 == a0) = true := beq_iff_eq.mpr c13
            have c13b1 : (t157 != a0) = false := bne_eq_false_iff_eq.mpr c13
            clear c13
            by_cases c14 : t160 = 0
            · rw [if_pos c14] at H
              have c14b0 : (t160 == 0) = true := beq_iff_eq.mpr c14
              have c14b1 : (t160 != 0) = false := bne_eq_false_iff_eq.mpr c14
              clear c14
              by_cases c15 : t159 = t155
              · rw [if_pos c15] at H
                have c15b0 : (t159 == t155) = true := beq_iff_eq.mpr c15
                have c15b1 : (t159 != t155) = false := bne_eq_false_iff_eq.mpr c15
                clear c15
                have H' := Aside0.mk H
                clear H
                go_wp2_with (first | ((with_reducible refine gate_callee (f := 19) rfl ?_); refine goesL_ (some 39) rfl rfl Try.func19 (by kernel_rfl) rfl #[.int .i64 t155, .int .i64 a1] rfl (by (try simp only [List.map_toArray, List.map_cons, List.map_nil]); first | done | rfl | (simp only [List.length_drop, List.length_take]; rfl)) ?_; (with_reducible refine (amount_Sub.calls t155 a1 t157 t158 _ A10.out).mono ?_); rintro e w' ⟨rfl, ⟨nd, rfl⟩⟩; refine ⟨_, rfl, ?_⟩) | ((with_reducible refine gate_callee (f := 17) rfl ?_); refine goesL_ (some 45) rfl rfl Try.func17 (by kernel_rfl) rfl #[.int .i64 a1, .int .i64 a0] rfl (by (try simp only [List.map_toArray, List.map_cons, List.map_nil]); first | done | rfl | (simp only [List.length_drop, List.length_take]; rfl)) ?_; (with_reducible refine (amount_Add.calls a1 a0 t159 t160 _ A11.out).mono ?_); rintro e w' ⟨rfl, ⟨nd, rfl⟩⟩; refine ⟨_, rfl, ?_⟩))
                go_meet
                case rel => exact ⟨_, H', ⟨by first | omega | exact Nat.le_refl _⟩, by repeat (first | exact Drawn0.refl _ | apply Drawn0.step)⟩
              · rw [if_neg c15] at H
                have c15b0 : (t159 == t155) = false := beq_eq_false_iff_ne.mpr c15
                have c15b1 : (t159 != t155) = true := bne_iff_ne.mpr c15
                obtain rfl := Option.some.inj H
                go_wp2_with (first | ((with_reducible refine gate_callee (f := 19) rfl ?_); refine goesL_ (some 39) rfl rfl Try.func19 (by kernel_rfl) rfl #[.int .i64 t155, .int .i64 a1] rfl (by (try simp only [List.map_toArray, List.map_cons, List.map_nil]); first | done | rfl | (simp only [List.length_drop, List.length_take]; rfl)) ?_; (with_reducible refine (amount_Sub.calls t155 a1 t157 t158 _ A10.out).mono ?_); rintro e w' ⟨rfl, ⟨nd, rfl⟩⟩; refine ⟨_, rfl, ?_⟩) | ((with_reducible refine gate_callee (f := 17) rfl ?_); refine goesL_ (some 45) rfl rfl Try.func17 (by kernel_rfl) rfl #[.int .i64 a1, .int .i64 a0] rfl (by (try simp only [List.map_toArray, List.map_cons, List.map_nil]); first | done | rfl | (simp only [List.length_drop, List.length_take]; rfl)) ?_; (with_reducible refine (amount_Add.calls a1 a0 t159 t160 _ A11.out).mono ?_); rintro e w' ⟨rfl, ⟨nd, rfl⟩⟩; refine ⟨_, rfl, ?_⟩))
                go_ret
                exact ⟨by first | rfl | (simp; done) | (simp [*]; done), by repeat (first | exact Drawn0.refl _ | apply Drawn0.step)⟩
            · rw [if_neg c14] at H
              have c14b0 : (t160 == 0) = false := beq_eq_false_iff_ne.mpr c14
              have c14b1 : (t160 != 0) = true := bne_iff_ne.mpr c14
              obtain rfl := Option.some.inj H
              go_wp2_with (first | ((with_reducible refine gate_callee (f := 19) rfl ?_); refine goesL_ (some 39) rfl rfl Try.func19 (by kernel_rfl) rfl #[.int .i64 t155, .int .i64 a1] rfl (by (try simp only [List.map_toArray, List.map_cons, List.map_nil]); first | done | rfl | (simp only [List.length_drop, List.length_take]; rfl)) ?_; (with_reducible refine (amount_Sub.calls t155 a1 t157 t158 _ A10.out).mono ?_); rintro e w' ⟨rfl, ⟨nd, rfl⟩⟩; refine ⟨_, rfl, ?_⟩) | ((with_reducible refine gate_callee (f := 17) rfl ?_); refine goesL_ (some 45) rfl rfl Try.func17 (by kernel_rfl) rfl #[.int .i64 a1, .int .i64 a0] rfl (by (try simp only [List.map_toArray, List.map_cons, List.map_nil]); first | done | rfl | (simp only [List.length_drop, List.length_take]; rfl)) ?_; (with_reducible refine (amount_Add.calls a1 a0 t159 t160 _ A11.out).mono ?_); rintro e w' ⟨rfl, ⟨nd, rfl⟩⟩; refine ⟨_, rfl, ?_⟩))
              go_ret
              exact ⟨by first | rfl | (simp; done) | (simp [*]; done), by repeat (first | exact Drawn0.refl _ | apply Drawn0.step)⟩
          · rw [if_neg c13] at H
            have c13b0 : (t157 == a0) = false := beq_eq_false_iff_ne.mpr c13
            have c13b1 : (t157 != a0) = true := bne_iff_ne.mpr c13
            obtain rfl := Option.some.inj H
            go_wp2_with (first | ((with_reducible refine gate_callee (f := 19) rfl ?_); refine goesL_ (some 39) rfl rfl Try.func19 (by kernel_rfl) rfl #[.int .i64 t155, .int .i64 a1] rfl (by (try simp only [List.map_toArray, List.map_cons, List.map_nil]); first | done | rfl | (simp only [List.length_drop, List.length_take]; rfl)) ?_; (with_reducible refine (amount_Sub.calls t155 a1 t157 t158 _ A10.out).mono ?_); rintro e w' ⟨rfl, ⟨nd, rfl⟩⟩; refine ⟨_, rfl, ?_⟩) | ((with_reducible refine gate_callee (f := 17) rfl ?_); refine goesL_ (some 45) rfl rfl Try.func17 (by kernel_rfl) rfl #[.int .i64 a1, .int .i64 a0] rfl (by (try simp only [List.map_toArray, List.map_cons, List.map_nil]); first | done | rfl | (simp only [List.length_drop, List.length_take]; rfl)) ?_; (with_reducible refine (amount_Add.calls a1 a0 t159 t160 _ A11.out).mono ?_); rintro e w' ⟨rfl, ⟨nd, rfl⟩⟩; refine ⟨_, rfl, ?_⟩))
            go_ret
            exact ⟨by first | rfl | (simp; done) | (simp [*]; done), by repeat (first | exact Drawn0.refl _ | apply Drawn0.step)⟩
        · rw [if_neg c12] at H
          have c12b0 : (t158 == 0) = false := beq_eq_false_iff_ne.mpr c12
          have c12b1 : (t158 != 0) = true := bne_iff_ne.mpr c12
          obtain rfl := Option.some.inj H
          go_wp2_with (first | ((with_reducible refine gate_callee (f := 19) rfl ?_); refine goesL_ (some 39) rfl rfl Try.func19 (by kernel_rfl) rfl #[.int .i64 t155, .int .i64 a1] rfl (by (try simp only [List.map_toArray, List.map_cons, List.map_nil]); first | done | rfl | (simp only [List.length_drop, List.length_take]; rfl)) ?_; (with_reducible refine (amount_Sub.calls t155 a1 t157 t158 _ A10.out).mono ?_); rintro e w' ⟨rfl, ⟨nd, rfl⟩⟩; refine ⟨_, rfl, ?_⟩) | ((with_reducible refine gate_callee (f := 17) rfl ?_); refine goesL_ (some 45) rfl rfl Try.func17 (by kernel_rfl) rfl #[.int .i64 a1, .int .i64 a0] rfl (by (try simp only [List.map_toArray, List.map_cons, List.map_nil]); first | done | rfl | (simp only [List.length_drop, List.length_take]; rfl)) ?_; (with_reducible refine (amount_Add.calls a1 a0 t159 t160 _ A11.out).mono ?_); rintro e w' ⟨rfl, ⟨nd, rfl⟩⟩; refine ⟨_, rfl, ?_⟩))
          go_ret
          exact ⟨by first | rfl | (simp; done) | (simp [*]; done), by repeat (first | exact Drawn0.refl _ | apply Drawn0.step)⟩
      · rw [if_neg c9] at H
        have c9b0 : (t156 == 0) = false := beq_eq_false_iff_ne.mpr c9
        have c9b1 : (t156 != 0) = true := bne_iff_ne.mpr c9
        (first | rw [c9b0] | (simp only [i64_w, i32_w]; rw [c9b0]) | skip)
        have H' := Aside0.mk H
        clear H
        go_wp2
        go_meet
        case rel => exact ⟨_, H', ⟨by first | omega | exact Nat.le_refl _⟩, by repeat (first | exact Drawn0.refl _ | apply Drawn0.step)⟩
    case rest =>
      clear HC8
      try clear c1
      try clear c2
      try clear p2
      try clear c4
      try clear c5
      try clear c5b0
      try clear c5b1
      try clear c9
      try clear c9b0
      try clear c9b1
      try clear c12
      try clear c12b0
      try clear c12b1
      try clear c13
      try clear c13b0
      try clear c13b1
      try clear c14
      try clear c14b0
      try clear c14b1
      try clear c15
      try clear c15b0
      try clear c15b1
      obtain ⟨kq, HA, HJ7, ⟨mc7, rfl⟩⟩ := hcut
      cases kq with
      | zero => exact absurd HA.out (by simp [coraclelaw4_AmountUndo.j0])
      | succ kj7 =>
        have H := HA.out
        clear HA
        simp only [coraclelaw4_AmountUndo.j0] at H
        by_cases c16 : (wrap64 ((l2.length : Int) + 1)) = 0
        · rw [if_pos c16] at H
          exact absurd H (by simp)
        · rw [if_neg c16] at H
          have c16b0 : ((wrap64 ((l2.length : Int) + 1)) == 0) = false := beq_eq_false_iff_ne.mpr c16
          have c16b1 : ((wrap64 ((l2.length : Int) + 1)) != 0) = true := bne_iff_ne.mpr c16
          obtain ⟨ji17, hji17⟩ : ∃ j_ : Int, (Int.tmod (wrap64 ((wrap64 ((Int.tmod a3 (wrap64 ((l2.length : Int) + 1))) + (l2.length : Int))) + 1)) (wrap64 ((l2.length : Int) + 1))) = j_ := ⟨_, rfl⟩
          replace H : (if 0 ≤ (ji17) then (if (ji17) ≤ (l2.length : Int) then ((amount_Total.f kj7 (l2.take ((ji17) : Int).toNat)).bind fun bt162 => ((amount_Total.f kj7 (l2.drop ((ji17) : Int).toNat)).bind fun bt165 => ((amount_Total.f kj7 l2).bind fun bt167 => (if bt162.2 = 0 then (coraclelaw4_AmountUndo.j1 kj7 bt162.1 bt165.1 bt167.1 bt167.2 (bt165.2 != 0)) else (coraclelaw4_AmountUndo.j1 kj7 bt162.1 bt165.1 bt167.1 bt167.2 true))))) else (none)) else (none)) = some r := by first | (rw [hji17] at H; exact H) | (simp only [hji17] at H ⊢; exact H)
          by_cases c18 : 0 ≤ (ji17)
          · rw [if_pos c18] at H
            have c18b0 := eq_true c18
            have c18b1 : decide (0 ≤ (ji17)) = true := decide_eq_true c18
            clear c18
            by_cases c19 : (ji17) ≤ (l2.length : Int)
            · rw [if_pos c19] at H
              have c19b0 := eq_true c19
              have c19b1 : decide ((ji17) ≤ (l2.length : Int)) = true := decide_eq_true c19
              clear c19
              replace H := Option.bind_eq_some_iff.mp H
              obtain ⟨⟨t162, t163⟩, A200, H⟩ := H
              replace H : ((amount_Total.f kj7 (l2.drop ((ji17) : Int).toNat)).bind fun bt165 => ((amount_Total.f kj7 l2).bind fun bt167 => (if t163 = 0 then (coraclelaw4_AmountUndo.j1 kj7 t162 bt165.1 bt167.1 bt167.2 (bt165.2 != 0)) else (coraclelaw4_AmountUndo.j1 kj7 t162 bt165.1 bt167.1 bt167.2 true)))) = some r := H
              have A20 := Aside0.mk A200
              clear A200
              have c21b0 := eq_true (of_decide_eq_true (by first | (with_reducible assumption) | assumption) : 0 ≤ (ji17))
              have c22b0 := eq_true (of_decide_eq_true (by first | (with_reducible assumption) | assumption) : (ji17) ≤ (l2.length : Int))
              replace H := Option.bind_eq_some_iff.mp H
              obtain ⟨⟨t165, t166⟩, A230, H⟩ := H
              replace H : ((amount_Total.f kj7 l2).bind fun bt167 => (if t163 = 0 then (coraclelaw4_AmountUndo.j1 kj7 t162 t165 bt167.1 bt167.2 (t166 != 0)) else (coraclelaw4_AmountUndo.j1 kj7 t162 t165 bt167.1 bt167.2 true))) = some r := H
              have A23 := Aside0.mk A230
              clear A230
              replace H := Option.bind_eq_some_iff.mp H
              obtain ⟨⟨t167, t168⟩, A240, H⟩ := H
              replace H : (if t163 = 0 then (coraclelaw4_AmountUndo.j1 kj7 t162 t165 t167 t168 (t166 != 0)) else (coraclelaw4_AmountUndo.j1 kj7 t162 t165 t167 t168 true)) = some r := H
              have A24 := Aside0.mk A240
              clear A240
              have HC25 := Aside0.mk H
              clear H
              obtain ⟨i026, hi026, _, hsz26, _⟩ := info_parts info3
              obtain ⟨hcut26, hA26, hC26⟩ := print_take_of (P := Try.prog) (Value.int .i64) 0 22 3 .i64 Try.underlying22 hi026 hsz26 A2 c2 l2 (ji17) (of_decide_eq_true (by first | (with_reducible assumption) | assumption)) (of_decide_eq_true (by first | (with_reducible assumption) | assumption)) HC2.out
              have HR161 := Aside0.mk (Kd.C_of_reads (h1 := fun _ => rfl) (hA26 _ (Kd.reads_of_C HR2.out)))
              have HC161 := Aside0.mk hC26
              clear hA26 hC26 hi026 hsz26
              go_upto_region 13 with (first | ((with_reducible refine gate_callee (f := 20) rfl ?_); refine goesL_ (some 81) rfl rfl Try.func20 (by kernel_rfl) rfl #[.slice A2 (l2.take ((ji17) : Int).toNat).length c2] rfl (by (try simp only [List.map_toArray, List.map_cons, List.map_nil]); first | done | (rw [show (l2.take ((ji17) : Int).toNat).length = (ji17).toNat from (by rw [List.length_take]; have h_ : ((ji17) : Int) ≤ (l2.length : Int) := of_decide_eq_true (by first | (with_reducible assumption) | assumption); omega)] <;> rfl) | (simp only [hji17]; rfl) | rfl | (simp only [List.length_drop, List.length_take]; rfl)) ?_; (with_reducible refine (amount_Total.calls kj7 _ _ (l2.take ((ji17) : Int).toNat) t162 t163 _ ?side1 ?side2 A20.out).mono ?_); (case side1 => repeat (first | exact HR161.out | (with_reducible refine Kd.C_alloc ?_ _) | (with_reducible refine Kd.C_drewN ?_ _) | (with_reducible refine Kd.C_drew ?_))); (case side2 => exact HC161.out); rintro e w' ⟨rfl, ⟨nd, rfl⟩⟩; refine ⟨_, rfl, ?_⟩; obtain ⟨i027, hi027, _, hsz27, _⟩ := info_parts info3; obtain ⟨A27, hcut27, hA27, hC27⟩ := print_drop_of (P := Try.prog) (Value.int .i64) 0 22 3 .i64 Try.underlying22 hi027 hsz27 A2 c2 l2 (ji17) (of_decide_eq_true (by first | (with_reducible assumption) | assumption)) (of_decide_eq_true (by first | (with_reducible assumption) | assumption)) HC2.out; have HR164 := Aside0.mk (Kd.C_of_reads (h1 := fun _ => rfl) (hA27 _ (Kd.reads_of_C HR2.out))); have HC164 := Aside0.mk hC27; clear hA27 hC27 hi027 hsz27) | ((with_reducible refine gate_callee (f := 20) rfl ?_); refine goesL_ (some 88) rfl rfl Try.func20 (by kernel_rfl) rfl #[.slice A27 (l2.drop ((ji17) : Int).toNat).length (c2 - (ji17).toNat)] rfl (by (try simp only [List.map_toArray, List.map_cons, List.map_nil]); first | done | (rw [show (l2.drop ((ji17) : Int).toNat).length = (l2.length - (ji17).toNat) from List.length_drop] <;> rfl) | (simp only [hji17]; rfl) | rfl | (simp only [List.length_drop, List.length_take]; rfl)) ?_; (with_reducible refine (amount_Total.calls kj7 _ _ (l2.drop ((ji17) : Int).toNat) t165 t166 _ ?side1 ?side2 A23.out).mono ?_); (case side1 => repeat (first | exact HR164.out | (with_reducible refine Kd.C_alloc ?_ _) | (with_reducible refine Kd.C_drewN ?_ _) | (with_reducible refine Kd.C_drew ?_))); (case side2 => exact HC164.out); rintro e w' ⟨rfl, ⟨nd, rfl⟩⟩; refine ⟨_, rfl, ?_⟩) | ((with_reducible refine gate_callee (f := 20) rfl ?_); refine goesL_ (some 93) rfl rfl Try.func20 (by kernel_rfl) rfl #[.slice A2 l2.length c2] rfl (by (try simp only [List.map_toArray, List.map_cons, List.map_nil]); first | done | rfl | (simp only [List.length_drop, List.length_take]; rfl)) ?_; (with_reducible refine (amount_Total.calls kj7 _ _ l2 t167 t168 _ ?side1 ?side2 A24.out).mono ?_); (case side1 => repeat (first | exact HR2.out | (with_reducible refine Kd.C_alloc ?_ _) | (with_reducible refine Kd.C_drewN ?_ _) | (with_reducible refine Kd.C_drew ?_))); (case side2 => exact HC2.out); rintro e w' ⟨rfl, ⟨nd, rfl⟩⟩; refine ⟨_, rfl, ?_⟩))
              (try simp only [Act.put, List.setIfInBounds_toArray, List.set_cons_zero, List.set_cons_succ])
              go_cut [101] (fun v101 wc => ∃ (kq : Nat) (x101_24 : Bool), v101 = .bool x101_24 ∧ Aside0 (coraclelaw4_AmountUndo.j1 kq t162 t165 t167 t168 x101_24 = some r) ∧ Aside0 (kq ≤ kj7) ∧ Drawn0 w wc)
              case first =>
                have H := HC25.out
                clear HC25
                by_cases c28 : t163 = 0
                · rw [if_pos c28] at H
                  have c28b0 : (t163 == 0) = true := beq_iff_eq.mpr c28
                  have c28b1 : (t163 != 0) = false := bne_eq_false_iff_eq.mpr c28
                  clear c28
                  (first | rw [c28b0] | (simp only [i64_w, i32_w]; rw [c28b0]) | skip)
                  have H' := Aside0.mk H
                  clear H
                  go_wp2
                  go_meet
                  case rel => exact ⟨_, ((t166 != 0)), (by first | rfl | (simp; done) | (simp [*]; done)), H', ⟨by have := HJ7.out; first | omega | exact Nat.le_refl _⟩, by repeat (first | exact Drawn0.refl _ | apply Drawn0.step)⟩
                · rw [if_neg c28] at H
                  have c28b0 : (t163 == 0) = false := beq_eq_false_iff_ne.mpr c28
                  have c28b1 : (t163 != 0) = true := bne_iff_ne.mpr c28
                  (first | rw [c28b0] | (simp only [i64_w, i32_w]; rw [c28b0]) | skip)
                  have H' := Aside0.mk H
                  clear H
                  go_wp2
                  go_meet
                  case rel => exact ⟨_, (true), (by first | rfl | (simp; done) | (simp [*]; done)), H', ⟨by have := HJ7.out; first | omega | exact Nat.le_refl _⟩, by repeat (first | exact Drawn0.refl _ | apply Drawn0.step)⟩
              case rest =>
                clear HC25
                try clear c1
                try clear c2
                try clear p2
                try clear c4
                try clear c5
                try clear c5b0
                try clear c5b1
                try clear p6
                try clear c7
                try clear c9
                try clear c9b0
                try clear c9b1
                try clear c12
                try clear c12b0
                try clear c12b1
                try clear c13
                try clear c13b0
                try clear c13b1
                try clear c14
                try clear c14b0
                try clear c14b1
                try clear c15
                try clear c15b0
                try clear c15b1
                try clear c16
                try clear c16b0
                try clear c16b1
                try clear c17
                try clear c18
                try clear c18b0
                try clear c18b1
                try clear c19
                try clear c19b0
                try clear c19b1
                try clear c20
                try clear c21
                try clear c21b0
                try clear c22
                try clear c22b0
                try clear c28
                try clear c28b0
                try clear c28b1
                try clear p2
                obtain ⟨kq, x101_24, rfl, HA, HJ24, ⟨mc24, rfl⟩⟩ := hcut
                cases kq with
                | zero => exact absurd HA.out (by simp [coraclelaw4_AmountUndo.j1])
                | succ kj24 =>
                  have H := HA.out
                  clear HA
                  simp only [coraclelaw4_AmountUndo.j1] at H
                  by_cases c29 : x101_24 = true
                  · subst c29
                    have H1 : (if t168 = 11 then (if t167 = 0 then ((coraclelaw4_awake.f kj24).bind fun t169 => (some t169)) else (some false)) else (some false)) = some r := by rw [if_pos rfl] at H; exact H
                    clear H
                    have H := H1
                    clear H1
                    by_cases c30 : t168 = 11
                    · rw [if_pos c30] at H
                      have c30b0 : (t168 == 11) = true := beq_iff_eq.mpr c30
                      have c30b1 : (t168 != 11) = false := bne_eq_false_iff_eq.mpr c30
                      clear c30
                      by_cases c31 : t167 = 0
                      · rw [if_pos c31] at H
                        have c31b0 : (t167 == 0) = true := beq_iff_eq.mpr c31
                        have c31b1 : (t167 != 0) = false := bne_eq_false_iff_eq.mpr c31
                        clear c31
                        replace H := Option.bind_eq_some_iff.mp H
                        obtain ⟨t169, A320, H⟩ := H
                        replace H : (some t169) = some r := H
                        have A32 := Aside0.mk A320
                        clear A320
                        obtain rfl := Option.some.inj H
                        go_wp2_with (first | (go_at_call 16; (with_reducible refine (coraclelaw4_awake.calls kj24  t169 _ A32.out).mono ?_); rintro e w' ⟨rfl, ⟨nd, rfl⟩⟩))
                        go_ret
                        exact ⟨by first | rfl | (simp; done) | (simp only [← hji17] <;> (first | rfl | simp)) | (simp [*]; done), by repeat (first | exact Drawn0.refl _ | apply Drawn0.step)⟩
                      · rw [if_neg c31] at H
                        have c31b0 : (t167 == 0) = false := beq_eq_false_iff_ne.mpr c31
                        have c31b1 : (t167 != 0) = true := bne_iff_ne.mpr c31
                        obtain rfl := Option.some.inj H
                        go_wp2
                        go_ret
                        exact ⟨by first | rfl | (simp; done) | (simp only [← hji17] <;> (first | rfl | simp)) | (simp [*]; done), by repeat (first | exact Drawn0.refl _ | apply Drawn0.step)⟩
                    · rw [if_neg c30] at H
                      have c30b0 : (t168 == 11) = false := beq_eq_false_iff_ne.mpr c30
                      have c30b1 : (t168 != 11) = true := bne_iff_ne.mpr c30
                      obtain rfl := Option.some.inj H
                      go_wp2
                      go_ret
                      exact ⟨by first | rfl | (simp; done) | (simp only [← hji17] <;> (first | rfl | simp)) | (simp [*]; done), by repeat (first | exact Drawn0.refl _ | apply Drawn0.step)⟩
                  · replace c29 := Bool.eq_false_iff.mpr c29
                    subst c29
                    have H1 : ((amount_Add.f t162 t165).bind fun bt170 => (if t168 = bt170.2 then (if t167 = bt170.1 then ((coraclelaw4_awake.f kj24).bind fun t172 => (some t172)) else (some false)) else (some false))) = some r := by rw [if_neg (show ¬ (false = true) by decide)] at H; exact H
                    clear H
                    have H := H1
                    clear H1
                    replace H := Option.bind_eq_some_iff.mp H
                    obtain ⟨⟨t170, t171⟩, A330, H⟩ := H
                    replace H : (if t168 = t171 then (if t167 = t170 then ((coraclelaw4_awake.f kj24).bind fun t172 => (some t172)) else (some false)) else (some false)) = some r := H
                    have A33 := Aside0.mk A330
                    clear A330
                    by_cases c34 : t168 = t171
                    · rw [if_pos c34] at H
                      have c34b0 : (t168 == t171) = true := beq_iff_eq.mpr c34
                      have c34b1 : (t168 != t171) = false := bne_eq_false_iff_eq.mpr c34
                      clear c34
                      by_cases c35 : t167 = t170
                      · rw [if_pos c35] at H
                        have c35b0 : (t167 == t170) = true := beq_iff_eq.mpr c35
                        have c35b1 : (t167 != t170) = false := bne_eq_false_iff_eq.mpr c35
                        clear c35
                        replace H := Option.bind_eq_some_iff.mp H
                        obtain ⟨t172, A360, H⟩ := H
                        replace H : (some t172) = some r := H
                        have A36 := Aside0.mk A360
                        clear A360
                        obtain rfl := Option.some.inj H
                        go_wp2_with (first | ((with_reducible refine gate_callee (f := 17) rfl ?_); refine goesL_ (some 114) rfl rfl Try.func17 (by kernel_rfl) rfl #[.int .i64 t162, .int .i64 t165] rfl (by (try simp only [List.map_toArray, List.map_cons, List.map_nil]); first | done | rfl | (simp only [List.length_drop, List.length_take]; rfl)) ?_; (with_reducible refine (amount_Add.calls t162 t165 t170 t171 _ A33.out).mono ?_); rintro e w' ⟨rfl, ⟨nd, rfl⟩⟩; refine ⟨_, rfl, ?_⟩) | (go_at_call 16; (with_reducible refine (coraclelaw4_awake.calls kj24  t172 _ A36.out).mono ?_); rintro e w' ⟨rfl, ⟨nd, rfl⟩⟩))
                        go_ret
                        exact ⟨by first | rfl | (simp; done) | (simp only [← hji17] <;> (first | rfl | simp)) | (simp [*]; done), by repeat (first | exact Drawn0.refl _ | apply Drawn0.step)⟩
                      · rw [if_neg c35] at H
                        have c35b0 : (t167 == t170) = false := beq_eq_false_iff_ne.mpr c35
                        have c35b1 : (t167 != t170) = true := bne_iff_ne.mpr c35
                        obtain rfl := Option.some.inj H
                        go_wp2_with (first | ((with_reducible refine gate_callee (f := 17) rfl ?_); refine goesL_ (some 114) rfl rfl Try.func17 (by kernel_rfl) rfl #[.int .i64 t162, .int .i64 t165] rfl (by (try simp only [List.map_toArray, List.map_cons, List.map_nil]); first | done | rfl | (simp only [List.length_drop, List.length_take]; rfl)) ?_; (with_reducible refine (amount_Add.calls t162 t165 t170 t171 _ A33.out).mono ?_); rintro e w' ⟨rfl, ⟨nd, rfl⟩⟩; refine ⟨_, rfl, ?_⟩))
                        go_ret
                        exact ⟨by first | rfl | (simp; done) | (simp only [← hji17] <;> (first | rfl | simp)) | (simp [*]; done), by repeat (first | exact Drawn0.refl _ | apply Drawn0.step)⟩
                    · rw [if_neg c34] at H
                      have c34b0 : (t168 == t171) = false := beq_eq_false_iff_ne.mpr c34
                      have c34b1 : (t168 != t171) = true := bne_iff_ne.mpr c34
                      obtain rfl := Option.some.inj H
                      go_wp2_with (first | ((with_reducible refine gate_callee (f := 17) rfl ?_); refine goesL_ (some 114) rfl rfl Try.func17 (by kernel_rfl) rfl #[.int .i64 t162, .int .i64 t165] rfl (by (try simp only [List.map_toArray, List.map_cons, List.map_nil]); first | done | rfl | (simp only [List.length_drop, List.length_take]; rfl)) ?_; (with_reducible refine (amount_Add.calls t162 t165 t170 t171 _ A33.out).mono ?_); rintro e w' ⟨rfl, ⟨nd, rfl⟩⟩; refine ⟨_, rfl, ?_⟩))
                      go_ret
                      exact ⟨by first | rfl | (simp; done) | (simp only [← hji17] <;> (first | rfl | simp)) | (simp [*]; done), by repeat (first | exact Drawn0.refl _ | apply Drawn0.step)⟩
            · rw [if_neg c19] at H
              exact absurd H (by simp)
          · rw [if_neg c18] at H
            exact absurd H (by simp)

/-- THE ONE PURE STATEMENT of coraclelaw4_AmountUndo: yours. -/
def coraclelaw4_AmountUndo.Pure : Prop := ∀ (a0 : Int) (a1 : Int) (l2 : List Int) (a3 : Int), (Lit.int .i64 a0).wf = true → (Lit.int .i64 a1).wf = true → l2.length ≤ maxLen → l2.length * 8 ≤ 140737488351232 → (∀ x ∈ l2, (Lit.int .i64 x).wf = true) → (Lit.int .i64 a3).wf = true → ∃ k, coraclelaw4_AmountUndo.f k a0 a1 l2 a3 = some true
theorem coraclelaw4_AmountUndo.walk (P : coraclelaw4_AmountUndo.Pure) (a0 : Int) (a1 : Int) (a2 : Option Addr) (len2 cap2 : Nat) (z2 : List Int) (a3 : Int) (w : World) (w0 : (Lit.int .i64 a0).wf = true) (w1 : (Lit.int .i64 a1).wf = true) (w2 : (a2 = none ∧ len2 = 0 ∧ cap2 = 0 ∧ z2 = []) ∨ ∃ x, a2 = some x ∧ len2 ≤ cap2 ∧ cap2 ≤ maxLen ∧ z2.length = cap2 ∧ (∀ i, i < z2.length → w.cell? (x.add i) = some (.int .i64 (z2.getD i 0))) ∧ ∀ n ∈ z2, (Lit.int .i64 n).wf = true) (y2 : len2 * 8 ≤ 140737488351232) (w3 : (Lit.int .i64 a3).wf = true) :
    Calls Try.prog 4 #[.int .i64 a0, .int .i64 a1, .slice a2 len2 cap2, .int .i64 a3] w fun e w' => e = .returned (.bool true) ∧ Below w.heap.size w w' := by
  obtain ⟨l2, rfl, hr2, hm2, hw2, hc2⟩ := ReadsInt.ofRowC w2
  obtain ⟨k, h⟩ := P a0 a1 l2 a3 w0 w1 hm2 y2 hw2 w3
  refine (coraclelaw4_AmountUndo.calls k a0 a1 _ _ l2 a3 true w (Kd.C_of_reads (d := (0 : Int)) (h1 := fun _ => rfl) hr2) hc2 h).mono ?_
  rintro e w' ⟨rfl, hd⟩
  exact ⟨rfl, hd.below⟩

end Go.Proofs.Ytfoahgdaigfhoaa.QAmt
