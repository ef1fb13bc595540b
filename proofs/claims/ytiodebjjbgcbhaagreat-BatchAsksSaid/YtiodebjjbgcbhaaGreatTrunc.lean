import Derived.Test.YtiodebjjbgcbhaaGreatProg
import Derived.Test.YtiodebjjbgcbhaaGreatFltE
namespace Go.Proofs.YtiodebjjbgcbhaaGreat.Hand
open Go Go.RowKit Go.Proofs YtiodebjjbgcbhaaGreatW.PrintWords YtiodebjjbgcbhaaGreatW.PrintMore
def fnan (x : Nat) : Bool := match FloatKind.f64.decode x with | .nan _ _ => true | _ => false
def ftrunc (x : Nat) : Nat := FloatKind.f64.encode ((FloatKind.f64.decode x).integral .zero)
def math_Trunc.f (x : Nat) : Option Nat := if fnan x = true then none else some (ftrunc x)
theorem run_trunc (x : Nat) (w : World) (h : fnan x = false) : (callFunc 101 #[.float .f64 x]).run Tryz.prog w = .ok (.value (.float .f64 (ftrunc x))) w := by
 rw [run_callFunc_extern (f := 101) (fn := Tryz.f101) (e := Extern.MathFloor.toIntegral "math.archTrunc" .zero) Tryz.func101 rfl rfl rfl (by kernel_rfl)]
 unfold fnan at h
 unfold ftrunc
 show (Sem.run _ (Extern.MathFloor.toIntegral.match_1 (motive := fun _ => Sem Value) (FloatKind.f64.decode x) _ _) w).andThen _ = _
 generalize FloatKind.f64.decode x = d at h ⊢
 cases d with
 | nan s t => simp at h
 | number s m p => rfl
 | infinity s => rfl
theorem math_Trunc.calls (x r : Nat) (w : World) (h : math_Trunc.f x = some r) :
 Calls Tryz.prog 98 #[.float .f64 x] w fun e w' => e = .returned (.float .f64 r) ∧ Drawn0 w w' := by
 unfold math_Trunc.f at h
 by_cases c : fnan x = true
 ·rw [if_pos c] at h; cases h
 ·rw [if_neg c] at h
  obtain rfl := Option.some.inj h
  have hr := fun w => run_trunc x w (by simpa using c)
  go_enter Tryz.func98, Tryz.ntmps98
  go_wp2
  go_ret
  exact ⟨rfl, Drawn0.refl _⟩
end Go.Proofs.YtiodebjjbgcbhaaGreat.Hand
