import Derived.Test.YtiodebjjbgcbhaaGreatWMore
import Derived.Test.YtiodebjjbgcbhaaGreatGoto
namespace Go.Proofs.YtiodebjjbgcbhaaGreatW.PrintMore
open Go
structure C128 where
 re : Nat
 im : Nat
 deriving DecidableEq
def fval (op : BinOp) (x y : Nat) : Option Nat :=
 match op with
 | .add => FloatKind.f64.format.add x y
 | .sub => FloatKind.f64.format.sub x y
 | .mul => FloatKind.f64.format.mul x y
 | .quo => FloatKind.f64.format.div x y
 | _ => none
def fok (op : BinOp) (x y : Nat) : Bool := (fval op x y).isSome
def fop (op : BinOp) (x y : Nat) : Nat := (fval op x y).getD 0
theorem fop_of {op : BinOp} {x y : Nat} (h : fok op x y = true) : fval op x y = some (fop op x y) := by
 unfold fok at h; unfold fop
 obtain ⟨r, hr⟩ := Option.isSome_iff_exists.1 h
 rw [hr]; rfl
def feq (x y : Nat) : Bool := FloatKind.f64.format.order x y == some .eq
def flt (x y : Nat) : Bool := FloatKind.f64.format.order x y == some .lt
def fle (x y : Nat) : Bool := FloatKind.f64.format.order x y == some .lt || FloatKind.f64.format.order x y == some .eq
def fgt (x y : Nat) : Bool := FloatKind.f64.format.order x y == some .gt
def fge (x y : Nat) : Bool := FloatKind.f64.format.order x y == some .gt || FloatKind.f64.format.order x y == some .eq
def fint (n : Int) : Nat := FloatKind.f64.nearest n
def tovi (x : Nat) : Option Int := match (FloatKind.f64.decode x).toInt .zero with
 | some n => if IntKind.i64.min ≤ n ∧ n ≤ IntKind.i64.max then some n else none
 | none => none
def toki (x : Nat) : Bool := (tovi x).isSome
def toi (x : Nat) : Int := (tovi x).getD 0
theorem toi_of {x : Nat} (h : toki x = true) : tovi x = some (toi x) := by
 unfold toki at h; unfold toi
 obtain ⟨r, hr⟩ := Option.isSome_iff_exists.1 h
 rw [hr]; rfl
def cval (op : BinOp) (a b c d : Nat) : Option (Nat × Nat) :=
 match op with
 | .mul => (fval .mul a c).bind fun ac => (fval .mul b d).bind fun bd => (fval .sub ac bd).bind fun re => (fval .mul a d).bind fun ad => (fval .mul b c).bind fun bc => (fval .add ad bc).bind fun im => some (re, im)
 | op => (fval op a c).bind fun re => (fval op b d).bind fun im => some (re, im)
def cok (op : BinOp) (a b c d : Nat) : Bool := (cval op a b c d).isSome
def cre (op : BinOp) (a b c d : Nat) : Nat := ((cval op a b c d).getD (0, 0)).1
def cim (op : BinOp) (a b c d : Nat) : Nat := ((cval op a b c d).getD (0, 0)).2
theorem cval_of {op : BinOp} {a b c d : Nat} (h : cok op a b c d = true) : cval op a b c d = some (cre op a b c d, cim op a b c d) := by
 unfold cok at h; unfold cre cim
 obtain ⟨r, hr⟩ := Option.isSome_iff_exists.1 h
 rw [hr]; rfl
def ceq (a b c d : Nat) : Bool := feq a c && feq b d
section
variable {P : Program} (w : World) (t : TypeId)
theorem run_fop {op : BinOp} {x y : Nat} (h : fok op x y = true) : (binOp op t (.float .f64 x) (.float .f64 y)).run P w = .ok (.float .f64 (fop op x y)) w := by
 have e := fop_of h
 unfold fval at e
 cases op <;> simp only at e <;> first | (cases e; done) | skip
 all_goals simp [binOp, Op.floatArith, e]
theorem run_feq (x y : Nat) : (binOp .eql t (.float .f64 x) (.float .f64 y)).run P w = .ok (.bool (feq x y)) w := by simp [binOp, Op.floatCmp, feq]
theorem run_fne (x y : Nat) : (binOp .neq t (.float .f64 x) (.float .f64 y)).run P w = .ok (.bool (!feq x y)) w := by simp [binOp, Op.floatCmp, feq, bne]
theorem run_flt (x y : Nat) : (binOp .lss t (.float .f64 x) (.float .f64 y)).run P w = .ok (.bool (flt x y)) w := by simp [binOp, Op.floatCmp, flt]
theorem run_fle (x y : Nat) : (binOp .leq t (.float .f64 x) (.float .f64 y)).run P w = .ok (.bool (fle x y)) w := by simp [binOp, Op.floatCmp, fle]
theorem run_fgt (x y : Nat) : (binOp .gtr t (.float .f64 x) (.float .f64 y)).run P w = .ok (.bool (fgt x y)) w := by simp [binOp, Op.floatCmp, fgt]
theorem run_fge (x y : Nat) : (binOp .geq t (.float .f64 x) (.float .f64 y)).run P w = .ok (.bool (fge x y)) w := by simp [binOp, Op.floatCmp, fge]
theorem run_fint (src dst : TypeId) (q : IntKind) (n : Int) (hs : (P.underlying src).isSome = true) (hd : P.underlying dst = some (.float .f64)) : (convert src dst (.int q n)).run P w = .ok (.float .f64 (fint n)) w := by
 obtain ⟨u, hs'⟩ := Option.isSome_iff_exists.1 hs
 cases u <;> simp [convert, run_underlying hs', run_underlying hd, Conv.intToFloat, fint]
theorem run_toi (src dst : TypeId) (x : Nat) (hs : (P.underlying src).isSome = true) (hd : P.underlying dst = some (.int .i64)) (h : toki x = true) : (convert src dst (.float .f64 x)).run P w = .ok (.int .i64 (toi x)) w := by
 have e := toi_of h
 obtain ⟨u, hs'⟩ := Option.isSome_iff_exists.1 hs
 unfold tovi at e
 split at e
 ·rename_i m he
  split at e
  ·rename_i hb
   injection e with e
   subst e
   have hb1 : toi x ≤ 9223372036854775807 := hb.2
   have hb2 : -9223372036854775808 ≤ toi x := hb.1
   cases u <;> simp [convert, run_underlying hs', run_underlying hd, Conv.floatToInt, he] <;> (intro hh; exact absurd (hh) (by simp only [IntKind.min, IntKind.max] at *; omega))
  ·cases e
 ·cases e
theorem run_real' (ts : Array TypeId) (a b : Nat) : (Builtin.real_ ts t #[.complex .f64 a b]).run P w = .ok (.float .f64 a) w := rfl
theorem run_imag' (ts : Array TypeId) (a b : Nat) : (Builtin.imag_ ts t #[.complex .f64 a b]).run P w = .ok (.float .f64 b) w := rfl
theorem run_complex' (ts : Array TypeId) (a b : Nat) : (Builtin.complex_ ts t #[.float .f64 a, .float .f64 b]).run P w = .ok (.complex .f64 a b) w := rfl
theorem run_ceq (a b c d : Nat) : (binOp .eql t (.complex .f64 a b) (.complex .f64 c d)).run P w = .ok (.bool (ceq a b c d)) w := by
 simp [binOp, Op.complexOp, Op.Complex.cmp, Op.floatCmp, asBool, ceq, feq]
theorem run_cne (a b c d : Nat) : (binOp .neq t (.complex .f64 a b) (.complex .f64 c d)).run P w = .ok (.bool (!ceq a b c d)) w := by
 simp [binOp, Op.complexOp, Op.Complex.cmp, Op.floatCmp, asBool, ceq, feq]
theorem run_farith {op : BinOp} {x y r : Nat} (h : fval op x y = some r) : (Op.floatArith op .f64 x y).run P w = .ok (.float .f64 r) w := by
 unfold fval at h
 cases op <;> simp only at h <;> first | (cases h; done) | skip
 all_goals simp [Op.floatArith, h]
theorem run_carith_ {op : BinOp} {x y r : Nat} (h : fval op x y = some r) : (Op.Complex.arith op .f64 x y).run P w = .ok r w := by
 simp [Op.Complex.arith, run_farith w h]
theorem opt_bind {α β : Type} {o : Option α} {g : α → Option β} {r : β} (h : o.bind g = some r) : ∃ x, o = some x ∧ g x = some r := by
 cases o with
 | none => simp at h
 | some x => exact ⟨x, rfl, h⟩
theorem run_cadd {a b c d : Nat} (h : cok .add a b c d = true) : (binOp .add t (.complex .f64 a b) (.complex .f64 c d)).run P w = .ok (.complex .f64 (cre .add a b c d) (cim .add a b c d)) w := by
 have e := cval_of h
 obtain ⟨x, h1, e⟩ := opt_bind e
 obtain ⟨y, h2, e⟩ := opt_bind e
 obtain ⟨rfl, rfl⟩ := Prod.mk.inj (Option.some.inj e)
 simp [binOp, Op.complexOp, run_carith_ w h1, run_carith_ w h2]
theorem run_csub {a b c d : Nat} (h : cok .sub a b c d = true) : (binOp .sub t (.complex .f64 a b) (.complex .f64 c d)).run P w = .ok (.complex .f64 (cre .sub a b c d) (cim .sub a b c d)) w := by
 have e := cval_of h
 obtain ⟨x, h1, e⟩ := opt_bind e
 obtain ⟨y, h2, e⟩ := opt_bind e
 obtain ⟨rfl, rfl⟩ := Prod.mk.inj (Option.some.inj e)
 simp [binOp, Op.complexOp, run_carith_ w h1, run_carith_ w h2]
end
end Go.Proofs.YtiodebjjbgcbhaaGreatW.PrintMore
namespace Go.Proofs.YtiodebjjbgcbhaaGreatW.PrintWords
open Go Go.Proofs YtiodebjjbgcbhaaGreatW.PrintMore
namespace Kd
def f64 : Kd Nat := scalar (Value.float .f64) (fun _ => rfl)
section
variable {w : World} {A : Option Addr} {n : Nat}
end
end Kd
end Go.Proofs.YtiodebjjbgcbhaaGreatW.PrintWords
namespace Go.Proofs.YtiodebjjbgcbhaaGreatW.PrintMore
open Go
section
variable {P : Program} (w : World) (t : TypeId)
theorem run_equalIn_c (d a b c e : Nat) {k : FloatKind} (ht : P.underlying t = some (.complex k)) : (Op.equalIn (d + 1) t (.complex .f64 a b) (.complex .f64 c e)).run P w = .ok (ceq a b c e) w := by
 simp [Op.equalIn, run_underlying ht, Op.floatEq, ceq, feq]
theorem run_store_float (a : Addr) (m : Mode) (k : FloatKind) (x : Nat) : (store a (.float k x) m).run P w = stored P w a (.float k x) m := run_store P w a _ m rfl
theorem run_store_complex (a : Addr) (m : Mode) (k : FloatKind) (x y : Nat) : (store a (.complex k x y) m).run P w = stored P w a (.complex k x y) m := run_store P w a _ m rfl
end
end Go.Proofs.YtiodebjjbgcbhaaGreatW.PrintMore
