/- Words for the printed texts: two complex numbers inside of structs that are compared. -/
import Derived.Test.YtfoahgdaigfhoaaFltW
import Derived.Laws.Entries
namespace Go.Proofs.YtfoahgdaigfhoaaW.PrintMore
open Go
section
variable {P : Program} (w : World) (t : TypeId)
theorem run_equalIn_c (d a b c e : Nat) {k : FloatKind} (ht : P.underlying t = some (.complex k)) : (Op.equalIn (d + 1) t (.complex .f64 a b) (.complex .f64 c e)).run P w = .ok (ceq a b c e) w := by
  simp [Op.equalIn, run_underlying ht, Op.floatEq, ceq, feq]
theorem run_store_float (a : Addr) (m : Mode) (k : FloatKind) (x : Nat) : (store a (.float k x) m).run P w = stored P w a (.float k x) m := run_store P w a _ m rfl
theorem run_store_complex (a : Addr) (m : Mode) (k : FloatKind) (x y : Nat) : (store a (.complex k x y) m).run P w = stored P w a (.complex k x y) m := run_store P w a _ m rfl
end
end Go.Proofs.YtfoahgdaigfhoaaW.PrintMore
