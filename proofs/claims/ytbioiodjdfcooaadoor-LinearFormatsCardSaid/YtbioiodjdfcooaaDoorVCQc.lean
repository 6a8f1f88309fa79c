/- Plain facts: sums without overflow, divisors, floors, Tighten, Negate, the signs. -/
import Derived.Test.YtbioiodjdfcooaaDoorVCPx0
import Derived.Test.YtbioiodjdfcooaaDoorVCPx4
import Derived.Test.YtbioiodjdfcooaaDoorVCPx5
import Derived.Test.YtbioiodjdfcooaaDoorVCPx16
import Derived.Test.YtbioiodjdfcooaaDoorVCPx17
import Derived.Test.YtbioiodjdfcooaaDoorVCPx1
import Derived.Test.YtbioiodjdfcooaaDoorVCPx2
import Derived.Test.YtbioiodjdfcooaaDoorVCPx8
import Derived.Test.YtbioiodjdfcooaaDoorVCPx13
import Derived.Test.YtbioiodjdfcooaaDoorVCPx14
import Derived.Test.YtbioiodjdfcooaaDoorVCQk
namespace Go.Proofs.YtbioiodjdfcooaaDoor.P
open Go.RowKit Go.Proofs.YtbioiodjdfcooaaDoorW.PrintWords Go.Proofs.YtbioiodjdfcooaaDoorW.PrintLast Go.Proofs.YtbioiodjdfcooaaDoorW.PrintMore
set_option linter.unusedVariables false
/-! ### sums -/
/-! ### a row changed from the left -/
/-! ### divisors -/
theorem abs_eq {a : Int} (h : -68719476736 ≤ a ∧ a ≤ 68719476736) : familycheckref01_abs.f a = some (a.natAbs : Int) := by
  unfold familycheckref01_abs.f
  by_cases h0 : a < 0
  · rw [if_pos h0, wrap_id (by omega) (by omega)]; congr 1; omega
  · rw [if_neg h0]; congr 1; omega
/-! ### floors -/
/-! ### Tighten -/
/-! ### spoil -/
end Go.Proofs.YtbioiodjdfcooaaDoor.P
