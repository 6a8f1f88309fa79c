/- Plain facts: sums without overflow, divisors, floors, Tighten, Negate, the signs. -/
import Derived.Test.YtbioiodjdfcooaaDoorVEPx0
import Derived.Test.YtbioiodjdfcooaaDoorVEPx4
import Derived.Test.YtbioiodjdfcooaaDoorVEPx5
import Derived.Test.YtbioiodjdfcooaaDoorVEPx16
import Derived.Test.YtbioiodjdfcooaaDoorVEPx17
import Derived.Test.YtbioiodjdfcooaaDoorVEPx18
import Derived.Test.YtbioiodjdfcooaaDoorVEPx1
import Derived.Test.YtbioiodjdfcooaaDoorVEPx2
import Derived.Test.YtbioiodjdfcooaaDoorVEQk
import Derived.Test.YtbioiodjdfcooaaDoorVEQa2
namespace Go.Proofs.YtbioiodjdfcooaaDoor.P
open Go.RowKit Go.Proofs.YtbioiodjdfcooaaDoorW.PrintWords Go.Proofs.YtbioiodjdfcooaaDoorW.PrintLast Go.Proofs.YtbioiodjdfcooaaDoorW.PrintMore
set_option linter.unusedVariables false
/-! ### sums -/
/-! ### a row changed from the left -/
/-! ### divisors -/
/-! ### floors -/
/-! ### Tighten -/
theorem clone_eq (l : List Int) (c : Int) (h : l.length ≤ 17592186044416) : linear_clone.f l c = some (l, c) := if_pos h
/-! ### spoil -/
end Go.Proofs.YtbioiodjdfcooaaDoor.P
