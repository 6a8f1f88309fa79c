/- Plain facts: sums without overflow, divisors, floors, Tighten, Negate, the signs. -/
import Derived.Test.YtbioiodjdfcooaaDoorVFPx0
import Derived.Test.YtbioiodjdfcooaaDoorVFPx4
import Derived.Test.YtbioiodjdfcooaaDoorVFPx5
import Derived.Test.YtbioiodjdfcooaaDoorVFPx16
import Derived.Test.YtbioiodjdfcooaaDoorVFPx17
import Derived.Test.YtbioiodjdfcooaaDoorVFPx18
import Derived.Test.YtbioiodjdfcooaaDoorVFPx1
import Derived.Test.YtbioiodjdfcooaaDoorVFPx2
import Derived.Test.YtbioiodjdfcooaaDoorVFQk
import Derived.Test.YtbioiodjdfcooaaDoorVFQa2
namespace Go.Proofs.YtbioiodjdfcooaaDoor.P
open Go.RowKit Go.Proofs.YtbioiodjdfcooaaDoorW.PrintWords Go.Proofs.YtbioiodjdfcooaaDoorW.PrintLast Go.Proofs.YtbioiodjdfcooaaDoorW.PrintMore
set_option linter.unusedVariables false
/-! ### sums -/
theorem mul_bound {a b : Int} (h : -68719476736 ≤ a ∧ a ≤ 68719476736) (h' : 0 ≤ b ∧ b ≤ 1048576) : -72057594037927936 ≤ a * b ∧ a * b ≤ 72057594037927936 := by
  have h1 : a * b ≤ 68719476736 * b := Int.mul_le_mul_of_nonneg_right h.2 h'.1
  have h2 : (-68719476736) * b ≤ a * b := Int.mul_le_mul_of_nonneg_right h.1 h'.1
  omega
/-! ### a row changed from the left -/
/-! ### divisors -/
/-! ### floors -/
/-! ### Tighten -/
theorem clone_eq (l : List Int) (c : Int) (h : l.length ≤ 17592186044416) : linear_clone.f l c = some (l, c) := if_pos h
/-! ### spoil -/
end Go.Proofs.YtbioiodjdfcooaaDoor.P
