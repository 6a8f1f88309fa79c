import Derived.Test.YtbioiodjdfcooaaDoorVGPx0
-- Written by a program of this session (wip/tools/doprint.sh: the kit's print, with given texts for some functions).
namespace Go.Proofs.YtbioiodjdfcooaaDoor.P
open Go.RowKit Go.Proofs.YtbioiodjdfcooaaDoorW.PrintWords Go.Proofs.YtbioiodjdfcooaaDoorW.PrintLast Go.Proofs.YtbioiodjdfcooaaDoorW.PrintMore
attribute [local go_sem] max2_int min2_int max_two min_two max_three min_three max_four min_four   -- for this text's walks alone
set_option linter.unusedVariables false
set_option linter.unusedSimpArgs false

/-! ### familycheckref01_gcd: function 58 -/
def familycheckref01_gcd.l0 : Nat → Int → Int → Option (Int)
  | 0, _, _ => none
  | k + 1, x0, x1 => if x1 = 0 then (some x0) else (familycheckref01_gcd.l0 k x1 (Int.tmod x0 x1))
def familycheckref01_gcd.f (k : Nat) (a0 : Int) (a1 : Int) : Option (Int) := familycheckref01_gcd.l0 k a0 a1
/-! ### familycheckref01_abs: function 59 -/
def familycheckref01_abs.f (a0 : Int) : Option (Int) := if a0 < 0 then (some (wrap64 (-a0))) else (some a0)
/-! ### familycheckref01_down: function 60 -/
def familycheckref01_down.f (a0 : Int) (a1 : Int) : Option (Int) := if a1 = 0 then (none) else (if (Int.tmod a0 a1) < 0 then (some (wrap64 ((wrap64 (Int.tdiv a0 a1)) - 1))) else (some (wrap64 (Int.tdiv a0 a1))))
end Go.Proofs.YtbioiodjdfcooaaDoor.P
