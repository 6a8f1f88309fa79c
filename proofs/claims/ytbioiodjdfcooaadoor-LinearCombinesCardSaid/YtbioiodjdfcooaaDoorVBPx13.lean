import Derived.Test.YtbioiodjdfcooaaDoorVBPx0
import Derived.Test.YtbioiodjdfcooaaDoorVBPx8
-- Written by a program of this session (wip/tools/doprint.sh: the kit's print, with given texts for some functions).
namespace Go.Proofs.YtbioiodjdfcooaaDoor.P
open Go.RowKit Go.Proofs.YtbioiodjdfcooaaDoorW.PrintWords Go.Proofs.YtbioiodjdfcooaaDoorW.PrintLast Go.Proofs.YtbioiodjdfcooaaDoorW.PrintMore
attribute [local go_sem] max2_int min2_int max_two min_two max_three min_three max_four min_four   -- for this text's walks alone
set_option linter.unusedVariables false
set_option linter.unusedSimpArgs false

/-! ### familycheckref01_isPoint: function 53 -/
/-! ### familycheckref01_left: function 54 -/
def familycheckref01_left.l0 : Nat → List Int → Int → Int → List Int → Int → Option (Int)
  | 0, _, _, _, _, _ => none
  | k + 1, x1, x5, x6, x227000, x227001 => if x6 < (x227000.length : Int) then (if 0 ≤ x6 then (if x6 < (x1.length : Int) then (familycheckref01_left.l0 k x1 (wrap64 (x5 + (wrap64 ((rd x227000 x6) * (rd x1 x6))))) (wrap64 (x6 + 1)) x227000 x227001) else (none)) else (none)) else (some x5)
def familycheckref01_left.f (k : Nat) (l0_0 : List Int) (a0_1 : Int) (l1 : List Int) : Option (Int) := familycheckref01_left.l0 k l1 a0_1 0 l0_0 a0_1
/-! ### familycheckref01_Value: function 23 -/
end Go.Proofs.YtbioiodjdfcooaaDoor.P
