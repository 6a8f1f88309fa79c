import Derived.Test.YtbioiodjdfcooaaDoorVDPx0
import Derived.Test.YtbioiodjdfcooaaDoorVDPx9
import Derived.Test.YtbioiodjdfcooaaDoorVDPx13
-- Written by a program of this session (wip/tools/doprint.sh: the kit's print, with given texts for some functions).
namespace Go.Proofs.YtbioiodjdfcooaaDoor.P
open Go.RowKit Go.Proofs.YtbioiodjdfcooaaDoorW.PrintWords Go.Proofs.YtbioiodjdfcooaaDoorW.PrintLast Go.Proofs.YtbioiodjdfcooaaDoorW.PrintMore
attribute [local go_sem] max2_int min2_int max_two min_two max_three min_three max_four min_four   -- for this text's walks alone
set_option linter.unusedVariables false
set_option linter.unusedSimpArgs false

/-! ### familycheckref01_Satisfies: function 25 -/
mutual
def familycheckref01_Satisfies.j0 : Nat → List Int → Bool → Int → List (S33) → Option (Bool)
  | 0, _, _, _, _ => none
  | k + 1, x1, x20, x234000, x234001 => if x20 = true then (some false) else (familycheckref01_Satisfies.l0 k x1 0 x234000 x234001)
def familycheckref01_Satisfies.l0 : Nat → List Int → Int → Int → List (S33) → Option (Bool)
  | 0, _, _, _, _ => none
  | k + 1, x1, x5, x234000, x234001 => if x5 < (x234001.length : Int) then (if 0 ≤ x5 then ((familycheckref01_left.f k ((rd_T33 x234001 x5).f0) ((rd_T33 x234001 x5).f1) x1).bind fun t237 => (if t237 < 0 then (some false) else (familycheckref01_Satisfies.l0 k x1 (wrap64 (x5 + 1)) x234000 x234001))) else (none)) else (some true)
end
end Go.Proofs.YtbioiodjdfcooaaDoor.P
