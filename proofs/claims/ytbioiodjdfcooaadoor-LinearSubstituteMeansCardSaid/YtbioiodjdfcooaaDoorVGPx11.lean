import Derived.Test.YtbioiodjdfcooaaDoorVGPx0
import Derived.Test.YtbioiodjdfcooaaDoorVGPx10
-- Written by a program of this session (wip/tools/doprint.sh: the kit's print, with given texts for some functions).
namespace Go.Proofs.YtbioiodjdfcooaaDoor.P
open Go.RowKit Go.Proofs.YtbioiodjdfcooaaDoorW.PrintWords Go.Proofs.YtbioiodjdfcooaaDoorW.PrintLast Go.Proofs.YtbioiodjdfcooaaDoorW.PrintMore
attribute [local go_sem] max2_int min2_int max_two min_two max_three min_three max_four min_four   -- for this text's walks alone
set_option linter.unusedVariables false
set_option linter.unusedSimpArgs false

/-! ### familycheckref01_SameSystem: function 20 -/
mutual
def familycheckref01_SameSystem.j0 : Nat → Bool → Int → List (S33) → Int → List (S33) → Option (Bool)
  | 0, _, _, _, _, _ => none
  | k + 1, x19, x208000, x208001, x209000, x209001 => if x19 = true then (some false) else (familycheckref01_SameSystem.l0 k 0 x208000 x208001 x209000 x209001)
def familycheckref01_SameSystem.l0 : Nat → Int → Int → List (S33) → Int → List (S33) → Option (Bool)
  | 0, _, _, _, _, _ => none
  | k + 1, x5, x208000, x208001, x209000, x209001 => if x5 < (x208001.length : Int) then (if 0 ≤ x5 then (if x5 < (x209001.length : Int) then ((familycheckref01_SameRow.f k ((rd_T33 x208001 x5).f0) ((rd_T33 x208001 x5).f1) ((rd_T33 x209001 x5).f0) ((rd_T33 x209001 x5).f1)).bind fun t211 => (if t211 = true then (familycheckref01_SameSystem.l0 k (wrap64 (x5 + 1)) x208000 x208001 x209000 x209001) else (some false))) else (none)) else (none)) else (some true)
end
end Go.Proofs.YtbioiodjdfcooaaDoor.P
