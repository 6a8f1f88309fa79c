import Derived.Test.YtbioiodjdfcooaaDoorVGPx0
import Derived.Test.YtbioiodjdfcooaaDoorVGPx8
-- Written by a program of this session (wip/tools/doprint.sh: the kit's print, with given texts for some functions).
namespace Go.Proofs.YtbioiodjdfcooaaDoor.P
open Go.RowKit Go.Proofs.YtbioiodjdfcooaaDoorW.PrintWords Go.Proofs.YtbioiodjdfcooaaDoorW.PrintLast Go.Proofs.YtbioiodjdfcooaaDoorW.PrintMore
attribute [local go_sem] max2_int min2_int max_two min_two max_three min_three max_four min_four   -- for this text's walks alone
set_option linter.unusedVariables false
set_option linter.unusedSimpArgs false

/-! ### familycheckref01_Validate: function 19 -/
mutual
def familycheckref01_Validate.l0 : Nat → Int → Int → List (S33) → Option (Int)
  | 0, _, _, _ => none
  | k + 1, x3, x195000, x195001 => if x3 < (x195001.length : Int) then (if 0 ≤ x3 then (if (((rd_T33 x195001 x3).f0).length : Int) = x195000 then (familycheckref01_Validate.l0 k (wrap64 (x3 + 1)) x195000 x195001) else (some 1)) else (none)) else (if (x195001.length : Int) > 192 then (some 4) else (familycheckref01_Validate.l1 k 0 x195000 x195001))
def familycheckref01_Validate.l1 : Nat → Int → Int → List (S33) → Option (Int)
  | 0, _, _, _ => none
  | k + 1, x4, x195000, x195001 => if x4 < (x195001.length : Int) then (if 0 ≤ x4 then ((familycheckref01_Small.f k ((rd_T33 x195001 x4).f0) ((rd_T33 x195001 x4).f1)).bind fun t198 => (if t198 = true then (familycheckref01_Validate.l1 k (wrap64 (x4 + 1)) x195000 x195001) else (some 4))) else (none)) else (some 0)
end
def familycheckref01_Validate.f (k : Nat) (a0_0 : Int) (l0_1 : List (S33)) : Option (Int) := (familycheckref01_within.f a0_0 0 96).bind fun t195 => (if t195 = true then (familycheckref01_Validate.l0 k 0 a0_0 l0_1) else (some 1))
end Go.Proofs.YtbioiodjdfcooaaDoor.P
