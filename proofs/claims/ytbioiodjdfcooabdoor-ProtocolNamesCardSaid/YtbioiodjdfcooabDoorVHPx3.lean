import Derived.Test.YtbioiodjdfcooabDoorVHPx0
import Derived.Test.YtbioiodjdfcooabDoorVHPx1
-- Written by a program of this session (wip/tools/doprint.sh: the kit's print, with given texts for some functions).
namespace Go.Proofs.YtbioiodjdfcooabDoor.P
open Go.RowKit Go.Proofs.YtbioiodjdfcooabDoorW.PrintWords Go.Proofs.YtbioiodjdfcooabDoorW.PrintLast Go.Proofs.YtbioiodjdfcooabDoorW.PrintMore
attribute [local go_sem] max2_int min2_int max_two min_two max_three min_three max_four min_four   -- for this text's walks alone
set_option linter.unusedVariables false
set_option linter.unusedSimpArgs false

/-! ### linear_Validate: function 35 -/
mutual
def linear_Validate.j0 : Nat → Bool → Int → List (S35) → Option (Int)
  | 0, _, _, _ => none
  | k + 1, x14, x116000, x116001 => if x14 = true then (some 1) else (linear_Validate.l0 k x116001 (x116001.length : Int) 0 x116000 x116001)
def linear_Validate.l0 : Nat → List (S35) → Int → Int → Int → List (S35) → Option (Int)
  | 0, _, _, _, _, _ => none
  | k + 1, x16, x17, x18, x116000, x116001 => if x18 < x17 then (if 0 ≤ x18 then (if x18 < (x16.length : Int) then (if (((rd_T35 x16 x18).f0).length : Int) = x116000 then (linear_Validate.l0 k x16 x17 (wrap64 (x18 + 1)) x116000 x116001) else (some 1)) else (none)) else (none)) else (if (x116001.length : Int) > 192 then (some 4) else (linear_Validate.l1 k x116001 (x116001.length : Int) 0))
def linear_Validate.l1 : Nat → List (S35) → Int → Int → Option (Int)
  | 0, _, _, _ => none
  | k + 1, x34, x35, x36 => if x36 < x35 then (if 0 ≤ x36 then (if x36 < (x34.length : Int) then ((linear_small.f k ((rd_T35 x34 x36).f0) ((rd_T35 x34 x36).f1)).bind fun t120 => (if t120 = true then (linear_Validate.l1 k x34 x35 (wrap64 (x36 + 1))) else (some 4))) else (none)) else (none)) else (some 0)
end
end Go.Proofs.YtbioiodjdfcooabDoor.P
