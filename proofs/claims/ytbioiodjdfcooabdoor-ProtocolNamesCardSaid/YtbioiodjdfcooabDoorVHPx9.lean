import Derived.Test.YtbioiodjdfcooabDoorVHPx0
-- Written by a program of this session (wip/tools/doprint.sh: the kit's print, with given texts for some functions).
namespace Go.Proofs.YtbioiodjdfcooabDoor.P
open Go.RowKit Go.Proofs.YtbioiodjdfcooabDoorW.PrintWords Go.Proofs.YtbioiodjdfcooabDoorW.PrintLast Go.Proofs.YtbioiodjdfcooabDoorW.PrintMore
attribute [local go_sem] max2_int min2_int max_two min_two max_three min_three max_four min_four   -- for this text's walks alone
set_option linter.unusedVariables false
set_option linter.unusedSimpArgs false

/-! ### familycheckref01_CompareInts: function 14 -/
mutual
def familycheckref01_CompareInts.l0 : Nat → List Int → List Int → Int → Option (Int)
  | 0, _, _, _ => none
  | k + 1, x0, x1, x5 => if x5 < (x0.length : Int) then (familycheckref01_CompareInts.j1 k x0 x1 x5 (decide (x5 < (x1.length : Int)))) else (familycheckref01_CompareInts.j1 k x0 x1 x5 false)
def familycheckref01_CompareInts.j1 : Nat → List Int → List Int → Int → Bool → Option (Int)
  | 0, _, _, _, _ => none
  | k + 1, x0, x1, x5, x15 => if x15 = true then (if 0 ≤ x5 then (if x5 < (x0.length : Int) then (if x5 < (x1.length : Int) then (if (rd x0 x5) < (rd x1 x5) then (some (-1)) else (if (rd x0 x5) > (rd x1 x5) then (some 1) else (familycheckref01_CompareInts.l0 k x0 x1 (wrap64 (x5 + 1))))) else (none)) else (none)) else (none)) else (if (x0.length : Int) < (x1.length : Int) then (some (-1)) else (if (x0.length : Int) > (x1.length : Int) then (some 1) else (some 0)))
end
end Go.Proofs.YtbioiodjdfcooabDoor.P
