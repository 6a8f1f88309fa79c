import Derived.Test.YtbioiodjdfcooabDoorVIPx0
import Derived.Test.YtbioiodjdfcooabDoorVIPx16
-- Written by a program of this session (wip/tools/doprint.sh: the kit's print, with given texts for some functions).
namespace Go.Proofs.YtbioiodjdfcooabDoor.P
open Go.RowKit Go.Proofs.YtbioiodjdfcooabDoorW.PrintWords Go.Proofs.YtbioiodjdfcooabDoorW.PrintLast Go.Proofs.YtbioiodjdfcooabDoorW.PrintMore
attribute [local go_sem] max2_int min2_int max_two min_two max_three min_three max_four min_four   -- for this text's walks alone
set_option linter.unusedVariables false
set_option linter.unusedSimpArgs false

/-! ### familycheckref02_ValidName: function 21 -/
mutual
def familycheckref02_ValidName.j0 : Nat → ByteArray → Bool → Option (Bool)
  | 0, _, _ => none
  | k + 1, x0, x17 => if x17 = true then (some false) else (familycheckref02_ValidName.l0 k x0 0)
def familycheckref02_ValidName.l0 : Nat → ByteArray → Int → Option (Bool)
  | 0, _, _ => none
  | k + 1, x0, x3 => if x3 < (x0.size : Int) then (if 0 ≤ x3 then (if (bt x0 x3) ≥ 97 then (if ((bt x0 x3) ≤ 122) then (familycheckref02_ValidName.l0 k x0 (wrap64 (x3 + 1))) else (if (bt x0 x3) ≥ 48 then (if ((bt x0 x3) ≤ 57) then (familycheckref02_ValidName.l0 k x0 (wrap64 (x3 + 1))) else (if (bt x0 x3) = 95 then (familycheckref02_ValidName.l0 k x0 (wrap64 (x3 + 1))) else (some false))) else (if (bt x0 x3) = 95 then (familycheckref02_ValidName.l0 k x0 (wrap64 (x3 + 1))) else (some false)))) else (if (bt x0 x3) ≥ 48 then (if ((bt x0 x3) ≤ 57) then (familycheckref02_ValidName.l0 k x0 (wrap64 (x3 + 1))) else (if (bt x0 x3) = 95 then (familycheckref02_ValidName.l0 k x0 (wrap64 (x3 + 1))) else (some false))) else (if (bt x0 x3) = 95 then (familycheckref02_ValidName.l0 k x0 (wrap64 (x3 + 1))) else (some false)))) else (none)) else ((familycheckref02_reserved.f).bind fun t290 => ((familycheckref02_HasText.f k t290 x0).bind fun t293 => (some (!t293))))
end
-- NOT PRINTED: function 5 (familychecklaw02_ProtocolNames)

end Go.Proofs.YtbioiodjdfcooabDoor.P
