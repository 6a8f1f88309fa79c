import Derived.Test.YtbioiodjdfcooaaDoorVGPx0
import Derived.Test.YtbioiodjdfcooaaDoorVGPx7
import Derived.Test.YtbioiodjdfcooaaDoorVGPx8
import Derived.Test.YtbioiodjdfcooaaDoorVGPx16
-- Written by a program of this session (wip/tools/doprint.sh: the kit's print, with given texts for some functions).
namespace Go.Proofs.YtbioiodjdfcooaaDoor.P
open Go.RowKit Go.Proofs.YtbioiodjdfcooaaDoorW.PrintWords Go.Proofs.YtbioiodjdfcooaaDoorW.PrintLast Go.Proofs.YtbioiodjdfcooaaDoorW.PrintMore
attribute [local go_sem] max2_int min2_int max_two min_two max_three min_three max_four min_four   -- for this text's walks alone
set_option linter.unusedVariables false
set_option linter.unusedSimpArgs false

/-! ### familycheckref01_Tighten: function 29 -/
mutual
def familycheckref01_Tighten.l0 : Nat → Int → Int → List Int → Int → List Int → Int → Option (List Int × Int)
  | 0, _, _, _, _, _, _ => none
  | k + 1, x4, x5, x251000, x251001, x257000, x257001 => if x5 < (x251000.length : Int) then (if 0 ≤ x5 then ((familycheckref01_abs.f (rd x251000 x5)).bind fun t259 => ((familycheckref01_gcd.f k x4 t259).bind fun t260 => (familycheckref01_Tighten.l0 k t260 (wrap64 (x5 + 1)) x251000 x251001 x257000 x257001))) else (none)) else (if x4 = 0 then (some (x257000, x257001)) else (familycheckref01_Tighten.l1 k x4 0 x257000 x257001))
def familycheckref01_Tighten.l1 : Nat → Int → Int → List Int → Int → Option (List Int × Int)
  | 0, _, _, _, _ => none
  | k + 1, x4, x6, x257000, x257001 => if x6 < (x257000.length : Int) then (if 0 ≤ x6 then (if x4 = 0 then (none) else (familycheckref01_Tighten.l1 k x4 (wrap64 (x6 + 1)) (x257000.set (x6 : Int).toNat (wrap64 (Int.tdiv (rd x257000 x6) x4))) x257001)) else (none)) else ((familycheckref01_down.f x257001 x4).bind fun t263 => (some (x257000, t263)))
end
end Go.Proofs.YtbioiodjdfcooaaDoor.P
