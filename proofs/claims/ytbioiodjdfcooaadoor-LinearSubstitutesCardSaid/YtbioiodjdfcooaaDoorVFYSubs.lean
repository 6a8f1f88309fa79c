/- familychecklaw01_LinearSubstitutes, printed. -/
import Derived.Test.YtbioiodjdfcooaaDoorVFPx0
import Derived.Test.YtbioiodjdfcooaaDoorVFPx1
import Derived.Test.YtbioiodjdfcooaaDoorVFPx11
import Derived.Test.YtbioiodjdfcooaaDoorVFPx18
import Derived.Test.YtbioiodjdfcooaaDoorVFPx7
import Derived.Test.YtbioiodjdfcooaaDoorVFPx8
import Derived.Test.YtbioiodjdfcooaaDoorVFYRefSub
import Derived.Test.YtbioiodjdfcooaaDoorVFYSub
import Derived.WalkMore
namespace Go.Proofs.YtbioiodjdfcooaaDoor.P
open Go.RowKit Go.Proofs.YtbioiodjdfcooaaDoorW.PrintWords Go.Proofs.YtbioiodjdfcooaaDoorW.PrintLast Go.Proofs.YtbioiodjdfcooaaDoorW.PrintMore
set_option linter.unusedVariables false
set_option linter.unusedSimpArgs false
open Build
/-! ### familychecklaw01_LinearSubstitutes: function 12 -/
mutual
def familychecklaw01_LinearSubstitutes.j0 : Nat → Bool → Int → List (S33) → Int → List (S33) → Int → List (S33) → Option (Bool)
  | 0, _, _, _, _, _, _, _ => none
  | k + 1, x10, x267000, x267001, x275000, x275001, x281000, x281001 => familychecklaw01_LinearSubstitutes.l0 k x10 0 x267000 x267001 x275000 x275001 x281000 x281001
def familychecklaw01_LinearSubstitutes.l0 : Nat → Bool → Int → Int → List (S33) → Int → List (S33) → Int → List (S33) → Option (Bool)
  | 0, _, _, _, _, _, _, _, _ => none
  | k + 1, x10, x11, x267000, x267001, x275000, x275001, x281000, x281001 => if x11 < (x281001.length : Int) then (if 0 ≤ x11 then ((familychecklaw01_spoil.f k ((rd_T33 x281001 x11).f0)).bind fun _ => (familychecklaw01_LinearSubstitutes.l0 k x10 (wrap64 (x11 + 1)) x267000 x267001 x275000 x275001 x281000 x281001)) else (none)) else (if x10 = true then ((familycheckref01_SameSystem.f k x275000 x275001 x267000 x267001).bind fun t289 => (if t289 = true then ((familychecklaw01_known.f k).bind fun t290 => (some t290)) else (some false))) else (some false))
end
def familychecklaw01_LinearSubstitutes.f (k : Nat) (a0_0 : Int) (l0_1 : List (S33)) (a1_0 : Int) (a1_1 : Int) : Option (Bool) := (familychecklaw01_wide.f k a0_0 l0_1).bind fun t268 => (if t268 = true then ((familychecklaw01_known.f k).bind fun t269 => (some t269)) else ((familycheckref01_CopySystem.f k a0_0 l0_1).bind fun bt270 => ((linear_Substitute.f k bt270.1 bt270.2 a1_0 a1_1).bind fun bt275 => ((familycheckref01_Substitute.f k a0_0 l0_1 a1_0 a1_1).bind fun bt281 => (if bt275.2.2 = bt281.2.2 then ((familycheckref01_SameSystem.f k bt275.1 bt275.2.1 bt281.1 bt281.2.1).bind fun t287 => (familychecklaw01_LinearSubstitutes.j0 k t287 a0_0 l0_1 bt270.1 bt270.2 bt275.1 bt275.2.1)) else (familychecklaw01_LinearSubstitutes.j0 k false a0_0 l0_1 bt270.1 bt270.2 bt275.1 bt275.2.1))))))
end Go.Proofs.YtbioiodjdfcooaaDoor.P
