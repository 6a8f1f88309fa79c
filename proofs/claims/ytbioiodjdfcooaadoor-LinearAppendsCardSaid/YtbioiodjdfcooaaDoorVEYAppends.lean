/- familychecklaw01_LinearAppends, printed. -/
import Derived.Test.YtbioiodjdfcooaaDoorVEPx0
import Derived.Test.YtbioiodjdfcooaaDoorVEPx1
import Derived.Test.YtbioiodjdfcooaaDoorVEPx10
import Derived.Test.YtbioiodjdfcooaaDoorVEPx11
import Derived.Test.YtbioiodjdfcooaaDoorVEPx18
import Derived.Test.YtbioiodjdfcooaaDoorVEPx33
import Derived.Test.YtbioiodjdfcooaaDoorVEPx34
import Derived.Test.YtbioiodjdfcooaaDoorVEPx7
import Derived.Test.YtbioiodjdfcooaaDoorVEPx8
import Derived.WalkMore
namespace Go.Proofs.YtbioiodjdfcooaaDoor.P
open Go.RowKit Go.Proofs.YtbioiodjdfcooaaDoorW.PrintWords Go.Proofs.YtbioiodjdfcooaaDoorW.PrintLast Go.Proofs.YtbioiodjdfcooaaDoorW.PrintMore
set_option linter.unusedVariables false
set_option linter.unusedSimpArgs false
open Build
/-! ### familychecklaw01_LinearAppends: function 11 -/
mutual
def familychecklaw01_LinearAppends.j0 : Nat → Bool → Int → List (S33) → List Int → Int → Option (Bool)
  | 0, _, _, _, _, _ => none
  | k + 1, x18, x260000, x260001, x261000, x261001 => if x18 = true then ((familychecklaw01_known.f k).bind fun t263 => (some t263)) else ((familycheckref01_CopySystem.f k x260000 x260001).bind fun bt264 => ((familycheckref01_CopyRow.f x261000 x261001).bind fun bt268 => ((linear_Append.f k bt264.1 bt264.2 bt268.1 bt268.2).bind fun bt274 => ((familycheckref01_Append.f k x260000 x260001 x261000 x261001).bind fun bt280 => (if bt274.2.2 = bt280.2.2 then ((familycheckref01_SameSystem.f k bt274.1 bt274.2.1 bt280.1 bt280.2.1).bind fun t286 => (familychecklaw01_LinearAppends.j1 k t286 x260000 x260001 x261000 x261001 bt264.1 bt264.2 bt268.1 bt268.2 bt274.1 bt274.2.1)) else (familychecklaw01_LinearAppends.j1 k false x260000 x260001 x261000 x261001 bt264.1 bt264.2 bt268.1 bt268.2 bt274.1 bt274.2.1))))))
def familychecklaw01_LinearAppends.j1 : Nat → Bool → Int → List (S33) → List Int → Int → Int → List (S33) → List Int → Int → Int → List (S33) → Option (Bool)
  | 0, _, _, _, _, _, _, _, _, _, _, _ => none
  | k + 1, x11, x260000, x260001, x261000, x261001, x273000, x273001, x274000, x274001, x280000, x280001 => familychecklaw01_LinearAppends.l0 k x11 0 x260000 x260001 x261000 x261001 x273000 x273001 x274000 x274001 x280000 x280001
def familychecklaw01_LinearAppends.l0 : Nat → Bool → Int → Int → List (S33) → List Int → Int → Int → List (S33) → List Int → Int → Int → List (S33) → Option (Bool)
  | 0, _, _, _, _, _, _, _, _, _, _, _, _ => none
  | k + 1, x11, x12, x260000, x260001, x261000, x261001, x273000, x273001, x274000, x274001, x280000, x280001 => if x12 < (x280001.length : Int) then (if 0 ≤ x12 then ((familychecklaw01_spoil.f k ((rd_T33 x280001 x12).f0)).bind fun _ => (familychecklaw01_LinearAppends.l0 k x11 (wrap64 (x12 + 1)) x260000 x260001 x261000 x261001 x273000 x273001 x274000 x274001 x280000 x280001)) else (none)) else (if x11 = true then ((familycheckref01_SameSystem.f k x273000 x273001 x260000 x260001).bind fun t288 => (if t288 = true then ((familycheckref01_SameRow.f k x274000 x274001 x261000 x261001).bind fun t289 => (if t289 = true then ((familychecklaw01_known.f k).bind fun t290 => (some t290)) else (some false))) else (some false))) else (some false))
end
def familychecklaw01_LinearAppends.f (k : Nat) (a0_0 : Int) (l0_1 : List (S33)) (l1_0 : List Int) (a1_1 : Int) : Option (Bool) := (familychecklaw01_wide.f k a0_0 l0_1).bind fun t261 => (if t261 = true then (familychecklaw01_LinearAppends.j0 k true a0_0 l0_1 l1_0 a1_1) else ((familychecklaw01_long.f l1_0 a1_1).bind fun t262 => (familychecklaw01_LinearAppends.j0 k t262 a0_0 l0_1 l1_0 a1_1)))
def familychecklaw01_LinearAppends.T3 : Bool × List (List Nat × List Nat) := (true, [([], []), ([0], [0]), ([], []), ([2, 1], [2]), ([], []), ([], []), ([4, 1, 3, 0, 1, 4, 5], [1, 4]), ([5, 3, 6, 0, 1, 2, 3, 4, 5, 6], [3, 5])])
def familychecklaw01_LinearAppends.B3 : List Nat := [0, 1, 0, 7, 0, 0, 63, 127]
theorem familychecklaw01_LinearAppends.tab3 : rtab .any (opsOf Tryd.f11 3) = familychecklaw01_LinearAppends.T3 := by kernel_rfl
theorem familychecklaw01_LinearAppends.bits3 : waitsOk familychecklaw01_LinearAppends.T3.2 familychecklaw01_LinearAppends.B3 = true := by kernel_rfl

end Go.Proofs.YtbioiodjdfcooaaDoor.P
