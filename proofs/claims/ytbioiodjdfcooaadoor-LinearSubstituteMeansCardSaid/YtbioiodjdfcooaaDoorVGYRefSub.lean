/- familycheckref01_Substitute, printed. -/
import Derived.Test.YtbioiodjdfcooaaDoorVGPx0
import Derived.Test.YtbioiodjdfcooaaDoorVGPx8
import Derived.Test.YtbioiodjdfcooaaDoorVGPx9
import Derived.WalkMore
namespace Go.Proofs.YtbioiodjdfcooaaDoor.P
open Go.RowKit Go.Proofs.YtbioiodjdfcooaaDoorW.PrintWords Go.Proofs.YtbioiodjdfcooaaDoorW.PrintLast Go.Proofs.YtbioiodjdfcooaaDoorW.PrintMore
set_option linter.unusedVariables false
set_option linter.unusedSimpArgs false
open Build
/-! ### familycheckref01_Substitute: function 44 -/
mutual
def familycheckref01_Substitute.j0 : Nat → Int → Int → Bool → Int → List (S33) → Option (Int × (List (S33)) × Int)
  | 0, _, _, _, _, _ => none
  | k + 1, x1, x2, x27, x247000, x247001 => if x27 = true then (some (0, ([] : List (S33)), 1)) else ((familycheckref01_CopySystem.f k x247000 x247001).bind fun bt251 => (familycheckref01_Substitute.l0 k x1 x2 0 bt251.1 bt251.2))
def familycheckref01_Substitute.l0 : Nat → Int → Int → Int → Int → List (S33) → Option (Int × (List (S33)) × Int)
  | 0, _, _, _, _, _ => none
  | k + 1, x1, x2, x10, x256000, x256001 => if x10 < (x256001.length : Int) then (if 0 ≤ x10 then (if 0 ≤ x1 then (if x1 < (((rd_T33 x256001 x10).f0).length : Int) then ((some (x256001.set (x10 : Int).toNat (⟨(rd_T33 x256001 x10).f0, wrap64 (((rd_T33 x256001 x10).f1) + (wrap64 ((rd ((rd_T33 x256001 x10).f0) x1) * x2)))⟩ : S33) : List (S33))).bind fun y259 => (if x1 < (((rd_T33 y259 x10).f0).length : Int) then (familycheckref01_Substitute.l0 k x1 x2 (wrap64 (x10 + 1)) x256000 (y259.set (x10 : Int).toNat (⟨(((rd_T33 y259 x10).f0).set (x1 : Int).toNat 0), (rd_T33 y259 x10).f1⟩ : S33))) else (none))) else (none)) else (none)) else (none)) else ((familycheckref01_Validate.f k x256000 x256001).bind fun t264 => (if t264 = 0 then (some (x256000, x256001, 0)) else (some (0, ([] : List (S33)), 4))))
end
end Go.Proofs.YtbioiodjdfcooaaDoor.P
