/- linear_Substitute, printed. -/
import Derived.Test.YtbioiodjdfcooaaDoorVGPx0
import Derived.Test.YtbioiodjdfcooaaDoorVGPx1
import Derived.Test.YtbioiodjdfcooaaDoorVGPx3
import Derived.Test.YtbioiodjdfcooaaDoorVGPx32
import Derived.WalkMore
namespace Go.Proofs.YtbioiodjdfcooaaDoor.P
open Go.RowKit Go.Proofs.YtbioiodjdfcooaaDoorW.PrintWords Go.Proofs.YtbioiodjdfcooaaDoorW.PrintLast Go.Proofs.YtbioiodjdfcooaaDoorW.PrintMore
set_option linter.unusedVariables false
set_option linter.unusedSimpArgs false
open Build
/-! ### linear_Substitute: function 43 -/
mutual
def linear_Substitute.j0 : Nat → Int → Int → Bool → Int → List (S33) → Option (Int × (List (S33)) × Int)
  | 0, _, _, _, _, _ => none
  | k + 1, x1, x2, x33, x217000, x217001 => if x33 = true then (some (0, ([] : List (S33)), 1)) else ((linear_same.f k x217000 x217001).bind fun bt219 => (linear_Substitute.l0 k x1 x2 (bt219.2.length : Int) 0 bt219.1 bt219.2))
def linear_Substitute.l0 : Nat → Int → Int → Int → Int → Int → List (S33) → Option (Int × (List (S33)) × Int)
  | 0, _, _, _, _, _, _ => none
  | k + 1, x1, x2, x39, x40, x224000, x224001 => if x40 < x39 then (if 0 ≤ x40 then (if x40 < (x224001.length : Int) then (if 0 ≤ x1 then (if x1 < (((rd_T33 x224001 x40).f0).length : Int) then ((some (x224001.set (x40 : Int).toNat (⟨(rd_T33 x224001 x40).f0, wrap64 (((rd_T33 x224001 x40).f1) + (wrap64 ((rd ((rd_T33 x224001 x40).f0) x1) * x2)))⟩ : S33) : List (S33))).bind fun y228 => (if x1 < (((rd_T33 y228 x40).f0).length : Int) then ((some (y228.set (x40 : Int).toNat (⟨(((rd_T33 y228 x40).f0).set (x1 : Int).toNat 0), (rd_T33 y228 x40).f1⟩ : S33) : List (S33))).bind fun y232 => ((linear_within.f ((rd_T33 y232 x40).f1)).bind fun t234 => (if t234 = true then (linear_Substitute.l0 k x1 x2 x39 (wrap64 (x40 + 1)) x224000 y232) else (some (0, ([] : List (S33)), 4))))) else (none))) else (none)) else (none)) else (none)) else (none)) else (some (x224000, x224001, 0))
end
def linear_Substitute.f (k : Nat) (a0_0 : Int) (l0_1 : List (S33)) (a1 : Int) (a2 : Int) : Option (Int × (List (S33)) × Int) := (linear_Validate.f k a0_0 l0_1).bind fun t218 => (if t218 = 0 then (if a1 < 0 then (linear_Substitute.j0 k a1 a2 true a0_0 l0_1) else (if a1 ≥ a0_0 then (linear_Substitute.j0 k a1 a2 true a0_0 l0_1) else (if a2 < 0 then (linear_Substitute.j0 k a1 a2 true a0_0 l0_1) else (linear_Substitute.j0 k a1 a2 (decide (a2 > 1048576)) a0_0 l0_1)))) else (some (0, ([] : List (S33)), t218)))
end Go.Proofs.YtbioiodjdfcooaaDoor.P
