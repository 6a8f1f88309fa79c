import Derived.Test.YtbioiodjdfcooaaDoorVGPx0
import Derived.Test.YtbioiodjdfcooaaDoorVGPx7
-- Written by a program of this session (wip/tools/doprint.sh: the kit's print, with given texts for some functions).
namespace Go.Proofs.YtbioiodjdfcooaaDoor.P
open Go.RowKit Go.Proofs.YtbioiodjdfcooaaDoorW.PrintWords Go.Proofs.YtbioiodjdfcooaaDoorW.PrintLast Go.Proofs.YtbioiodjdfcooaaDoorW.PrintMore
attribute [local go_sem] max2_int min2_int max_two min_two max_three min_three max_four min_four   -- for this text's walks alone
set_option linter.unusedVariables false
set_option linter.unusedSimpArgs false

/-! ### familycheckref01_CopySystem: function 17 -/
def familycheckref01_CopySystem.l0 : Nat → Int → Int → List (S33) → Int → List (S33) → Option (Int × (List (S33)))
  | 0, _, _, _, _, _ => none
  | k + 1, x4, x180000, x180001, x182000, x182001 => if x4 < (x180001.length : Int) then (if 0 ≤ x4 then ((familycheckref01_CopyRow.f ((rd_T33 x180001 x4).f0) ((rd_T33 x180001 x4).f1)).bind fun bt183 => (if x182001.length < 4398046511104 then (familycheckref01_CopySystem.l0 k (wrap64 (x4 + 1)) x180000 x180001 x182000 (x182001 ++ [(⟨bt183.1, bt183.2⟩ : S33)])) else (none))) else (none)) else (some (x182000, x182001))
def familycheckref01_CopySystem.f (k : Nat) (a0_0 : Int) (l0_1 : List (S33)) : Option (Int × (List (S33))) := familycheckref01_CopySystem.l0 k 0 a0_0 l0_1 a0_0 ([] : List (S33))
/-! ### familycheckref01_within: function 50 -/
def familycheckref01_within.f (a0 : Int) (a1 : Int) (a2 : Int) : Option (Bool) := if a0 ≥ a1 then (some (decide (a0 ≤ a2))) else (some false)
/-! ### familycheckref01_Small: function 51 -/
def familycheckref01_Small.l0 : Nat → Int → List Int → Int → Option (Bool)
  | 0, _, _, _ => none
  | k + 1, x3, x191000, x191001 => if x3 < (x191000.length : Int) then (if 0 ≤ x3 then ((familycheckref01_within.f (rd x191000 x3) (-68719476736) 68719476736).bind fun t192 => (if t192 = true then (familycheckref01_Small.l0 k (wrap64 (x3 + 1)) x191000 x191001) else (some false))) else (none)) else ((familycheckref01_within.f x191001 (-68719476736) 68719476736).bind fun t193 => (some t193))
def familycheckref01_Small.f (k : Nat) (l0_0 : List Int) (a0_1 : Int) : Option (Bool) := familycheckref01_Small.l0 k 0 l0_0 a0_1
end Go.Proofs.YtbioiodjdfcooaaDoor.P
