import Derived.Test.YtbioiodjdfcooabDoorVHPx0
-- Written by a program of this session (wip/tools/doprint.sh: the kit's print, with given texts for some functions).
namespace Go.Proofs.YtbioiodjdfcooabDoor.P
open Go.RowKit Go.Proofs.YtbioiodjdfcooabDoorW.PrintWords Go.Proofs.YtbioiodjdfcooabDoorW.PrintLast Go.Proofs.YtbioiodjdfcooabDoorW.PrintMore
attribute [local go_sem] max2_int min2_int max_two min_two max_three min_three max_four min_four   -- for this text's walks alone
set_option linter.unusedVariables false
set_option linter.unusedSimpArgs false

/-! ### familychecklaw01_long: function 15 -/
/-! ### familychecklaw01_wide: function 10 -/
/-! ### linear_onPoint: function 36 -/
/-! ### linear_within: function 84 -/
def linear_within.f (a0 : Int) : Option (Bool) := if (-68719476736) ≤ a0 then (some (decide (a0 ≤ 68719476736))) else (some false)
/-! ### linear_small: function 64 -/
def linear_small.l0 : Nat → List Int → Int → Int → List Int → Int → Option (Bool)
  | 0, _, _, _, _, _ => none
  | k + 1, x6, x7, x8, x107000, x107001 => if x8 < x7 then (if 0 ≤ x8 then (if x8 < (x6.length : Int) then ((linear_within.f (rd x6 x8)).bind fun t108 => (if t108 = true then (linear_small.l0 k x6 x7 (wrap64 (x8 + 1)) x107000 x107001) else (some false))) else (none)) else (none)) else ((linear_within.f x107001).bind fun t109 => (some t109))
def linear_small.f (k : Nat) (l0_0 : List Int) (a0_1 : Int) : Option (Bool) := linear_small.l0 k l0_0 (l0_0.length : Int) 0 l0_0 a0_1
end Go.Proofs.YtbioiodjdfcooabDoor.P
