import Derived.Test.YtbioiodjdfcooaaDoorVGPx0
-- Written by a program of this session (wip/tools/doprint.sh: the kit's print, with given texts for some functions).
namespace Go.Proofs.YtbioiodjdfcooaaDoor.P
open Go.RowKit Go.Proofs.YtbioiodjdfcooaaDoorW.PrintWords Go.Proofs.YtbioiodjdfcooaaDoorW.PrintLast Go.Proofs.YtbioiodjdfcooaaDoorW.PrintMore
attribute [local go_sem] max2_int min2_int max_two min_two max_three min_three max_four min_four   -- for this text's walks alone
set_option linter.unusedVariables false
set_option linter.unusedSimpArgs false

/-! ### familycheckref01_CompareInts: function 71 -/
mutual
def familycheckref01_CompareInts.l0 : Nat → List Int → List Int → Int → Option (Int)
  | 0, _, _, _ => none
  | k + 1, x0, x1, x5 => if x5 < (x0.length : Int) then (familycheckref01_CompareInts.j1 k x0 x1 x5 (decide (x5 < (x1.length : Int)))) else (familycheckref01_CompareInts.j1 k x0 x1 x5 false)
def familycheckref01_CompareInts.j1 : Nat → List Int → List Int → Int → Bool → Option (Int)
  | 0, _, _, _, _ => none
  | k + 1, x0, x1, x5, x15 => if x15 = true then (if 0 ≤ x5 then (if x5 < (x0.length : Int) then (if x5 < (x1.length : Int) then (if (rd x0 x5) < (rd x1 x5) then (some (-1)) else (if (rd x0 x5) > (rd x1 x5) then (some 1) else (familycheckref01_CompareInts.l0 k x0 x1 (wrap64 (x5 + 1))))) else (none)) else (none)) else (none)) else (if (x0.length : Int) < (x1.length : Int) then (some (-1)) else (if (x0.length : Int) > (x1.length : Int) then (some 1) else (some 0)))
end
def familycheckref01_CompareInts.f (k : Nat) (l0 : List Int) (l1 : List Int) : Option (Int) := familycheckref01_CompareInts.l0 k l0 l1 0
/-! ### familycheckref01_SameInts: function 48 -/
def familycheckref01_SameInts.f (k : Nat) (l0 : List Int) (l1 : List Int) : Option (Bool) := (familycheckref01_CompareInts.f k l0 l1).bind fun t203 => (some (t203 == 0))
/-! ### familycheckref01_SameRow: function 28 -/
def familycheckref01_SameRow.f (k : Nat) (l0_0 : List Int) (a0_1 : Int) (l1_0 : List Int) (a1_1 : Int) : Option (Bool) := if a0_1 = a1_1 then ((familycheckref01_SameInts.f k l0_0 l1_0).bind fun t206 => (some t206)) else (some false)
end Go.Proofs.YtbioiodjdfcooaaDoor.P
