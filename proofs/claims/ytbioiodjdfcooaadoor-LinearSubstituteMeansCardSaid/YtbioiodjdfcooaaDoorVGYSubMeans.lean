/- familychecklaw01_LinearSubstituteMeans, printed. -/
import Derived.Test.YtbioiodjdfcooaaDoorVGPx0
import Derived.Test.YtbioiodjdfcooaaDoorVGPx1
import Derived.Test.YtbioiodjdfcooaaDoorVGPx4
import Derived.Test.YtbioiodjdfcooaaDoorVGPx7
import Derived.Test.YtbioiodjdfcooaaDoorVGYSub
import Derived.WalkMore
namespace Go.Proofs.YtbioiodjdfcooaaDoor.P
open Go.RowKit Go.Proofs.YtbioiodjdfcooaaDoorW.PrintWords Go.Proofs.YtbioiodjdfcooaaDoorW.PrintLast Go.Proofs.YtbioiodjdfcooaaDoorW.PrintMore
set_option linter.unusedVariables false
set_option linter.unusedSimpArgs false
open Build
/-! ### familychecklaw01_LinearSubstituteMeans: function 13 -/
def familychecklaw01_LinearSubstituteMeans.j0 : Nat → List Int → Bool → Int → List (S33) → Int → Int → Option (Bool)
  | 0, _, _, _, _, _, _ => none
  | k + 1, x1, x29, x292000, x292001, x293000, x293001 => if x29 = true then ((familychecklaw01_known.f k).bind fun t294 => (some t294)) else (if (IntKind.u64.wrap ((x1.length : Int))) = 0 then (none) else (if 0 ≤ (wrap64 (Int.tmod (IntKind.u64.wrap (x293000)) (IntKind.u64.wrap ((x1.length : Int))))) then (if (wrap64 (Int.tmod (IntKind.u64.wrap (x293000)) (IntKind.u64.wrap ((x1.length : Int))))) < (x1.length : Int) then ((linear_Substitute.f k x292000 x292001 (wrap64 (Int.tmod (IntKind.u64.wrap (x293000)) (IntKind.u64.wrap ((x1.length : Int))))) (rd x1 (wrap64 (Int.tmod (IntKind.u64.wrap (x293000)) (IntKind.u64.wrap ((x1.length : Int))))))).bind fun bt296 => (if bt296.2.2 = 0 then ((familycheckref01_CopyInts.f x1).bind fun t303 => (if (wrap64 (Int.tmod (IntKind.u64.wrap (x293000)) (IntKind.u64.wrap ((x1.length : Int))))) < (t303.length : Int) then ((linear_Satisfies.f k x292000 x292001 x1).bind fun t307 => ((linear_Satisfies.f k bt296.1 bt296.2.1 (t303.set ((wrap64 (Int.tmod (IntKind.u64.wrap (x293000)) (IntKind.u64.wrap ((x1.length : Int))))) : Int).toNat (Go.bits .and .i64 x293001 1048575))).bind fun t308 => (if (t307 == t308) = true then ((familychecklaw01_known.f k).bind fun t309 => (some t309)) else (some false)))) else (none))) else ((familychecklaw01_known.f k).bind fun t302 => (some t302)))) else (none)) else (none)))
def familychecklaw01_LinearSubstituteMeans.f (k : Nat) (a0_0 : Int) (l0_1 : List (S33)) (l1 : List Int) (a2_0 : Int) (a2_1 : Int) : Option (Bool) := (familychecklaw01_wide.f k a0_0 l0_1).bind fun t293 => (if t293 = true then (familychecklaw01_LinearSubstituteMeans.j0 k l1 true a0_0 l0_1 a2_0 a2_1) else (if (l1.length : Int) > 200 then (familychecklaw01_LinearSubstituteMeans.j0 k l1 true a0_0 l0_1 a2_0 a2_1) else (if (l1.length : Int) = a0_0 then (familychecklaw01_LinearSubstituteMeans.j0 k l1 ((l1.length : Int) == 0) a0_0 l0_1 a2_0 a2_1) else (familychecklaw01_LinearSubstituteMeans.j0 k l1 true a0_0 l0_1 a2_0 a2_1))))
end Go.Proofs.YtbioiodjdfcooaaDoor.P
