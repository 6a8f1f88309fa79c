/- familycheckref02_few, familycheckref01_digits, familycheckref01_Digits, familycheckref02_term, printed. -/
import Derived.Test.YtbioiodjdfcooabDoorVHPx0
import Derived.Test.YtbioiodjdfcooabDoorVHPx16
import Derived.WalkMore
namespace Go.Proofs.YtbioiodjdfcooabDoor.P
open Go.RowKit Go.Proofs.YtbioiodjdfcooabDoorW.PrintWords Go.Proofs.YtbioiodjdfcooabDoorW.PrintLast Go.Proofs.YtbioiodjdfcooabDoorW.PrintMore
set_option linter.unusedVariables false
set_option linter.unusedSimpArgs false
open Build
/-! ### familycheckref02_few: function 51 -/
/-! ### familycheckref01_digits: function 91 -/
def familycheckref01_digits.l0 : Nat → Int → ByteArray → Option (ByteArray)
  | 0, _, _ => none
  | k + 1, x0, x3 => if x0 > 9 then ((some (([(wrap64 (48 + (Int.tmod x0 10))) % 256] : List Int) : List Int)).bind fun y299 => (if (strOfNums y299).size + x3.size ≤ 9223372036854775807 then (familycheckref01_digits.l0 k (wrap64 (Int.tdiv x0 10)) ((strOfNums y299) ++ x3)) else (none))) else ((some (([(wrap64 (48 + x0)) % 256] : List Int) : List Int)).bind fun y302 => (if (strOfNums y302).size + x3.size ≤ 9223372036854775807 then (some ((strOfNums y302) ++ x3)) else (none)))
def familycheckref01_digits.f (k : Nat) (a0 : Int) : Option (ByteArray) := familycheckref01_digits.l0 k a0 (⟨#[]⟩ : ByteArray)
/-! ### familycheckref01_Digits: function 74 -/
def familycheckref01_Digits.f (k : Nat) (a0 : Int) : Option (ByteArray) := if a0 < 0 then ((familycheckref01_digits.f k (wrap64 (-a0))).bind fun t305 => (if 1 + t305.size ≤ 9223372036854775807 then (some ((⟨#[45]⟩ : ByteArray) ++ t305)) else (none))) else ((familycheckref01_digits.f k a0).bind fun t306 => (some t306))
/-! ### familycheckref02_term: function 52 -/
mutual
def familycheckref02_term.j0 : Nat → Int → ByteArray → ByteArray → Option (ByteArray)
  | 0, _, _, _ => none
  | k + 1, x1, x2, x7 => if x1 < 0 then (familycheckref02_term.j1 k (wrap64 (-x1)) x2 (⟨#[45]⟩ : ByteArray)) else (familycheckref02_term.j1 k x1 x2 x7)
def familycheckref02_term.j1 : Nat → Int → ByteArray → ByteArray → Option (ByteArray)
  | 0, _, _, _ => none
  | k + 1, x1, x2, x7 => if x2.toList = ([] : List UInt8) then ((familycheckref01_Digits.f k x1).bind fun t307 => (if x7.size + t307.size ≤ 9223372036854775807 then (some (x7 ++ t307)) else (none))) else (if x1 = 1 then (if x7.size + x2.size ≤ 9223372036854775807 then (some (x7 ++ x2)) else (none)) else ((familycheckref01_Digits.f k x1).bind fun t308 => (if x7.size + t308.size ≤ 9223372036854775807 then (if (x7 ++ t308).size + 1 ≤ 9223372036854775807 then (if ((x7 ++ t308) ++ (⟨#[42]⟩ : ByteArray)).size + x2.size ≤ 9223372036854775807 then (some (((x7 ++ t308) ++ (⟨#[42]⟩ : ByteArray)) ++ x2)) else (none)) else (none)) else (none))))
end
end Go.Proofs.YtbioiodjdfcooabDoor.P
