/- ProtocolLinears, walked over any contract of FormatLinear and of known. -/
import Derived.Test.YtbioiodjdfcooabDoorVHPx0
import Derived.Test.YtbioiodjdfcooabDoorVHYTerm
namespace Go.Proofs.YtbioiodjdfcooabDoor.P
open Go.RowKit Go.Proofs.YtbioiodjdfcooabDoorW.PrintWords Go.Proofs.YtbioiodjdfcooabDoorW.PrintLast Go.Proofs.YtbioiodjdfcooabDoorW.PrintMore
set_option linter.unusedVariables false
set_option linter.unusedSimpArgs false
def familychecklaw02_ProtocolLinears.T1 : Bool × List (List Nat × List Nat) := (true, [([], []), ([0], [0]), ([], []), ([2, 1], [2]), ([1, 3], [1, 3]), ([4, 3], [4]), ([5, 5], [5]), ([5, 6], [5, 6]), ([7, 6, 0, 1, 2, 3, 4, 5, 6, 7], [7])])
def familychecklaw02_ProtocolLinears.B1 : List Nat := [0, 1, 0, 7, 15, 31, 63, 127, 255]
end Go.Proofs.YtbioiodjdfcooabDoor.P
