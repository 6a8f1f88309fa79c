/- The laws' arguments, opened: whole numbers, slices of them, rows, systems. The world of the witnesses. -/
import Derived.Test.YtbioiodjdfcooabDoorVHWWords
import Derived.Test.YtbioiodjdfcooabDoorVHPx0
import Derived.KernelRfl
namespace Go.Proofs.YtbioiodjdfcooabDoor.Args
open Go.RowKit Go.ChangeShapes Go.WideShapes Go.Deep Go.Proofs.YtbioiodjdfcooabDoorW.PrintWords
set_option linter.unusedVariables false
section
variable {H : Type} {enc : TypeId × Value → H} {w : World} {r : Reach} {b0 : Nat} {v : Value} {x : DataW H} {p : List MemPlace}
end
/-- A table's cells, laid. -/
def setTab (h : Array Obj) (g : Nat) (cs : Array Value) : Array Obj := h.modify g fun
  | .cells _ t frozen => .cells cs t frozen
  | o => o
theorem own : ownKnob Tryd.prog.godebug = none := by kernel_rfl
theorem laidOut : laidOutB Tryd.prog = true := by kernel_rfl
end Go.Proofs.YtbioiodjdfcooabDoor.Args
