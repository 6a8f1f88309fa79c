/- The laws' arguments, opened: whole numbers, slices of them, rows, systems. The world of the witnesses. -/
import Derived.Test.YtbioiodjdfcooabDoorVIOpen
import Derived.Test.YtbioiodjdfcooabDoorVIPx0
import Derived.KernelRfl
namespace Go.Proofs.YtbioiodjdfcooabDoor.Args
open Go.RowKit Go.ChangeShapes Go.WideShapes Go.Deep Go.Proofs.YtbioiodjdfcooabDoorW.PrintWords Go.Proofs.YtbioiodjdfcooabDoor.Open
set_option linter.unusedVariables false
def okI (n : Int) : Prop := -9223372036854775808 ≤ n ∧ n ≤ 9223372036854775807
section
variable {H : Type} {enc : TypeId × Value → H} {w : World} {r : Reach} {b0 : Nat} {v : Value} {x : DataW H} {p : List MemPlace}
end
/-- A table's cells, laid. -/
def setTab (h : Array Obj) (g : Nat) (cs : Array Value) : Array Obj := h.modify g fun
  | .cells _ t frozen => .cells cs t frozen
  | o => o
theorem own : ownKnob Tryd.prog.godebug = none := by kernel_rfl
theorem laidOut : laidOutB Tryd.prog = true := by kernel_rfl
end Go.Proofs.YtbioiodjdfcooabDoor.Args
