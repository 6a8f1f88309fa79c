import Derived.Test.YtbioiodjdfcooabDoorProg
import Derived.Test.YtbioiodjdfcooabDoorVHBuild
import Derived.Test.YtbioiodjdfcooabDoorVHWWords
import Derived.Test.YtbioiodjdfcooabDoorVHWLast
import Derived.Test.YtbioiodjdfcooabDoorVHWApart
import Derived.Test.YtbioiodjdfcooabDoorVHWFoot
import Derived.Test.YtbioiodjdfcooabDoorVHWKept
import Derived.Test.YtbioiodjdfcooabDoorVHWShare
import Derived.Test.YtbioiodjdfcooabDoorVHWN
import Derived.Test.YtbioiodjdfcooabDoorVHWRepsOne
import Derived.Test.YtbioiodjdfcooabDoorVHWMore
import Derived.Below
import Derived.Deep.Draws
import Derived.Deep.AppendLies
import Derived.Maps.AppendAt
import Derived.OwnWalk
import Derived.Laws.BytesArg
import Derived.Laws.MakeOwn
import Derived.Laws.OwnMore
import Derived.Deep.OwnRows
import Derived.Tactics
import Derived.Lib.ConvBytes
import Derived.Laws.Slices
import Derived.WalkKit
import Derived.KernelRfl
import Derived.RowKit3
import Derived.Deep.LoopGhost
import Derived.Deep.QuietTactic
import Derived.BigQuiet
import Derived.WideLaws
import Derived.Deep.DeepCutAuto
import Derived.Deep.CutBlock
import Derived.Deep.RegionHeld3
import Derived.Laws.Rows
import Derived.Lib.AppendStr
import Derived.ArgAppend
import Derived.Laws.IdiomCopy
import Derived.OrdersHeld
import Derived.Laws.BitsLemmas
import Derived.RowKit
import Derived.Laws.CopyOwn
import Derived.Lib.Hide
import Derived.Lib.ItoaLen
-- Written by a program of this session (wip/tools/doprint.sh: the kit's print, with given texts for some functions).
namespace Go.Proofs.YtbioiodjdfcooabDoor.P
open Go.RowKit Go.Proofs.YtbioiodjdfcooabDoorW.PrintWords Go.Proofs.YtbioiodjdfcooabDoorW.PrintLast Go.Proofs.YtbioiodjdfcooabDoorW.PrintMore
attribute [local go_sem] max2_int min2_int max_two min_two max_three min_three max_four min_four   -- for this text's walks alone
set_option linter.unusedVariables false
set_option linter.unusedSimpArgs false

def errW : Option Int → Value
  | none => .nilIface
  | some c => .iface 0 (.int .i64 c)
theorem errW_none : errW none = .nilIface := rfl
theorem errW_some (c : Int) : errW (some c) = .iface 0 (.int .i64 c) := rfl

-- the values' own types
/-! #### struct type 35 -/
structure S35 where
  f0 : (List Int)
  f1 : Int
def z35 : S35 := ⟨([] : List Int), (0 : Int)⟩
def rd_T35 (xs : List S35) (i : Int) : S35 := xs.getD i.toNat z35
/-! #### struct type 135 -/
structure S135 where
  f0 : Int
  f1 : Int
  f2 : Int
/-! #### struct type 138 -/
structure S138 where
  f0 : Int
  f1 : Int
  f2 : Int
/-! #### struct type 89 -/
structure S89 where
  f0 : (List Int)
  f1 : (List Int)
  f2 : Int
/-! #### struct type 57 -/
structure S57 where
  f0 : (List S89)
  f1 : Int
  f2 : Int
  f3 : Int
  f4 : Int
end Go.Proofs.YtbioiodjdfcooabDoor.P
