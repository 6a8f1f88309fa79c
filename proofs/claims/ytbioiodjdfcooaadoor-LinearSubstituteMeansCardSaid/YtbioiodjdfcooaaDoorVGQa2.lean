/- Plain facts: the document's checks, copies and comparisons. -/
import Derived.Test.YtbioiodjdfcooaaDoorVGPx0
import Derived.Test.YtbioiodjdfcooaaDoorVGPx7
import Derived.Test.YtbioiodjdfcooaaDoorVGPx8
import Derived.Test.YtbioiodjdfcooaaDoorVGPx9
import Derived.Test.YtbioiodjdfcooaaDoorVGPx10
import Derived.Test.YtbioiodjdfcooaaDoorVGPx11
import Derived.Test.YtbioiodjdfcooaaDoorVGQa
namespace Go.Proofs.YtbioiodjdfcooaaDoor.P
open Go.RowKit Go.Proofs.YtbioiodjdfcooaaDoorW.PrintWords Go.Proofs.YtbioiodjdfcooaaDoorW.PrintLast Go.Proofs.YtbioiodjdfcooaaDoorW.PrintMore
set_option linter.unusedVariables false
theorem copyInts_eq (l : List Int) (h : l.length ≤ 200) : familycheckref01_CopyInts.f l = some l := by
  unfold familycheckref01_CopyInts.f
  simp only [Option.bind_some, List.length_nil, List.nil_append]
  rw [if_pos (by omega)]
end Go.Proofs.YtbioiodjdfcooaaDoor.P
