/- The laws' arguments, opened: strings; expressions; refutations. -/
import Derived.Test.YtbioiodjdfcooabDoorVHArgs
namespace Go.Proofs.YtbioiodjdfcooabDoor.Args
open Go.RowKit Go.ChangeShapes Go.WideShapes Go.Deep Go.Proofs.YtbioiodjdfcooabDoorW.PrintWords
open Go.ChangeMaps (open_string)
set_option linter.unusedVariables false
section
variable {H : Type} {enc : TypeId × Value → H} {w : World} {r : Reach} {b0 : Nat} {v : Value} {x : DataW H} {p : List MemPlace}
set_option maxRecDepth 100000 in
theorem arg_string (hv : Value.okWide Tryd.prog w r b0 9 v) (hr : DataW.Trod enc Tryd.prog w 0 (fun _ => true) true 9 v x p) : ∃ s : ByteArray, v = .string s ∧ s.size ≤ maxLen := by
  obtain ⟨s, e, _, _, hs⟩ := open_string Tryd.underlying9 hv hr
  exact ⟨s, e, hs⟩
end
end Go.Proofs.YtbioiodjdfcooabDoor.Args
