/- Plain facts on the printed functions: numbers, small rows, points, validity, copies, comparisons of equal things. -/
import Derived.Test.YtbioiodjdfcooabDoorVHPx0
import Derived.Test.YtbioiodjdfcooabDoorVHPx1
import Derived.Test.YtbioiodjdfcooabDoorVHPx3
import Derived.Test.YtbioiodjdfcooabDoorVHPx9
namespace Go.Proofs.YtbioiodjdfcooabDoor.P
open Go.RowKit Go.Proofs.YtbioiodjdfcooabDoorW.PrintWords Go.Proofs.YtbioiodjdfcooabDoorW.PrintLast Go.Proofs.YtbioiodjdfcooabDoorW.PrintMore
set_option linter.unusedVariables false
theorem wrap_next {i n : Nat} (h : i < n) (hn : n ≤ 4611686018427387904) : wrap64 ((i : Int) + 1) = ((i + 1 : Nat) : Int) := by unfold wrap64; omega
theorem ev_eq {α : Type} {g : Nat → Option α} {r r' : α} (h : Ev g r) (e : r = r') : Ev g r' := e ▸ h
theorem ev_ite {α : Type} {g f : Nat → Option α} {r : α} (c : Prop) [Decidable c] (h1 : c → Ev g r) (h2 : ¬ c → Ev f r) : Ev (fun k => if c then g k else f k) r := by
  by_cases h : c
  · exact Ev.congr (fun k => if_pos h) (h1 h)
  · exact Ev.congr (fun k => if_neg h) (h2 h)
/-- A printed loop is entered: the round's text is what is left. -/
theorem ev_bind {α β : Type} {g : Nat → Option α} {f : Nat → α → Option β} {a : α} {r : β} (h : Ev g a) (k : Ev (fun n => f n a) r) : Ev (fun n => (g n).bind (f n)) r := Ev.bind h k

/-! ### numbers -/
/-! ### small -/
/-! ### long, wide -/
/-! ### points -/
/-! ### Validate -/
/-! ### copies -/
/-! ### equal things are the same -/
end Go.Proofs.YtbioiodjdfcooabDoor.P
