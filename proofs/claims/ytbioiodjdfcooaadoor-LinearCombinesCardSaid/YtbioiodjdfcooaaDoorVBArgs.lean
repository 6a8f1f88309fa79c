/- The laws' arguments, opened: whole numbers, slices of them, rows, systems. The world of the witnesses. -/
import Derived.Test.YtbioiodjdfcooaaDoorVBOpen
import Derived.Test.YtbioiodjdfcooaaDoorVBPx0
import Derived.KernelRfl
namespace Go.Proofs.YtbioiodjdfcooaaDoor.Args
open Go.RowKit Go.ChangeShapes Go.WideShapes Go.Deep Go.Proofs.YtbioiodjdfcooaaDoorW.PrintWords Go.Proofs.YtbioiodjdfcooaaDoor.Open
set_option linter.unusedVariables false
abbrev Rw := P.S33
def okI (n : Int) : Prop := -9223372036854775808 ≤ n ∧ n ≤ 9223372036854775807
def okL (l : List Int) : Prop := ∀ x ∈ l, okI x
def okR (r : Rw) : Prop := okL r.f0 ∧ okI r.f1
theorem intsOpens : Opens Tryd.prog 31 (Kd.slice 3 (Kd.int .i64)) (fun l => l.length ≤ 9223372036854775807 ∧ ∀ a ∈ l, (Lit.int .i64 a).wf = true) :=
  opens_slice Tryd.underlying31 (by kernel_rfl) (opens_int Tryd.underlying3)
theorem rowOpens : Opens Tryd.prog 33 P.k33 okR := by
  have h := opens_iso (fun x : Rw => (x.f0, x.f1)) (fun p => ⟨p.1, p.2⟩) (fun _ => rfl)
    (opens_struct Tryd.underlying33 (by kernel_rfl) (fields_cons rfl (by kernel_rfl) intsOpens (fields_last rfl (by kernel_rfl) (opens_int Tryd.underlying3))))
  intro H enc w fuel cs x hx
  obtain ⟨a, ha, ⟨_, h1⟩, h2⟩ := h H enc w fuel cs x hx
  exact ⟨a, ha, fun y hy => wf_i64 (h1 y hy), wf_i64 h2⟩
section
variable {H : Type} {enc : TypeId × Value → H} {w : World} {r : Reach} {b0 : Nat} {v : Value} {x : DataW H} {p : List MemPlace}
end
/-- A table's cells, laid. -/
def setTab (h : Array Obj) (g : Nat) (cs : Array Value) : Array Obj := h.modify g fun
  | .cells _ t frozen => .cells cs t frozen
  | o => o
theorem own : ownKnob Tryd.prog.godebug = none := by kernel_rfl
theorem laidOut : laidOutB Tryd.prog = true := by kernel_rfl
end Go.Proofs.YtbioiodjdfcooaaDoor.Args
