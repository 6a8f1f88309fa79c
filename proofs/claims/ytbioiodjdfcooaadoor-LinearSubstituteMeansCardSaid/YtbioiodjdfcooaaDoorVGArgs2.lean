/- The laws' arguments, opened: two rows and their factors; a place and a value. -/
import Derived.Test.YtbioiodjdfcooaaDoorVGArgs
namespace Go.Proofs.YtbioiodjdfcooaaDoor.Args
open Go.RowKit Go.ChangeShapes Go.WideShapes Go.Deep Go.Proofs.YtbioiodjdfcooaaDoorW.PrintWords Go.Proofs.YtbioiodjdfcooaaDoor.Open
set_option linter.unusedVariables false
section
variable {H : Type} {enc : TypeId × Value → H} {w : World} {r : Reach} {b0 : Nat} {v : Value} {x : DataW H} {p : List MemPlace}
theorem spotOpens : Opens Tryd.prog 55 (Kd.pair (Kd.int .i64) (Kd.int .i64)) (fun m => (Lit.int .i64 m.1).wf = true ∧ (Lit.int .i64 m.2).wf = true) := by
  have h := opens_struct Tryd.underlying55 (by kernel_rfl) (fields_cons rfl (by kernel_rfl) (opens_int Tryd.underlying3) (fields_last rfl (by kernel_rfl) (opens_int Tryd.underlying3)))
  exact h
theorem arg_spot (hv : Value.okWide Tryd.prog w r b0 55 v) (hr : DataW.Trod enc Tryd.prog w 0 (fun _ => true) true 55 v x p) :
    ∃ n m : Int, v = .agg #[.int .i64 n, .int .i64 m] ∧ okI n ∧ okI m := by
  obtain ⟨cs, a, rfl, ⟨c0, c1, rfl, h0, h1⟩, o1, o2⟩ := arg_struct Tryd.underlying55 spotOpens hv hr
  have h0' : c0 = [.int .i64 a.1] := h0
  have h1' : c1 = [.int .i64 a.2] := h1
  subst h0' h1'
  exact ⟨a.1, a.2, rfl, wf_i64 o1, wf_i64 o2⟩
end
end Go.Proofs.YtbioiodjdfcooaaDoor.Args
