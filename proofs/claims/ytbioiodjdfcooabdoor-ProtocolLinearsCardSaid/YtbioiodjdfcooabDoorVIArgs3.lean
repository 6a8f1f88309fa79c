/- The laws' arguments, opened: strings; expressions; refutations. -/
import Derived.Test.YtbioiodjdfcooabDoorVIArgs
namespace Go.Proofs.YtbioiodjdfcooabDoor.Args
open Go.RowKit Go.ChangeShapes Go.WideShapes Go.Deep Go.Proofs.YtbioiodjdfcooabDoorW.PrintWords Go.Proofs.YtbioiodjdfcooabDoor.Open
open Go.ChangeMaps (open_string)
set_option linter.unusedVariables false
section
variable {H : Type} {enc : TypeId × Value → H} {w : World} {r : Reach} {b0 : Nat} {v : Value} {x : DataW H} {p : List MemPlace}
set_option maxRecDepth 100000 in
theorem linearOpens : Opens Tryd.prog 42 (Kd.pair (Kd.int .i64) (Kd.pair (Kd.int .i64) (Kd.pair (Kd.int .i64) (Kd.int .i64)))) (fun m => (Lit.int .i64 m.1).wf = true ∧ (Lit.int .i64 m.2.1).wf = true ∧ (Lit.int .i64 m.2.2.1).wf = true ∧ (Lit.int .i64 m.2.2.2).wf = true) := by
  have h := opens_struct Tryd.underlying42 (by kernel_rfl) (fields_cons rfl (by kernel_rfl) (opens_int Tryd.underlying3) (fields_cons rfl (by kernel_rfl) (opens_int Tryd.underlying3) (fields_cons rfl (by kernel_rfl) (opens_int Tryd.underlying3) (fields_last rfl (by kernel_rfl) (opens_int Tryd.underlying3)))))
  exact h
set_option maxRecDepth 100000 in
theorem arg_linear (hv : Value.okWide Tryd.prog w r b0 42 v) (hr : DataW.Trod enc Tryd.prog w 0 (fun _ => true) true 42 v x p) :
    ∃ a b c d : Int, v = .agg #[.int .i64 a, .int .i64 b, .int .i64 c, .int .i64 d] ∧ okI a := by
  obtain ⟨cs, a, rfl, ⟨c0, c1, rfl, h0, c2, c3, rfl, h1, c4, c5, rfl, h2, h3⟩, o1, o2, o3, o4⟩ := arg_struct Tryd.underlying42 linearOpens hv hr
  have h0' : c0 = [.int .i64 a.1] := h0
  have h1' : c2 = [.int .i64 a.2.1] := h1
  have h2' : c4 = [.int .i64 a.2.2.1] := h2
  have h3' : c5 = [.int .i64 a.2.2.2] := h3
  subst h0' h1' h2' h3'
  exact ⟨a.1, a.2.1, a.2.2.1, a.2.2.2, rfl, wf_i64 o1⟩
end
end Go.Proofs.YtbioiodjdfcooabDoor.Args
