/- The laws' arguments, opened: two rows and their factors; a place and a value. -/
import Derived.Test.YtbioiodjdfcooaaDoorVBArgs
namespace Go.Proofs.YtbioiodjdfcooaaDoor.Args
open Go.RowKit Go.ChangeShapes Go.WideShapes Go.Deep Go.Proofs.YtbioiodjdfcooaaDoorW.PrintWords Go.Proofs.YtbioiodjdfcooaaDoor.Open
set_option linter.unusedVariables false
section
variable {H : Type} {enc : TypeId × Value → H} {w : World} {r : Reach} {b0 : Nat} {v : Value} {x : DataW H} {p : List MemPlace}
theorem mixOpens : Opens Tryd.prog 48 (Kd.pair P.k33 (Kd.pair P.k33 (Kd.pair (Kd.int .i64) (Kd.int .i64)))) (fun m => okR m.1 ∧ okR m.2.1 ∧ (Lit.int .i64 m.2.2.1).wf = true ∧ (Lit.int .i64 m.2.2.2).wf = true) := by
  have h := opens_struct Tryd.underlying48 (by kernel_rfl) (fields_cons rfl (by kernel_rfl) rowOpens (fields_cons rfl (by kernel_rfl) rowOpens (fields_cons rfl (by kernel_rfl) (opens_int Tryd.underlying3) (fields_last rfl (by kernel_rfl) (opens_int Tryd.underlying3)))))
  exact h
theorem arg_mix (hv : Value.okWide Tryd.prog w r b0 48 v) (hr : DataW.Trod enc Tryd.prog w 0 (fun _ => true) true 48 v x p) :
    ∃ (A : Option Addr) (c : Nat) (l : List Int) (n : Int) (B : Option Addr) (d : Nat) (m : List Int) (k s t : Int), v = .agg #[.slice A l.length c, .int .i64 n, .slice B m.length d, .int .i64 k, .int .i64 s, .int .i64 t] ∧
      l.length ≤ c ∧ Kd.C (Kd.int .i64) w A l.length l ∧ m.length ≤ d ∧ Kd.C (Kd.int .i64) w B m.length m ∧ (okL l ∧ okI n) ∧ (okL m ∧ okI k) ∧ okI s ∧ okI t := by
  obtain ⟨cs, a, rfl, ⟨c0, c1, rfl, h0, c2, c3, rfl, h1, c4, c5, rfl, h2, h3⟩, o1, o2, o3, o4⟩ := arg_struct Tryd.underlying48 mixOpens hv hr
  obtain ⟨A, c, rfl, hl, hC⟩ := P.k33_open h0
  obtain ⟨B, d, rfl, hl', hC'⟩ := P.k33_open h1
  have h2' : c4 = [.int .i64 a.2.2.1] := h2
  have h3' : c5 = [.int .i64 a.2.2.2] := h3
  subst h2' h3'
  exact ⟨A, c, a.1.f0, a.1.f1, B, d, a.2.1.f0, a.2.1.f1, a.2.2.1, a.2.2.2, rfl, hl, hC, hl', hC', o1, o2, wf_i64 o3, wf_i64 o4⟩
end
end Go.Proofs.YtbioiodjdfcooaaDoor.Args
