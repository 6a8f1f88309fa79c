/- The laws' arguments, opened: whole numbers, slices of them, rows, systems. The world of the witnesses. -/
import Derived.Test.YtbioiodjdfcooaaDoorVGOpen
import Derived.Test.YtbioiodjdfcooaaDoorVGPx0
import Derived.KernelRfl
namespace Go.Proofs.YtbioiodjdfcooaaDoor.Args
open Go.RowKit Go.ChangeShapes Go.WideShapes Go.Deep Go.Proofs.YtbioiodjdfcooaaDoorW.PrintWords Go.Proofs.YtbioiodjdfcooaaDoor.Open
set_option linter.unusedVariables false
abbrev Rw := P.S33
def okI (n : Int) : Prop := -9223372036854775808 ≤ n ∧ n ≤ 9223372036854775807
def okL (l : List Int) : Prop := ∀ x ∈ l, okI x
def okR (r : Rw) : Prop := okL r.f0 ∧ okI r.f1
set_option maxRecDepth 100000 in
theorem intsOpens : Opens Tryd.prog 31 (Kd.slice 3 (Kd.int .i64)) (fun l => l.length ≤ 9223372036854775807 ∧ ∀ a ∈ l, (Lit.int .i64 a).wf = true) :=
  opens_slice Tryd.underlying31 (by kernel_rfl) (opens_int Tryd.underlying3)
set_option maxRecDepth 100000 in
theorem rowOpens : Opens Tryd.prog 33 P.k33 okR := by
  have h := opens_iso (fun x : Rw => (x.f0, x.f1)) (fun p => ⟨p.1, p.2⟩) (fun _ => rfl)
    (opens_struct Tryd.underlying33 (by kernel_rfl) (fields_cons rfl (by kernel_rfl) intsOpens (fields_last rfl (by kernel_rfl) (opens_int Tryd.underlying3))))
  intro H enc w fuel cs x hx
  obtain ⟨a, ha, ⟨_, h1⟩, h2⟩ := h H enc w fuel cs x hx
  exact ⟨a, ha, fun y hy => wf_i64 (h1 y hy), wf_i64 h2⟩
section
variable {H : Type} {enc : TypeId × Value → H} {w : World} {r : Reach} {b0 : Nat} {v : Value} {x : DataW H} {p : List MemPlace}
set_option maxRecDepth 100000 in
theorem arg_ints (hv : Value.okWide Tryd.prog w r b0 31 v) (hr : DataW.Trod enc Tryd.prog w 0 (fun _ => true) true 31 v x p) :
    ∃ (A : Option Addr) (c : Nat) (l : List Int), v = .slice A l.length c ∧ l.length ≤ c ∧ Kd.C (Kd.int .i64) w A l.length l ∧ okL l := by
  obtain ⟨A, c, l, e, hl, hC, _, hn⟩ := arg_slice Tryd.underlying31 intsOpens hv hr
  exact ⟨A, c, l, e, hl, hC, fun y hy => wf_i64 (hn y hy)⟩
set_option maxRecDepth 100000 in
theorem rowsOpens : Opens Tryd.prog 22 (Kd.slice 33 P.k33) (fun l => l.length ≤ 9223372036854775807 ∧ ∀ a ∈ l, okR a) :=
  opens_slice Tryd.underlying22 (by kernel_rfl) rowOpens
set_option maxRecDepth 100000 in
theorem systemOpens : Opens Tryd.prog 24 (Kd.pair (Kd.int .i64) (Kd.slice 33 P.k33)) (fun s => (Lit.int .i64 s.1).wf = true ∧ s.2.length ≤ 9223372036854775807 ∧ ∀ a ∈ s.2, okR a) := by
  have h := opens_struct Tryd.underlying24 (by kernel_rfl) (fields_cons rfl (by kernel_rfl) (opens_int Tryd.underlying3) (fields_last rfl (by kernel_rfl) rowsOpens))
  exact h
set_option maxRecDepth 100000 in
theorem arg_system (hv : Value.okWide Tryd.prog w r b0 24 v) (hr : DataW.Trod enc Tryd.prog w 0 (fun _ => true) true 24 v x p) :
    ∃ (n : Int) (A : Option Addr) (c : Nat) (l : List Rw), v = .agg #[.int .i64 n, .slice A l.length c] ∧ l.length ≤ c ∧ Kd.C P.k33 w A l.length l ∧ okI n ∧ ∀ r ∈ l, okR r := by
  obtain ⟨cs, a, rfl, ⟨c0, c1, rfl, h0, A, c, rfl, hl, hC⟩, h1, _, h2⟩ := arg_struct Tryd.underlying24 systemOpens hv hr
  have h0' : c0 = [.int .i64 a.1] := h0
  subst h0'
  exact ⟨a.1, A, c, a.2, rfl, hl, hC, wf_i64 h1, h2⟩
end
/-- A table's cells, laid. -/
def setTab (h : Array Obj) (g : Nat) (cs : Array Value) : Array Obj := h.modify g fun
  | .cells _ t frozen => .cells cs t frozen
  | o => o
theorem own : ownKnob Tryd.prog.godebug = none := by kernel_rfl
theorem laidOut : laidOutB Tryd.prog = true := by kernel_rfl
end Go.Proofs.YtbioiodjdfcooaaDoor.Args
