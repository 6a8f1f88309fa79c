/- Plain facts: sums without overflow, divisors, floors, Tighten, Negate, the signs. -/
import Derived.Test.YtbioiodjdfcooaaDoorVBPx0
import Derived.Test.YtbioiodjdfcooaaDoorVBPx4
import Derived.Test.YtbioiodjdfcooaaDoorVBPx5
import Derived.Test.YtbioiodjdfcooaaDoorVBPx16
import Derived.Test.YtbioiodjdfcooaaDoorVBPx17
import Derived.Test.YtbioiodjdfcooaaDoorVBPx18
import Derived.Test.YtbioiodjdfcooaaDoorVBPx1
import Derived.Test.YtbioiodjdfcooaaDoorVBPx2
import Derived.Test.YtbioiodjdfcooaaDoorVBPx8
import Derived.Test.YtbioiodjdfcooaaDoorVBPx13
import Derived.Test.YtbioiodjdfcooaaDoorVBPx14
import Derived.Test.YtbioiodjdfcooaaDoorVBQk
namespace Go.Proofs.YtbioiodjdfcooaaDoor.P
open Go.RowKit Go.Proofs.YtbioiodjdfcooaaDoorW.PrintWords Go.Proofs.YtbioiodjdfcooaaDoorW.PrintLast Go.Proofs.YtbioiodjdfcooaaDoorW.PrintMore
set_option linter.unusedVariables false
/-! ### sums -/
/-! ### a row changed from the left -/
/-! ### divisors -/
/-! ### floors -/
/-! ### Tighten -/
/-! ### spoil -/
theorem spoil_l0 (n : Nat) (hn : n ≤ 4611686018427387904) (d : Nat) : ∀ (i : Nat) (l : List Int), l.length = n → i + d = n → ∃ r, Ev (fun k => familychecklaw01_spoil.l0 k l (i : Int)) r := by
  induction d with
  | zero =>
    intro i l hl hi
    refine ⟨l, Ev.step (f := fun _ => some l) (fun k => ?_) (Ev.now _)⟩
    simp only [familychecklaw01_spoil.l0]; rw [if_neg (by omega)]
  | succ d ih =>
    intro i l hl hi
    obtain ⟨r, hr⟩ := ih (i + 1) (l.set (i : Int).toNat (-77)) (by rw [List.length_set]; exact hl) (by omega)
    refine ⟨r, Ev.step (f := fun k => familychecklaw01_spoil.l0 k (l.set (i : Int).toNat (-77)) ((i + 1 : Nat) : Int)) (fun k => ?_) hr⟩
    simp only [familychecklaw01_spoil.l0]
    rw [if_pos (by omega), if_pos (by omega), wrap_next (n := n) (by omega) hn]
theorem spoil_ev (l : List Int) (hn : l.length ≤ 4611686018427387904) : ∃ r, Ev (fun k => familychecklaw01_spoil.f k l) r := spoil_l0 l.length hn l.length 0 l rfl (by omega)
end Go.Proofs.YtbioiodjdfcooaaDoor.P
