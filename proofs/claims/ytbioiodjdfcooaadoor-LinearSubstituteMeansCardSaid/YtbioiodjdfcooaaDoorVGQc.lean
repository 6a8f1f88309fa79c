/- Plain facts: sums without overflow, divisors, floors, Tighten, Negate, the signs. -/
import Derived.Test.YtbioiodjdfcooaaDoorVGPx0
import Derived.Test.YtbioiodjdfcooaaDoorVGPx4
import Derived.Test.YtbioiodjdfcooaaDoorVGPx5
import Derived.Test.YtbioiodjdfcooaaDoorVGPx16
import Derived.Test.YtbioiodjdfcooaaDoorVGPx17
import Derived.Test.YtbioiodjdfcooaaDoorVGQb
import Derived.Test.YtbioiodjdfcooaaDoorVGQa2
namespace Go.Proofs.YtbioiodjdfcooaaDoor.P
open Go.RowKit Go.Proofs.YtbioiodjdfcooaaDoorW.PrintWords Go.Proofs.YtbioiodjdfcooaaDoorW.PrintLast Go.Proofs.YtbioiodjdfcooaaDoorW.PrintMore
set_option linter.unusedVariables false
/-! ### sums -/
def dot : List Int → List Int → Int
  | a :: l, b :: p => a * b + dot l p
  | [], _ => 0
  | _ :: _, [] => 0
theorem mul_bound {a b : Int} (h : -68719476736 ≤ a ∧ a ≤ 68719476736) (h' : 0 ≤ b ∧ b ≤ 1048576) : -72057594037927936 ≤ a * b ∧ a * b ≤ 72057594037927936 := by
  have h1 : a * b ≤ 68719476736 * b := Int.mul_le_mul_of_nonneg_right h.2 h'.1
  have h2 : (-68719476736) * b ≤ a * b := Int.mul_le_mul_of_nonneg_right h.1 h'.1
  omega
theorem sumW_eq (l : List Int) : ∀ (p : List Int) (acc : Int), (∀ x ∈ l, -68719476736 ≤ x ∧ x ≤ 68719476736) → (∀ x ∈ p, 0 ≤ x ∧ x ≤ 1048576) →
    -9223372036854775808 + (l.length : Int) * 72057594037927936 ≤ acc → acc + (l.length : Int) * 72057594037927936 ≤ 9223372036854775807 → sumW l p acc = acc + dot l p := by
  induction l with
  | nil => intro p acc _ _ _ _; rw [sumW, dot, Int.add_zero]
  | cons a l ih =>
    intro p acc hl hp h0 h1
    cases p with
    | nil => rw [sumW, dot, Int.add_zero]
    | cons b p =>
      have hb := mul_bound (hl a (.head _)) (hp b (.head _))
      rw [List.length_cons, Int.natCast_add, Int.add_mul] at h0 h1
      have e := ih p (acc + a * b) (fun x hx => hl x (.tail _ hx)) (fun x hx => hp x (.tail _ hx)) (by omega) (by omega)
      rw [sumW, dot, wrap_id (n := a * b) (by omega) (by omega), wrap_id (n := acc + a * b) (by omega) (by omega), e, Int.add_assoc]
theorem sumW_small {l p : List Int} {c : Int} (hs : sm l c = true) (hp : pt p = true) (hn : l.length ≤ 96) : sumW l p c = c + dot l p := by
  obtain ⟨h1, h2⟩ := sm_get hs
  exact sumW_eq l p c h1 (pt_get hp) (by omega) (by omega)
/-! ### a row changed from the left -/
/-! ### divisors -/
/-! ### floors -/
/-! ### Tighten -/
theorem clone_eq (l : List Int) (c : Int) (h : l.length ≤ 17592186044416) : linear_clone.f l c = some (l, c) := if_pos h
/-! ### spoil -/
end Go.Proofs.YtbioiodjdfcooaaDoor.P
