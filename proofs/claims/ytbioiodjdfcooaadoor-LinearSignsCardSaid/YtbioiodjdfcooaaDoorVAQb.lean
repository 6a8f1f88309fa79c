/- Plain facts: values at a point, Satisfies. -/
import Derived.Test.YtbioiodjdfcooaaDoorVAPx0
import Derived.Test.YtbioiodjdfcooaaDoorVAPx1
import Derived.Test.YtbioiodjdfcooaaDoorVAPx2
import Derived.Test.YtbioiodjdfcooaaDoorVAPx4
import Derived.Test.YtbioiodjdfcooaaDoorVAPx8
import Derived.Test.YtbioiodjdfcooaaDoorVAPx13
import Derived.Test.YtbioiodjdfcooaaDoorVAPx14
import Derived.Test.YtbioiodjdfcooaaDoorVAQk
namespace Go.Proofs.YtbioiodjdfcooaaDoor.P
open Go.RowKit Go.Proofs.YtbioiodjdfcooaaDoorW.PrintWords Go.Proofs.YtbioiodjdfcooaaDoorW.PrintLast Go.Proofs.YtbioiodjdfcooaaDoorW.PrintMore
set_option linter.unusedVariables false
/-- The sum as the code has it. -/
def sumW : List Int → List Int → Int → Int
  | a :: l, b :: p, acc => sumW l p (wrap64 (acc + wrap64 (a * b)))
  | [], _, acc => acc
  | _ :: _, [], acc => acc
theorem value_l0 (l p : List Int) (he : l.length = p.length) (hn : l.length ≤ 4611686018427387904) (d : Nat) : ∀ (i : Nat) (acc : Int), i + d = l.length → Ev (fun k => linear_Value.l0 k p acc l (l.length : Int) (i : Int)) (sumW (l.drop i) (p.drop i) acc, 0) := by
  induction d with
  | zero =>
    intro i acc hi
    refine Ev.step (f := fun _ => some (acc, 0)) (fun k => ?_) (ev_eq (Ev.now _) ?_)
    · simp only [linear_Value.l0]; rw [if_neg (by omega)]
    · rw [List.drop_eq_nil_of_le (by omega), sumW]
  | succ d ih =>
    intro i acc hi
    have hlt : i < l.length := by omega
    have hlp : i < p.length := by omega
    refine Ev.step (f := fun k => linear_Value.l0 k p (wrap64 (acc + wrap64 (l[i] * p[i]))) l (l.length : Int) ((i + 1 : Nat) : Int)) (fun k => ?_) ?_
    · simp only [linear_Value.l0]
      rw [if_pos (by omega), if_pos (by omega), if_pos (by omega), if_pos (by omega), rd_at l i hlt, rd_at p i hlp, wrap_next hlt hn]
    · rw [List.drop_eq_getElem_cons hlt, List.drop_eq_getElem_cons hlp, sumW]
      exact ih (i + 1) _ (by omega)
def val (l : List Int) (c : Int) (p : List Int) : Int × Int :=
  if l.length = p.length ∧ p.length ≤ 96 ∧ pt p = true then (if sm l c = true then (sumW l p c, 0) else (0, 4)) else (0, 1)
theorem value_ev (l : List Int) (c : Int) (p : List Int) (hl : l.length ≤ 4611686018427387904) (hp : p.length ≤ 4611686018427387904) : Ev (fun k => linear_Value.f k l c p) (val l c p) := by
  have hbad : ∀ {b : Bool}, b = true → ¬ (l.length = p.length ∧ p.length ≤ 96 ∧ pt p = true) → Ev (fun k => linear_Value.j0 k p b l c) (val l c p) := by
    intro b hb hn
    subst hb
    refine Ev.step (f := fun _ => some (0, 1)) (fun k => ?_) (ev_eq (Ev.now _) ?_)
    · simp only [linear_Value.j0]; rfl
    · unfold val; rw [if_neg hn]
  unfold linear_Value.f
  refine ev_ite _ (fun h1 => ?_) (fun h1 => hbad rfl (fun h => h1 (by omega)))
  refine ev_ite _ (fun h2 => hbad rfl (fun h => by omega)) (fun h2 => ev_bind (onPoint_ev p hp) ?_)
  cases h3 : pt p
  · exact hbad rfl (fun h => by rw [h3] at h; exact absurd h.2.2 (by simp))
  · refine Ev.step (f := fun k => (linear_small.f k l c).bind fun t => if t = true then linear_Value.l0 k p c l (l.length : Int) 0 else some (0, 4)) (fun k => ?_) (ev_bind (small_ev l c hl) ?_)
    · simp only [linear_Value.j0]; rfl
    · unfold val
      rw [if_pos ⟨by omega, by omega, h3⟩]
      refine ev_ite _ (fun h4 => ?_) (fun h4 => ?_)
      · rw [if_pos h4]
        have h := value_l0 l p (by omega) hl l.length 0 c (by omega)
        rw [List.drop_zero, List.drop_zero] at h
        exact h
      · rw [if_neg h4]; exact Ev.now _
theorem val_ok {l : List Int} {c : Int} {p : List Int} (h : (val l c p).2 = 0) : l.length = p.length ∧ p.length ≤ 96 ∧ pt p = true ∧ sm l c = true ∧ val l c p = (sumW l p c, 0) := by
  unfold val at h ⊢
  by_cases h1 : l.length = p.length ∧ p.length ≤ 96 ∧ pt p = true
  · rw [if_pos h1] at h
    by_cases h2 : sm l c = true
    · exact ⟨h1.1, h1.2.1, h1.2.2, h2, by rw [if_pos h1, if_pos h2]⟩
    · rw [if_neg h2] at h; exact absurd h (by decide)
  · rw [if_neg h1] at h; exact absurd h (by decide)
theorem val_mk {l : List Int} {c : Int} {p : List Int} (h1 : l.length = p.length) (h2 : p.length ≤ 96) (h3 : pt p = true) (h4 : sm l c = true) : val l c p = (sumW l p c, 0) := by
  unfold val
  rw [if_pos ⟨h1, h2, h3⟩, if_pos h4]

/-! ### Satisfies -/
end Go.Proofs.YtbioiodjdfcooaaDoor.P
