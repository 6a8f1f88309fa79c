/- Plain facts: values at a point, Satisfies. -/
import Derived.Test.YtbioiodjdfcooaaDoorVGPx0
import Derived.Test.YtbioiodjdfcooaaDoorVGPx1
import Derived.Test.YtbioiodjdfcooaaDoorVGPx2
import Derived.Test.YtbioiodjdfcooaaDoorVGPx4
import Derived.Test.YtbioiodjdfcooaaDoorVGQk
namespace Go.Proofs.YtbioiodjdfcooaaDoor.P
open Go.RowKit Go.Proofs.YtbioiodjdfcooaaDoorW.PrintWords Go.Proofs.YtbioiodjdfcooaaDoorW.PrintLast Go.Proofs.YtbioiodjdfcooaaDoorW.PrintMore
set_option linter.unusedVariables false
/-- The sum as the code has it. -/
def sumW : List Int → List Int → Int → Int
  | a :: l, b :: p, acc => sumW l p (wrap64 (acc + wrap64 (a * b)))
  | [], _, acc => acc
  | _ :: _, [], acc => acc
theorem value_l0 (l p : List Int) (he : l.length = p.length) (hn : l.length ≤ 4611686018427387904) (d : Nat) : ∀ (i : Nat) (acc : Int), i + d = l.length → Ev (fun k => linear_Value.l0 k p acc l (l.length : Int) (i : Int)) (sumW (l.drop i) (p.drop i) acc, 0) := by
  induction d with
  | zero =>
    intro i acc hi
    refine Ev.step (f := fun _ => some (acc, 0)) (fun k => ?_) (ev_eq (Ev.now _) ?_)
    · simp only [linear_Value.l0]; rw [if_neg (by omega)]
    · rw [List.drop_eq_nil_of_le (by omega), sumW]
  | succ d ih =>
    intro i acc hi
    have hlt : i < l.length := by omega
    have hlp : i < p.length := by omega
    refine Ev.step (f := fun k => linear_Value.l0 k p (wrap64 (acc + wrap64 (l[i] * p[i]))) l (l.length : Int) ((i + 1 : Nat) : Int)) (fun k => ?_) ?_
    · simp only [linear_Value.l0]
      rw [if_pos (by omega), if_pos (by omega), if_pos (by omega), if_pos (by omega), rd_at l i hlt, rd_at p i hlp, wrap_next hlt hn]
    · rw [List.drop_eq_getElem_cons hlt, List.drop_eq_getElem_cons hlp, sumW]
      exact ih (i + 1) _ (by omega)
def val (l : List Int) (c : Int) (p : List Int) : Int × Int :=
  if l.length = p.length ∧ p.length ≤ 96 ∧ pt p = true then (if sm l c = true then (sumW l p c, 0) else (0, 4)) else (0, 1)
theorem value_ev (l : List Int) (c : Int) (p : List Int) (hl : l.length ≤ 4611686018427387904) (hp : p.length ≤ 4611686018427387904) : Ev (fun k => linear_Value.f k l c p) (val l c p) := by
  have hbad : ∀ {b : Bool}, b = true → ¬ (l.length = p.length ∧ p.length ≤ 96 ∧ pt p = true) → Ev (fun k => linear_Value.j0 k p b l c) (val l c p) := by
    intro b hb hn
    subst hb
    refine Ev.step (f := fun _ => some (0, 1)) (fun k => ?_) (ev_eq (Ev.now _) ?_)
    · simp only [linear_Value.j0]; rfl
    · unfold val; rw [if_neg hn]
  unfold linear_Value.f
  refine ev_ite _ (fun h1 => ?_) (fun h1 => hbad rfl (fun h => h1 (by omega)))
  refine ev_ite _ (fun h2 => hbad rfl (fun h => by omega)) (fun h2 => ev_bind (onPoint_ev p hp) ?_)
  cases h3 : pt p
  · exact hbad rfl (fun h => by rw [h3] at h; exact absurd h.2.2 (by simp))
  · refine Ev.step (f := fun k => (linear_small.f k l c).bind fun t => if t = true then linear_Value.l0 k p c l (l.length : Int) 0 else some (0, 4)) (fun k => ?_) (ev_bind (small_ev l c hl) ?_)
    · simp only [linear_Value.j0]; rfl
    · unfold val
      rw [if_pos ⟨by omega, by omega, h3⟩]
      refine ev_ite _ (fun h4 => ?_) (fun h4 => ?_)
      · rw [if_pos h4]
        have h := value_l0 l p (by omega) hl l.length 0 c (by omega)
        rw [List.drop_zero, List.drop_zero] at h
        exact h
      · rw [if_neg h4]; exact Ev.now _
theorem val_mk {l : List Int} {c : Int} {p : List Int} (h1 : l.length = p.length) (h2 : p.length ≤ 96) (h3 : pt p = true) (h4 : sm l c = true) : val l c p = (sumW l p c, 0) := by
  unfold val
  rw [if_pos ⟨h1, h2, h3⟩, if_pos h4]

/-! ### Satisfies -/
def sat (v : Int) (rs : List Rw) (p : List Int) : Bool :=
  decide (valid v rs = 0) && (decide ((p.length : Int) = v) && (pt p && rs.all fun r => decide (0 ≤ sumW r.f0 p r.f1)))
theorem satisfies_l0 (v : Int) (rs : List Rw) (p : List Int) (hv : valid v rs = 0) (hp : (p.length : Int) = v) (hpt : pt p = true) (d : Nat) : ∀ i : Nat, i + d = rs.length →
    Ev (fun k => linear_Satisfies.l0 k p rs (rs.length : Int) (i : Int)) ((rs.drop i).all fun r => decide (0 ≤ sumW r.f0 p r.f1)) := by
  obtain ⟨⟨v0, v1⟩, hr1, hr2, hr3⟩ := valid_ok hv
  induction d with
  | zero =>
    intro i hi
    refine Ev.step (f := fun _ => some true) (fun k => ?_) (ev_eq (Ev.now _) ?_)
    · simp only [linear_Satisfies.l0]; rw [if_neg (by omega)]
    · rw [List.drop_eq_nil_of_le (by omega)]; rfl
  | succ d ih =>
    intro i hi
    have hlt : i < rs.length := by omega
    have hm := List.getElem_mem hlt
    have h1 := hr1 _ hm
    have e : val rs[i].f0 rs[i].f1 p = (sumW rs[i].f0 p rs[i].f1, 0) := val_mk (by omega) (by omega) hpt (hr3 _ hm)
    refine Ev.step (f := fun k => (linear_Value.f k rs[i].f0 rs[i].f1 p).bind fun b => if b.2 = 0 then (if b.1 < 0 then some false else linear_Satisfies.l0 k p rs (rs.length : Int) ((i + 1 : Nat) : Int)) else some false) (fun k => ?_)
      (ev_bind (ev_eq (value_ev rs[i].f0 rs[i].f1 p (by omega) (by omega)) e) ?_)
    · simp only [linear_Satisfies.l0]
      rw [if_pos (by omega), if_pos (by omega), if_pos (by omega), rdR_at rs i hlt, wrap_next hlt (by omega)]
    · rw [List.drop_eq_getElem_cons hlt, List.all_cons]
      refine Ev.congr (fun k => if_pos rfl) (ev_ite _ (fun h => ?_) (fun h => ?_))
      · rw [decide_eq_false (show ¬ 0 ≤ sumW rs[i].f0 p rs[i].f1 from by have h' : sumW rs[i].f0 p rs[i].f1 < 0 := h; omega), Bool.false_and]; exact Ev.now _
      · rw [decide_eq_true (show 0 ≤ sumW rs[i].f0 p rs[i].f1 from by have h' : ¬ sumW rs[i].f0 p rs[i].f1 < 0 := h; omega), Bool.true_and]; exact ih (i + 1) (by omega)
theorem satisfies_ev (v : Int) (rs : List Rw) (p : List Int) (hr : okRows rs) (hp : p.length ≤ 4611686018427387904) : Ev (fun k => linear_Satisfies.f k v rs p) (sat v rs p) := by
  have hbad : ∀ {b : Bool}, b = true → Ev (fun k => linear_Satisfies.j0 k p b v rs) false := by
    intro b hb
    subst hb
    refine Ev.step (f := fun _ => some false) (fun k => ?_) (Ev.now _)
    simp only [linear_Satisfies.j0]; rfl
  unfold linear_Satisfies.f sat
  refine ev_bind (validate_ev v rs hr) (ev_ite _ (fun h1 => ?_) (fun h1 => ?_))
  · rw [decide_eq_true h1, Bool.true_and]
    refine ev_ite _ (fun h2 => ?_) (fun h2 => ?_)
    · rw [decide_eq_true h2, Bool.true_and]
      refine ev_bind (onPoint_ev p hp) ?_
      cases h3 : pt p
      · exact hbad rfl
      · rw [Bool.true_and]
        refine Ev.step (f := fun k => linear_Satisfies.l0 k p rs (rs.length : Int) 0) (fun k => ?_) ?_
        · simp only [linear_Satisfies.j0]; rfl
        · have h := satisfies_l0 v rs p h1 h2 h3 rs.length 0 (by omega)
          rw [List.drop_zero] at h
          exact h
    · rw [decide_eq_false h2, Bool.false_and]; exact hbad rfl
  · rw [decide_eq_false h1, Bool.false_and]; exact hbad rfl
end Go.Proofs.YtbioiodjdfcooaaDoor.P
