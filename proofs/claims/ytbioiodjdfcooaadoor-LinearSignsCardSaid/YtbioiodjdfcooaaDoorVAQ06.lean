/- LinearSigns, plain. -/
import Derived.Test.YtbioiodjdfcooaaDoorVAPx0
import Derived.Test.YtbioiodjdfcooaaDoorVAPx2
import Derived.Test.YtbioiodjdfcooaaDoorVAPx7
import Derived.Test.YtbioiodjdfcooaaDoorVAPx25
import Derived.Test.YtbioiodjdfcooaaDoorVAPx26
import Derived.Test.YtbioiodjdfcooaaDoorVAQc
namespace Go.Proofs.YtbioiodjdfcooaaDoor.P
open Go.RowKit Go.Proofs.YtbioiodjdfcooaaDoorW.PrintWords Go.Proofs.YtbioiodjdfcooaaDoorW.PrintLast Go.Proofs.YtbioiodjdfcooaaDoorW.PrintMore
set_option linter.unusedVariables false
def downs (l : List Int) (c : Int) : Bool := l.all (fun x => !decide (x > 0)) && decide (c < 0)
def ups (l : List Int) (c : Int) : Bool := l.all (fun x => !decide (x < 0)) && decide (c ≥ 0)
theorem contradictory_l0 (l : List Int) (c : Int) (hn : l.length ≤ 4611686018427387904) (d : Nat) : ∀ i : Nat, i + d = l.length → Ev (fun k => linear_Contradictory.l0 k l (l.length : Int) (i : Int) l c) (downs (l.drop i) c) := by
  induction d with
  | zero =>
    intro i hi
    refine Ev.step (f := fun _ => some (decide (c < 0))) (fun k => ?_) (ev_eq (Ev.now _) ?_)
    · simp only [linear_Contradictory.l0]; rw [if_neg (by omega)]
    · rw [List.drop_eq_nil_of_le (by omega)]; rfl
  | succ d ih =>
    intro i hi
    have hlt : i < l.length := by omega
    refine Ev.step (f := fun k => if l[i] > 0 then some false else linear_Contradictory.l0 k l (l.length : Int) ((i + 1 : Nat) : Int) l c) (fun k => ?_) ?_
    · simp only [linear_Contradictory.l0]
      rw [if_pos (by omega), if_pos (by omega), if_pos (by omega), rd_at l i hlt, wrap_next hlt hn]
    · have e : downs (l.drop i) c = (!decide (l[i] > 0) && downs (l.drop (i + 1)) c) := by
        unfold downs; rw [List.drop_eq_getElem_cons hlt, List.all_cons, Bool.and_assoc]
      rw [e]
      refine ev_ite _ (fun h => ?_) (fun h => ?_)
      · rw [decide_eq_true h]; exact Ev.now _
      · rw [decide_eq_false h]; exact ih (i + 1) (by omega)
theorem contradictory_ev (l : List Int) (c : Int) (hn : l.length ≤ 4611686018427387904) : Ev (fun k => linear_Contradictory.f k l c) (downs l c) := contradictory_l0 l c hn l.length 0 (by omega)
theorem trivial_l0 (l : List Int) (c : Int) (hn : l.length ≤ 4611686018427387904) (d : Nat) : ∀ i : Nat, i + d = l.length → Ev (fun k => linear_Trivial.l0 k l (l.length : Int) (i : Int) l c) (ups (l.drop i) c) := by
  induction d with
  | zero =>
    intro i hi
    refine Ev.step (f := fun _ => some (decide (c ≥ 0))) (fun k => ?_) (ev_eq (Ev.now _) ?_)
    · simp only [linear_Trivial.l0]; rw [if_neg (by omega)]
    · rw [List.drop_eq_nil_of_le (by omega)]; rfl
  | succ d ih =>
    intro i hi
    have hlt : i < l.length := by omega
    refine Ev.step (f := fun k => if l[i] < 0 then some false else linear_Trivial.l0 k l (l.length : Int) ((i + 1 : Nat) : Int) l c) (fun k => ?_) ?_
    · simp only [linear_Trivial.l0]
      rw [if_pos (by omega), if_pos (by omega), if_pos (by omega), rd_at l i hlt, wrap_next hlt hn]
    · have e : ups (l.drop i) c = (!decide (l[i] < 0) && ups (l.drop (i + 1)) c) := by
        unfold ups; rw [List.drop_eq_getElem_cons hlt, List.all_cons, Bool.and_assoc]
      rw [e]
      refine ev_ite _ (fun h => ?_) (fun h => ?_)
      · rw [decide_eq_true h]; exact Ev.now _
      · rw [decide_eq_false h]; exact ih (i + 1) (by omega)
theorem trivial_ev (l : List Int) (c : Int) (hn : l.length ≤ 4611686018427387904) : Ev (fun k => linear_Trivial.f k l c) (ups l c) := trivial_l0 l c hn l.length 0 (by omega)
theorem rcontradictory_l0 (l : List Int) (c : Int) (hn : l.length ≤ 4611686018427387904) (d : Nat) : ∀ i : Nat, i + d = l.length → Ev (fun k => familycheckref01_Contradictory.l0 k (i : Int) l c) (downs (l.drop i) c) := by
  induction d with
  | zero =>
    intro i hi
    refine Ev.step (f := fun _ => some (decide (c < 0))) (fun k => ?_) (ev_eq (Ev.now _) ?_)
    · simp only [familycheckref01_Contradictory.l0]; rw [if_neg (by omega)]
    · rw [List.drop_eq_nil_of_le (by omega)]; rfl
  | succ d ih =>
    intro i hi
    have hlt : i < l.length := by omega
    refine Ev.step (f := fun k => if l[i] > 0 then some false else familycheckref01_Contradictory.l0 k ((i + 1 : Nat) : Int) l c) (fun k => ?_) ?_
    · simp only [familycheckref01_Contradictory.l0]
      rw [if_pos (by omega), if_pos (by omega), rd_at l i hlt, wrap_next hlt hn]
    · have e : downs (l.drop i) c = (!decide (l[i] > 0) && downs (l.drop (i + 1)) c) := by
        unfold downs; rw [List.drop_eq_getElem_cons hlt, List.all_cons, Bool.and_assoc]
      rw [e]
      refine ev_ite _ (fun h => ?_) (fun h => ?_)
      · rw [decide_eq_true h]; exact Ev.now _
      · rw [decide_eq_false h]; exact ih (i + 1) (by omega)
theorem rcontradictory_ev (l : List Int) (c : Int) (hn : l.length ≤ 4611686018427387904) : Ev (fun k => familycheckref01_Contradictory.f k l c) (downs l c) := rcontradictory_l0 l c hn l.length 0 (by omega)
theorem rtrivial_l0 (l : List Int) (c : Int) (hn : l.length ≤ 4611686018427387904) (d : Nat) : ∀ i : Nat, i + d = l.length → Ev (fun k => familycheckref01_Trivial.l0 k (i : Int) l c) (ups (l.drop i) c) := by
  induction d with
  | zero =>
    intro i hi
    refine Ev.step (f := fun _ => some (decide (c ≥ 0))) (fun k => ?_) (ev_eq (Ev.now _) ?_)
    · simp only [familycheckref01_Trivial.l0]; rw [if_neg (by omega)]
    · rw [List.drop_eq_nil_of_le (by omega)]; rfl
  | succ d ih =>
    intro i hi
    have hlt : i < l.length := by omega
    refine Ev.step (f := fun k => if l[i] < 0 then some false else familycheckref01_Trivial.l0 k ((i + 1 : Nat) : Int) l c) (fun k => ?_) ?_
    · simp only [familycheckref01_Trivial.l0]
      rw [if_pos (by omega), if_pos (by omega), rd_at l i hlt, wrap_next hlt hn]
    · have e : ups (l.drop i) c = (!decide (l[i] < 0) && ups (l.drop (i + 1)) c) := by
        unfold ups; rw [List.drop_eq_getElem_cons hlt, List.all_cons, Bool.and_assoc]
      rw [e]
      refine ev_ite _ (fun h => ?_) (fun h => ?_)
      · rw [decide_eq_true h]; exact Ev.now _
      · rw [decide_eq_false h]; exact ih (i + 1) (by omega)
theorem rtrivial_ev (l : List Int) (c : Int) (hn : l.length ≤ 4611686018427387904) : Ev (fun k => familycheckref01_Trivial.f k l c) (ups l c) := rtrivial_l0 l c hn l.length 0 (by omega)
theorem both (l : List Int) (c : Int) (h : downs l c = true) : ups l c = false := by
  simp only [downs, Bool.and_eq_true, decide_eq_true_eq] at h
  simp only [ups, Bool.and_eq_false_iff, decide_eq_false_iff_not]
  exact .inr (by omega)
theorem dot_nonpos : ∀ (l p : List Int), (∀ x ∈ l, x ≤ 0) → (∀ x ∈ p, 0 ≤ x) → dot l p ≤ 0
  | [], _, _, _ => by rw [dot]; omega
  | _ :: _, [], _, _ => by rw [dot]; omega
  | a :: l, b :: p, h, h' => by
    have := Int.mul_nonneg (a := -a) (by have := h a (.head _); omega) (h' b (.head _))
    have := dot_nonpos l p (fun x hx => h x (.tail _ hx)) (fun x hx => h' x (.tail _ hx))
    rw [Int.neg_mul] at *
    rw [dot]; omega
theorem linearSigns_ev (l : List Int) (c : Int) (p : List Int) : Ev (fun k => familychecklaw01_LinearSigns.f k l c p) true := by
  have hend : ∀ {b : Bool}, b = true → Ev (fun k => familychecklaw01_LinearSigns.j0 k p b l c) true := by
    intro b hb
    subst hb
    refine Ev.step (f := fun k => (familychecklaw01_known.f k).bind fun t => some t) (fun k => ?_) known_end
    simp only [familychecklaw01_LinearSigns.j0]; rfl
  unfold familychecklaw01_LinearSigns.f
  rw [long_eq]
  simp only [Option.bind_some]
  refine ev_ite _ (fun _ => hend rfl) (fun h1 => ?_)
  simp at h1
  by_cases h3 : (p.length : Int) > 200
  · exact hend (by simpa using h3)
  · rw [decide_eq_false h3]
    have hn : l.length ≤ 4611686018427387904 := by omega
    have hlast : ∀ {b : Bool}, b = false → Ev (fun k => familychecklaw01_LinearSigns.j1 k p (downs l c) (ups l c) b l c) true := by
      intro b hb
      subst hb
      refine Ev.step (f := fun k => (linear_Value.f k l c p).bind fun b => if b.2 = 0 then (if downs l c = true then (if b.1 < 0 then (if ups l c = true then (if b.1 ≥ 0 then ((familychecklaw01_known.f k).bind fun t => some t) else some false) else ((familychecklaw01_known.f k).bind fun t => some t)) else some false) else (if ups l c = true then (if b.1 ≥ 0 then ((familychecklaw01_known.f k).bind fun t => some t) else some false) else ((familychecklaw01_known.f k).bind fun t => some t))) else ((familychecklaw01_known.f k).bind fun t => some t)) (fun k => ?_) ?_
      · simp only [familychecklaw01_LinearSigns.j1]; rfl
      · refine ev_bind (value_ev l c p hn (by omega)) (ev_ite _ (fun h4 => ?_) (fun _ => known_end))
        obtain ⟨e1, e2, e3, e4, e5⟩ := val_ok h4
        rw [e5]
        have hp : ∀ x ∈ p, 0 ≤ x := fun x hx => (pt_get e3 x hx).1
        have hs := sumW_small e4 e3 (by omega)
        refine ev_ite _ (fun h5 => ?_) (fun h5 => ?_)
        · have h6 := both l c h5
          rw [h6]
          simp only [downs, Bool.and_eq_true, decide_eq_true_eq, List.all_eq_true, Bool.not_eq_true', decide_eq_false_iff_not] at h5
          have := dot_nonpos l p (fun x hx => by have := h5.1 x hx; omega) hp
          refine Ev.congr (fun k => if_pos ?_) (Ev.congr (fun k => if_neg (by simp)) known_end)
          show sumW l p c < 0
          omega
        · refine ev_ite _ (fun h6 => ?_) (fun _ => known_end)
          simp only [ups, Bool.and_eq_true, decide_eq_true_eq, List.all_eq_true, Bool.not_eq_true', decide_eq_false_iff_not] at h6
          have := dot_nonneg l p (fun x hx => by have := h6.1 x hx; omega) hp
          refine Ev.congr (fun k => if_pos ?_) known_end
          show sumW l p c ≥ 0
          omega
    refine Ev.step (f := fun k => (linear_Contradictory.f k l c).bind fun a => (linear_Trivial.f k l c).bind fun b => (familycheckref01_Contradictory.f k l c).bind fun d => if (a != d) = true then familychecklaw01_LinearSigns.j1 k p a b true l c else ((familycheckref01_Trivial.f k l c).bind fun e => if (b != e) = true then familychecklaw01_LinearSigns.j1 k p a b true l c else (if a = true then familychecklaw01_LinearSigns.j1 k p a b b l c else familychecklaw01_LinearSigns.j1 k p a b false l c))) (fun k => ?_) ?_
    · simp only [familychecklaw01_LinearSigns.j0]; rfl
    · refine ev_bind (contradictory_ev l c hn) (ev_bind (trivial_ev l c hn) (ev_bind (rcontradictory_ev l c hn) ?_))
      refine Ev.congr (fun k => if_neg (by simp)) (ev_bind (rtrivial_ev l c hn) (Ev.congr (fun k => if_neg (by simp)) ?_))
      refine ev_ite _ (fun h => ?_) (fun _ => hlast rfl)
      exact hlast (both l c h)
end Go.Proofs.YtbioiodjdfcooaaDoor.P
