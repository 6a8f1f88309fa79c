/- Plain facts on the printed functions: numbers, small rows, points, validity, copies, comparisons of equal things. -/
import Derived.Test.YtbioiodjdfcooaaDoorVCPx0
import Derived.Test.YtbioiodjdfcooaaDoorVCPx1
import Derived.Test.YtbioiodjdfcooaaDoorVCPx3
import Derived.Test.YtbioiodjdfcooaaDoorVCPx7
import Derived.Test.YtbioiodjdfcooaaDoorVCPx8
import Derived.Test.YtbioiodjdfcooaaDoorVCPx9
import Derived.Test.YtbioiodjdfcooaaDoorVCPx10
import Derived.Test.YtbioiodjdfcooaaDoorVCPx11
namespace Go.Proofs.YtbioiodjdfcooaaDoor.P
open Go.RowKit Go.Proofs.YtbioiodjdfcooaaDoorW.PrintWords Go.Proofs.YtbioiodjdfcooaaDoorW.PrintLast Go.Proofs.YtbioiodjdfcooaaDoorW.PrintMore
set_option linter.unusedVariables false
abbrev Rw := S33

theorem wrap_id {n : Int} (h0 : -9223372036854775808 ≤ n) (h1 : n ≤ 9223372036854775807) : wrap64 n = n := by unfold wrap64; omega
theorem wrap_next {i n : Nat} (h : i < n) (hn : n ≤ 4611686018427387904) : wrap64 ((i : Int) + 1) = ((i + 1 : Nat) : Int) := by unfold wrap64; omega
theorem rd_at (l : List Int) (i : Nat) (h : i < l.length) : rd l (i : Int) = l[i] := by
  simp [rd, h]
theorem ev_eq {α : Type} {g : Nat → Option α} {r r' : α} (h : Ev g r) (e : r = r') : Ev g r' := e ▸ h
theorem ev_ite {α : Type} {g f : Nat → Option α} {r : α} (c : Prop) [Decidable c] (h1 : c → Ev g r) (h2 : ¬ c → Ev f r) : Ev (fun k => if c then g k else f k) r := by
  by_cases h : c
  · exact Ev.congr (fun k => if_pos h) (h1 h)
  · exact Ev.congr (fun k => if_neg h) (h2 h)
/-- A printed loop is entered: the round's text is what is left. -/
theorem ev_bind {α β : Type} {g : Nat → Option α} {f : Nat → α → Option β} {a : α} {r : β} (h : Ev g a) (k : Ev (fun n => f n a) r) : Ev (fun n => (g n).bind (f n)) r := Ev.bind h k

/-! ### numbers -/
def inN (x : Int) : Bool := decide (-68719476736 ≤ x) && decide (x ≤ 68719476736)
theorem inN_iff {x : Int} : inN x = true ↔ -68719476736 ≤ x ∧ x ≤ 68719476736 := by simp [inN]
theorem within_eq (x : Int) : linear_within.f x = some (inN x) := by
  unfold linear_within.f inN
  by_cases h : (-68719476736 : Int) ≤ x
  · rw [if_pos h]; simp [h]
  · rw [if_neg h]; simp [h]
theorem rwithin_eq (x a b : Int) : familycheckref01_within.f x a b = some (decide (a ≤ x) && decide (x ≤ b)) := by
  unfold familycheckref01_within.f
  by_cases h : x ≥ a
  · rw [if_pos h]; simp [show a ≤ x from h]
  · rw [if_neg h]; simp [show ¬ a ≤ x from h]

/-! ### small -/
def sm (l : List Int) (c : Int) : Bool := l.all inN && inN c
theorem small_l0 (l : List Int) (c : Int) (hn : l.length ≤ 4611686018427387904) (d : Nat) : ∀ i : Nat, i + d = l.length → Ev (fun k => linear_small.l0 k l (l.length : Int) (i : Int) l c) (sm (l.drop i) c) := by
  induction d with
  | zero =>
    intro i hi
    refine Ev.step (f := fun _ => some (inN c)) (fun k => ?_) (ev_eq (Ev.now _) ?_)
    · simp only [linear_small.l0]; rw [if_neg (by omega), within_eq]; rfl
    · rw [List.drop_eq_nil_of_le (by omega)]; simp [sm]
  | succ d ih =>
    intro i hi
    have hlt : i < l.length := by omega
    refine Ev.step (f := fun k => if inN l[i] = true then linear_small.l0 k l (l.length : Int) ((i + 1 : Nat) : Int) l c else some false) (fun k => ?_) ?_
    · simp only [linear_small.l0]
      rw [if_pos (by omega), if_pos (by omega), if_pos (by omega), rd_at l i hlt, within_eq, wrap_next hlt hn]
      rfl
    · have e : sm (l.drop i) c = (inN l[i] && sm (l.drop (i + 1)) c) := by
        unfold sm; rw [List.drop_eq_getElem_cons hlt, List.all_cons, Bool.and_assoc]
      rw [e]
      refine ev_ite _ (fun h => ?_) (fun h => ?_)
      · rw [h, Bool.true_and]; exact ih (i + 1) (by omega)
      · rw [Bool.not_eq_true] at h; rw [h, Bool.false_and]; exact Ev.now _
theorem small_ev (l : List Int) (c : Int) (hn : l.length ≤ 4611686018427387904) : Ev (fun k => linear_small.f k l c) (sm l c) := by
  have h := small_l0 l c hn l.length 0 (by omega)
  rw [List.drop_zero] at h
  exact h
theorem rsmall_l0 (l : List Int) (c : Int) (hn : l.length ≤ 4611686018427387904) (d : Nat) : ∀ i : Nat, i + d = l.length → Ev (fun k => familycheckref01_Small.l0 k (i : Int) l c) (sm (l.drop i) c) := by
  have hw : ∀ x : Int, familycheckref01_within.f x (-68719476736) 68719476736 = some (inN x) := fun x => by rw [rwithin_eq]; rfl
  induction d with
  | zero =>
    intro i hi
    refine Ev.step (f := fun _ => some (inN c)) (fun k => ?_) (ev_eq (Ev.now _) ?_)
    · simp only [familycheckref01_Small.l0]; rw [if_neg (by omega), hw]; rfl
    · rw [List.drop_eq_nil_of_le (by omega)]; simp [sm]
  | succ d ih =>
    intro i hi
    have hlt : i < l.length := by omega
    refine Ev.step (f := fun k => if inN l[i] = true then familycheckref01_Small.l0 k ((i + 1 : Nat) : Int) l c else some false) (fun k => ?_) ?_
    · simp only [familycheckref01_Small.l0]
      rw [if_pos (by omega), if_pos (by omega), rd_at l i hlt, hw, wrap_next hlt hn]
      rfl
    · have e : sm (l.drop i) c = (inN l[i] && sm (l.drop (i + 1)) c) := by
        unfold sm; rw [List.drop_eq_getElem_cons hlt, List.all_cons, Bool.and_assoc]
      rw [e]
      refine ev_ite _ (fun h => ?_) (fun h => ?_)
      · rw [h, Bool.true_and]; exact ih (i + 1) (by omega)
      · rw [Bool.not_eq_true] at h; rw [h, Bool.false_and]; exact Ev.now _
theorem rsmall_ev (l : List Int) (c : Int) (hn : l.length ≤ 4611686018427387904) : Ev (fun k => familycheckref01_Small.f k l c) (sm l c) := by
  have h := rsmall_l0 l c hn l.length 0 (by omega)
  rw [List.drop_zero] at h
  exact h
theorem sm_get {l : List Int} {c : Int} (h : sm l c = true) : (∀ x ∈ l, -68719476736 ≤ x ∧ x ≤ 68719476736) ∧ -68719476736 ≤ c ∧ c ≤ 68719476736 := by
  simp only [sm, Bool.and_eq_true, List.all_eq_true] at h
  exact ⟨fun x hx => inN_iff.1 (h.1 x hx), inN_iff.1 h.2⟩
/-! ### long, wide -/
theorem long_eq (l : List Int) (c : Int) : familychecklaw01_long.f l c = some (decide ((l.length : Int) > 200)) := rfl
/-! ### points -/
/-! ### Validate -/
/-! ### copies -/
/-! ### equal things are the same -/
end Go.Proofs.YtbioiodjdfcooaaDoor.P
