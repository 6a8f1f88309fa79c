/- Plain facts on the printed functions: numbers, small rows, points, validity, copies, comparisons of equal things. -/
import Derived.Test.YtbioiodjdfcooaaDoorVBPx0
import Derived.Test.YtbioiodjdfcooaaDoorVBPx1
import Derived.Test.YtbioiodjdfcooaaDoorVBPx3
import Derived.Test.YtbioiodjdfcooaaDoorVBPx7
import Derived.Test.YtbioiodjdfcooaaDoorVBPx8
import Derived.Test.YtbioiodjdfcooaaDoorVBPx9
import Derived.Test.YtbioiodjdfcooaaDoorVBPx10
import Derived.Test.YtbioiodjdfcooaaDoorVBPx11
namespace Go.Proofs.YtbioiodjdfcooaaDoor.P
open Go.RowKit Go.Proofs.YtbioiodjdfcooaaDoorW.PrintWords Go.Proofs.YtbioiodjdfcooaaDoorW.PrintLast Go.Proofs.YtbioiodjdfcooaaDoorW.PrintMore
set_option linter.unusedVariables false
abbrev Rw := S33

theorem wrap_next {i n : Nat} (h : i < n) (hn : n ≤ 4611686018427387904) : wrap64 ((i : Int) + 1) = ((i + 1 : Nat) : Int) := by unfold wrap64; omega
theorem rd_at (l : List Int) (i : Nat) (h : i < l.length) : rd l (i : Int) = l[i] := by
  simp [rd, h]
theorem ev_eq {α : Type} {g : Nat → Option α} {r r' : α} (h : Ev g r) (e : r = r') : Ev g r' := e ▸ h
theorem ev_ite {α : Type} {g f : Nat → Option α} {r : α} (c : Prop) [Decidable c] (h1 : c → Ev g r) (h2 : ¬ c → Ev f r) : Ev (fun k => if c then g k else f k) r := by
  by_cases h : c
  · exact Ev.congr (fun k => if_pos h) (h1 h)
  · exact Ev.congr (fun k => if_neg h) (h2 h)
/-- A printed loop is entered: the round's text is what is left. -/
theorem ev_bind {α β : Type} {g : Nat → Option α} {f : Nat → α → Option β} {a : α} {r : β} (h : Ev g a) (k : Ev (fun n => f n a) r) : Ev (fun n => (g n).bind (f n)) r := Ev.bind h k

/-! ### numbers -/
def inN (x : Int) : Bool := decide (-68719476736 ≤ x) && decide (x ≤ 68719476736)
theorem within_eq (x : Int) : linear_within.f x = some (inN x) := by
  unfold linear_within.f inN
  by_cases h : (-68719476736 : Int) ≤ x
  · rw [if_pos h]; simp [h]
  · rw [if_neg h]; simp [h]
theorem rwithin_eq (x a b : Int) : familycheckref01_within.f x a b = some (decide (a ≤ x) && decide (x ≤ b)) := by
  unfold familycheckref01_within.f
  by_cases h : x ≥ a
  · rw [if_pos h]; simp [show a ≤ x from h]
  · rw [if_neg h]; simp [show ¬ a ≤ x from h]

/-! ### small -/
def sm (l : List Int) (c : Int) : Bool := l.all inN && inN c
theorem small_l0 (l : List Int) (c : Int) (hn : l.length ≤ 4611686018427387904) (d : Nat) : ∀ i : Nat, i + d = l.length → Ev (fun k => linear_small.l0 k l (l.length : Int) (i : Int) l c) (sm (l.drop i) c) := by
  induction d with
  | zero =>
    intro i hi
    refine Ev.step (f := fun _ => some (inN c)) (fun k => ?_) (ev_eq (Ev.now _) ?_)
    · simp only [linear_small.l0]; rw [if_neg (by omega), within_eq]; rfl
    · rw [List.drop_eq_nil_of_le (by omega)]; simp [sm]
  | succ d ih =>
    intro i hi
    have hlt : i < l.length := by omega
    refine Ev.step (f := fun k => if inN l[i] = true then linear_small.l0 k l (l.length : Int) ((i + 1 : Nat) : Int) l c else some false) (fun k => ?_) ?_
    · simp only [linear_small.l0]
      rw [if_pos (by omega), if_pos (by omega), if_pos (by omega), rd_at l i hlt, within_eq, wrap_next hlt hn]
      rfl
    · have e : sm (l.drop i) c = (inN l[i] && sm (l.drop (i + 1)) c) := by
        unfold sm; rw [List.drop_eq_getElem_cons hlt, List.all_cons, Bool.and_assoc]
      rw [e]
      refine ev_ite _ (fun h => ?_) (fun h => ?_)
      · rw [h, Bool.true_and]; exact ih (i + 1) (by omega)
      · rw [Bool.not_eq_true] at h; rw [h, Bool.false_and]; exact Ev.now _
theorem small_ev (l : List Int) (c : Int) (hn : l.length ≤ 4611686018427387904) : Ev (fun k => linear_small.f k l c) (sm l c) := by
  have h := small_l0 l c hn l.length 0 (by omega)
  rw [List.drop_zero] at h
  exact h
theorem rsmall_l0 (l : List Int) (c : Int) (hn : l.length ≤ 4611686018427387904) (d : Nat) : ∀ i : Nat, i + d = l.length → Ev (fun k => familycheckref01_Small.l0 k (i : Int) l c) (sm (l.drop i) c) := by
  have hw : ∀ x : Int, familycheckref01_within.f x (-68719476736) 68719476736 = some (inN x) := fun x => by rw [rwithin_eq]; rfl
  induction d with
  | zero =>
    intro i hi
    refine Ev.step (f := fun _ => some (inN c)) (fun k => ?_) (ev_eq (Ev.now _) ?_)
    · simp only [familycheckref01_Small.l0]; rw [if_neg (by omega), hw]; rfl
    · rw [List.drop_eq_nil_of_le (by omega)]; simp [sm]
  | succ d ih =>
    intro i hi
    have hlt : i < l.length := by omega
    refine Ev.step (f := fun k => if inN l[i] = true then familycheckref01_Small.l0 k ((i + 1 : Nat) : Int) l c else some false) (fun k => ?_) ?_
    · simp only [familycheckref01_Small.l0]
      rw [if_pos (by omega), if_pos (by omega), rd_at l i hlt, hw, wrap_next hlt hn]
      rfl
    · have e : sm (l.drop i) c = (inN l[i] && sm (l.drop (i + 1)) c) := by
        unfold sm; rw [List.drop_eq_getElem_cons hlt, List.all_cons, Bool.and_assoc]
      rw [e]
      refine ev_ite _ (fun h => ?_) (fun h => ?_)
      · rw [h, Bool.true_and]; exact ih (i + 1) (by omega)
      · rw [Bool.not_eq_true] at h; rw [h, Bool.false_and]; exact Ev.now _
theorem rsmall_ev (l : List Int) (c : Int) (hn : l.length ≤ 4611686018427387904) : Ev (fun k => familycheckref01_Small.f k l c) (sm l c) := by
  have h := rsmall_l0 l c hn l.length 0 (by omega)
  rw [List.drop_zero] at h
  exact h
/-! ### long, wide -/
theorem long_eq (l : List Int) (c : Int) : familychecklaw01_long.f l c = some (decide ((l.length : Int) > 200)) := rfl
/-! ### points -/
/-! ### Validate -/
/-! ### copies -/
theorem copyInts_eq (l : List Int) (h : l.length ≤ 200) : familycheckref01_CopyInts.f l = some l := by
  unfold familycheckref01_CopyInts.f
  simp only [Option.bind_some, List.length_nil, List.nil_append]
  rw [if_pos (by omega)]
theorem copyRow_eq (l : List Int) (c : Int) (h : l.length ≤ 200) : familycheckref01_CopyRow.f l c = some (l, c) := by
  unfold familycheckref01_CopyRow.f
  rw [copyInts_eq l h]; rfl
/-! ### equal things are the same -/
theorem cmp_same_l0 (l : List Int) (hn : l.length ≤ 4611686018427387904) (d : Nat) : ∀ i : Nat, i + d = l.length → Ev (fun k => familycheckref01_CompareInts.l0 k l l (i : Int)) 0 := by
  induction d with
  | zero =>
    intro i hi
    refine Ev.step (f := fun k => familycheckref01_CompareInts.j1 k l l (i : Int) false) (fun k => ?_) (Ev.step (f := fun _ => some 0) (fun k => ?_) (Ev.now _))
    · simp only [familycheckref01_CompareInts.l0]; rw [if_neg (by omega)]
    · simp only [familycheckref01_CompareInts.j1]; rw [if_neg (by simp), if_neg (by omega), if_neg (by omega)]
  | succ d ih =>
    intro i hi
    have hlt : i < l.length := by omega
    refine Ev.step (f := fun k => familycheckref01_CompareInts.j1 k l l (i : Int) true) (fun k => ?_) (Ev.step (f := fun k => familycheckref01_CompareInts.l0 k l l ((i + 1 : Nat) : Int)) (fun k => ?_) (ih (i + 1) (by omega)))
    · simp only [familycheckref01_CompareInts.l0]; rw [if_pos (by omega), decide_eq_true (by omega)]
    · simp only [familycheckref01_CompareInts.j1]; rw [if_pos trivial, if_pos (by omega), if_pos (by omega), if_pos (by omega), if_neg (by omega), if_neg (by omega), wrap_next hlt hn]
theorem sameInts_self (l : List Int) (hn : l.length ≤ 4611686018427387904) : Ev (fun k => familycheckref01_SameInts.f k l l) true := by
  unfold familycheckref01_SameInts.f familycheckref01_CompareInts.f
  exact ev_bind (cmp_same_l0 l hn l.length 0 (by omega)) (ev_eq (Ev.now _) rfl)
theorem sameRow_self (l : List Int) (c : Int) (hn : l.length ≤ 4611686018427387904) : Ev (fun k => familycheckref01_SameRow.f k l c l c) true := by
  refine Ev.congr (f := fun k => (familycheckref01_SameInts.f k l l).bind fun t => some t) (fun k => ?_) (ev_bind (sameInts_self l hn) (Ev.now _))
  unfold familycheckref01_SameRow.f
  rw [if_pos rfl]
end Go.Proofs.YtbioiodjdfcooaaDoor.P
