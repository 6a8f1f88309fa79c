/- Plain facts: the document's checks, copies and comparisons. -/
import Derived.Test.YtbioiodjdfcooaaDoorVFPx0
import Derived.Test.YtbioiodjdfcooaaDoorVFPx7
import Derived.Test.YtbioiodjdfcooaaDoorVFPx8
import Derived.Test.YtbioiodjdfcooaaDoorVFPx9
import Derived.Test.YtbioiodjdfcooaaDoorVFPx10
import Derived.Test.YtbioiodjdfcooaaDoorVFPx11
import Derived.Test.YtbioiodjdfcooaaDoorVFQa
namespace Go.Proofs.YtbioiodjdfcooaaDoor.P
open Go.RowKit Go.Proofs.YtbioiodjdfcooaaDoorW.PrintWords Go.Proofs.YtbioiodjdfcooaaDoorW.PrintLast Go.Proofs.YtbioiodjdfcooaaDoorW.PrintMore
set_option linter.unusedVariables false
theorem rwithin_eq (x a b : Int) : familycheckref01_within.f x a b = some (decide (a ≤ x) && decide (x ≤ b)) := by
  unfold familycheckref01_within.f
  by_cases h : x ≥ a
  · rw [if_pos h]; simp [show a ≤ x from h]
  · rw [if_neg h]; simp [show ¬ a ≤ x from h]

theorem rsmall_l0 (l : List Int) (c : Int) (hn : l.length ≤ 4611686018427387904) (d : Nat) : ∀ i : Nat, i + d = l.length → Ev (fun k => familycheckref01_Small.l0 k (i : Int) l c) (sm (l.drop i) c) := by
  have hw : ∀ x : Int, familycheckref01_within.f x (-68719476736) 68719476736 = some (inN x) := fun x => by rw [rwithin_eq]; rfl
  induction d with
  | zero =>
    intro i hi
    refine Ev.step (f := fun _ => some (inN c)) (fun k => ?_) (ev_eq (Ev.now _) ?_)
    · simp only [familycheckref01_Small.l0]; rw [if_neg (by omega), hw]; rfl
    · rw [List.drop_eq_nil_of_le (by omega)]; simp [sm]
  | succ d ih =>
    intro i hi
    have hlt : i < l.length := by omega
    refine Ev.step (f := fun k => if inN l[i] = true then familycheckref01_Small.l0 k ((i + 1 : Nat) : Int) l c else some false) (fun k => ?_) ?_
    · simp only [familycheckref01_Small.l0]
      rw [if_pos (by omega), if_pos (by omega), rd_at l i hlt, hw, wrap_next hlt hn]
      rfl
    · have e : sm (l.drop i) c = (inN l[i] && sm (l.drop (i + 1)) c) := by
        unfold sm; rw [List.drop_eq_getElem_cons hlt, List.all_cons, Bool.and_assoc]
      rw [e]
      refine ev_ite _ (fun h => ?_) (fun h => ?_)
      · rw [h, Bool.true_and]; exact ih (i + 1) (by omega)
      · rw [Bool.not_eq_true] at h; rw [h, Bool.false_and]; exact Ev.now _
theorem rsmall_ev (l : List Int) (c : Int) (hn : l.length ≤ 4611686018427387904) : Ev (fun k => familycheckref01_Small.f k l c) (sm l c) := by
  have h := rsmall_l0 l c hn l.length 0 (by omega)
  rw [List.drop_zero] at h
  exact h
theorem rvalidate_l1 (v : Int) (rs : List Rw) (hr : okRows rs) (d : Nat) : ∀ i : Nat, i + d = rs.length → Ev (fun k => familycheckref01_Validate.l1 k (i : Int) v rs) (if (rs.drop i).all (fun r => sm r.f0 r.f1) = true then 0 else 4) := by
  induction d with
  | zero =>
    intro i hi
    refine Ev.step (f := fun _ => some 0) (fun k => ?_) (ev_eq (Ev.now _) ?_)
    · simp only [familycheckref01_Validate.l1]; rw [if_neg (by omega)]
    · rw [List.drop_eq_nil_of_le (by omega)]; rfl
  | succ d ih =>
    intro i hi
    have hlt : i < rs.length := by omega
    have hm := hr.2 _ (List.getElem_mem hlt)
    refine Ev.step (f := fun k => (familycheckref01_Small.f k rs[i].f0 rs[i].f1).bind fun t => if t = true then familycheckref01_Validate.l1 k ((i + 1 : Nat) : Int) v rs else some 4) (fun k => ?_) (ev_bind (rsmall_ev rs[i].f0 rs[i].f1 (by omega)) ?_)
    · simp only [familycheckref01_Validate.l1]
      rw [if_pos (by omega), if_pos (by omega), rdR_at rs i hlt, wrap_next hlt (by have := hr.1; omega)]
    · rw [List.drop_eq_getElem_cons hlt, List.all_cons]
      refine ev_ite _ (fun h => ?_) (fun h => ?_)
      · rw [h, Bool.true_and]; exact ih (i + 1) (by omega)
      · rw [Bool.not_eq_true] at h; rw [h, Bool.false_and]; exact Ev.now _
theorem rvalidate_l0 (v : Int) (rs : List Rw) (hr : okRows rs) (d : Nat) : ∀ i : Nat, i + d = rs.length → Ev (fun k => familycheckref01_Validate.l0 k (i : Int) v rs)
    (if (rs.drop i).all (fun r => decide ((r.f0.length : Int) = v)) = true then (if (rs.length : Int) > 192 then 4 else if rs.all (fun r => sm r.f0 r.f1) = true then 0 else 4) else 1) := by
  induction d with
  | zero =>
    intro i hi
    refine Ev.step (f := fun k => if (rs.length : Int) > 192 then some 4 else familycheckref01_Validate.l1 k 0 v rs) (fun k => ?_) ?_
    · simp only [familycheckref01_Validate.l0]; rw [if_neg (by omega)]
    · rw [List.drop_eq_nil_of_le (by omega)]
      simp only [List.all_nil, if_true]
      refine ev_ite _ (fun h => ?_) (fun h => ?_)
      · rw [if_pos h]; exact Ev.now _
      · rw [if_neg h]
        have := rvalidate_l1 v rs hr rs.length 0 (by omega)
        rw [List.drop_zero] at this
        exact this
  | succ d ih =>
    intro i hi
    have hlt : i < rs.length := by omega
    refine Ev.step (f := fun k => if (rs[i].f0.length : Int) = v then familycheckref01_Validate.l0 k ((i + 1 : Nat) : Int) v rs else some 1) (fun k => ?_) ?_
    · simp only [familycheckref01_Validate.l0]
      rw [if_pos (by omega), if_pos (by omega), rdR_at rs i hlt, wrap_next hlt (by have := hr.1; omega)]
    · rw [List.drop_eq_getElem_cons hlt, List.all_cons]
      refine ev_ite _ (fun h => ?_) (fun h => ?_)
      · rw [decide_eq_true h, Bool.true_and]; exact ih (i + 1) (by omega)
      · rw [decide_eq_false h, Bool.false_and]; exact Ev.now _
theorem rvalidate_ev (v : Int) (rs : List Rw) (hr : okRows rs) : Ev (fun k => familycheckref01_Validate.f k v rs) (valid v rs) := by
  unfold valid familycheckref01_Validate.f
  rw [rwithin_eq]
  simp only [Option.bind_some]
  refine ev_ite _ (fun h => ?_) (fun h => ?_)
  · simp at h
    rw [if_neg (by omega)]
    have := rvalidate_l0 v rs hr rs.length 0 (by omega)
    rw [List.drop_zero] at this
    exact this
  · simp at h
    rw [if_pos (by omega)]
    exact Ev.now _
theorem copyInts_eq (l : List Int) (h : l.length ≤ 200) : familycheckref01_CopyInts.f l = some l := by
  unfold familycheckref01_CopyInts.f
  simp only [Option.bind_some, List.length_nil, List.nil_append]
  rw [if_pos (by omega)]
theorem copyRow_eq (l : List Int) (c : Int) (h : l.length ≤ 200) : familycheckref01_CopyRow.f l c = some (l, c) := by
  unfold familycheckref01_CopyRow.f
  rw [copyInts_eq l h]; rfl
theorem copySystem_l0 (v : Int) (rs : List Rw) (u : Int) (hr : okRows rs) (d : Nat) : ∀ i : Nat, i + d = rs.length → Ev (fun k => familycheckref01_CopySystem.l0 k (i : Int) v rs u (rs.take i)) (u, rs) := by
  induction d with
  | zero =>
    intro i hi
    refine Ev.step (f := fun _ => some (u, rs)) (fun k => ?_) (Ev.now _)
    simp only [familycheckref01_CopySystem.l0]; rw [if_neg (by omega), List.take_of_length_le (by omega)]
  | succ d ih =>
    intro i hi
    have hlt : i < rs.length := by omega
    have hm := hr.2 _ (List.getElem_mem hlt)
    refine Ev.step (f := fun k => familycheckref01_CopySystem.l0 k ((i + 1 : Nat) : Int) v rs u (rs.take (i + 1))) (fun k => ?_) (ih (i + 1) (by omega))
    simp only [familycheckref01_CopySystem.l0]
    rw [if_pos (by omega), if_pos (by omega), rdR_at rs i hlt, copyRow_eq _ _ hm, wrap_next hlt (by have := hr.1; omega)]
    simp only [Option.bind_some]
    rw [if_pos (by rw [List.length_take]; have := hr.1; omega), List.take_succ_eq_append_getElem hlt]
theorem copySystem_ev (v : Int) (rs : List Rw) (hr : okRows rs) : Ev (fun k => familycheckref01_CopySystem.f k v rs) (v, rs) := by
  have h := copySystem_l0 v rs v hr rs.length 0 (by omega)
  rw [List.take_zero] at h
  exact h

theorem sameSystem_l0 (v u : Int) (rs : List Rw) (hr : ∀ r ∈ rs, r.f0.length ≤ 4611686018427387904) (hn : rs.length ≤ 4611686018427387904) (d : Nat) : ∀ i : Nat, i + d = rs.length → Ev (fun k => familycheckref01_SameSystem.l0 k (i : Int) v rs u rs) true := by
  induction d with
  | zero =>
    intro i hi
    refine Ev.step (f := fun _ => some true) (fun k => ?_) (Ev.now _)
    simp only [familycheckref01_SameSystem.l0]; rw [if_neg (by omega)]
  | succ d ih =>
    intro i hi
    have hlt : i < rs.length := by omega
    refine Ev.step (f := fun k => (familycheckref01_SameRow.f k rs[i].f0 rs[i].f1 rs[i].f0 rs[i].f1).bind fun t => if t = true then familycheckref01_SameSystem.l0 k ((i + 1 : Nat) : Int) v rs u rs else some false) (fun k => ?_)
      (ev_bind (sameRow_self _ _ (hr _ (List.getElem_mem hlt))) (Ev.congr (fun k => if_pos rfl) (ih (i + 1) (by omega))))
    simp only [familycheckref01_SameSystem.l0]
    rw [if_pos (by omega), if_pos (by omega), if_pos (by omega), rdR_at rs i hlt, wrap_next hlt hn]
theorem sameSystem_self (v : Int) (rs : List Rw) (hr : ∀ r ∈ rs, r.f0.length ≤ 4611686018427387904) (hn : rs.length ≤ 4611686018427387904) : Ev (fun k => familycheckref01_SameSystem.f k v rs v rs) true := by
  refine Ev.congr (f := fun k => familycheckref01_SameSystem.j0 k false v rs v rs) (fun k => ?_) (Ev.step (f := fun k => familycheckref01_SameSystem.l0 k 0 v rs v rs) (fun k => ?_) (sameSystem_l0 v v rs hr hn rs.length 0 (by omega)))
  · unfold familycheckref01_SameSystem.f; rw [if_pos rfl]; simp
  · simp only [familycheckref01_SameSystem.j0]; rw [if_neg (by simp)]
end Go.Proofs.YtbioiodjdfcooaaDoor.P
