/- LinearNegates, plain. -/
import Derived.Test.YtbioiodjdfcooaaDoorVAPx0
import Derived.Test.YtbioiodjdfcooaaDoorVAPx1
import Derived.Test.YtbioiodjdfcooaaDoorVAPx2
import Derived.Test.YtbioiodjdfcooaaDoorVAPx7
import Derived.Test.YtbioiodjdfcooaaDoorVAPx8
import Derived.Test.YtbioiodjdfcooaaDoorVAPx10
import Derived.Test.YtbioiodjdfcooaaDoorVAPx22
import Derived.Test.YtbioiodjdfcooaaDoorVAPx23
import Derived.Test.YtbioiodjdfcooaaDoorVAPx24
import Derived.Test.YtbioiodjdfcooaaDoorVAQc
namespace Go.Proofs.YtbioiodjdfcooaaDoor.P
open Go.RowKit Go.Proofs.YtbioiodjdfcooaaDoorW.PrintWords Go.Proofs.YtbioiodjdfcooaaDoorW.PrintLast Go.Proofs.YtbioiodjdfcooaaDoorW.PrintMore
set_option linter.unusedVariables false
def neg (l : List Int) (c : Int) : List Int × Int × Int :=
  if sm l c = true then (if sm (l.map fun x => -x) (-c - 1) = true then (l.map fun x => -x, -c - 1, 0) else ([], 0, 4)) else ([], 0, 4)
theorem negate_l0 (l : List Int) (c : Int) (hs : sm l c = true) (hn : l.length ≤ 4611686018427387904) (d : Nat) : ∀ i : Nat, i + d = l.length →
    Ev (fun k => linear_Negate.l0 k (l.length : Int) (i : Int) (part (fun x => -x) l i) c) (if sm (l.map fun x => -x) (-c - 1) = true then (l.map fun x => -x, -c - 1, 0) else ([], 0, 4)) := by
  obtain ⟨hl, hc⟩ := sm_get hs
  induction d with
  | zero =>
    intro i hi
    refine Ev.step (f := fun k => (linear_small.f k (l.map fun x => -x) (-c - 1)).bind fun t => if t = true then some (l.map fun x => -x, -c - 1, 0) else some ([], 0, 4)) (fun k => ?_) (ev_bind (small_ev _ _ (by rw [List.length_map]; omega)) ?_)
    · simp only [linear_Negate.l0]; rw [if_neg (by omega), part_all _ _ _ (by omega), wrap_id (n := -c) (by omega) (by omega), wrap_id (n := -c - 1) (by omega) (by omega)]
    · refine ev_ite _ (fun h => ?_) (fun h => ?_)
      · rw [if_pos h]; exact Ev.now _
      · rw [if_neg h]; exact Ev.now _
  | succ d ih =>
    intro i hi
    have hlt : i < l.length := by omega
    have hx := hl _ (List.getElem_mem hlt)
    refine Ev.step (f := fun k => linear_Negate.l0 k (l.length : Int) ((i + 1 : Nat) : Int) (part (fun x => -x) l (i + 1)) c) (fun k => ?_) (ih (i + 1) (by omega))
    simp only [linear_Negate.l0]
    rw [if_pos (by omega), if_pos (by omega), if_pos (by rw [part_len]; omega), part_get _ _ _ hlt, wrap_next hlt hn, wrap_id (by omega) (by omega), part_set (fun x => -x) l i hlt _ rfl]
theorem negate_ev (l : List Int) (c : Int) (hn : l.length ≤ 200) : Ev (fun k => linear_Negate.f k l c) (neg l c) := by
  unfold linear_Negate.f neg
  refine ev_bind (small_ev l c (by omega)) (ev_ite _ (fun h => ?_) (fun h => ?_))
  · rw [if_pos h, clone_eq l c (by omega)]
    have := negate_l0 l c h (by omega) l.length 0 (by omega)
    rw [part_zero] at this
    exact this
  · rw [if_neg h]; exact Ev.now _
theorem rnegate_l0 (l : List Int) (c : Int) (hs : sm l c = true) (hn : l.length ≤ 200) (d : Nat) : ∀ i : Nat, i + d = l.length →
    Ev (fun k => familycheckref01_Negate.l0 k (i : Int) l c ((l.take i).map fun x => -x) (-c - 1)) (if sm (l.map fun x => -x) (-c - 1) = true then (l.map fun x => -x, -c - 1, 0) else ([], 0, 4)) := by
  obtain ⟨hl, hc⟩ := sm_get hs
  induction d with
  | zero =>
    intro i hi
    refine Ev.step (f := fun k => (familycheckref01_Small.f k (l.map fun x => -x) (-c - 1)).bind fun t => if t = true then some (l.map fun x => -x, -c - 1, 0) else some ([], 0, 4)) (fun k => ?_) (ev_bind (rsmall_ev _ _ (by rw [List.length_map]; omega)) ?_)
    · simp only [familycheckref01_Negate.l0]; rw [if_neg (by omega), List.take_of_length_le (by omega)]
    · refine ev_ite _ (fun h => ?_) (fun h => ?_)
      · rw [if_pos h]; exact Ev.now _
      · rw [if_neg h]; exact Ev.now _
  | succ d ih =>
    intro i hi
    have hlt : i < l.length := by omega
    have hx := hl _ (List.getElem_mem hlt)
    refine Ev.step (f := fun k => familycheckref01_Negate.l0 k ((i + 1 : Nat) : Int) l c ((l.take (i + 1)).map fun x => -x) (-c - 1)) (fun k => ?_) (ih (i + 1) (by omega))
    simp only [familycheckref01_Negate.l0]
    rw [if_pos (by omega), if_pos (by omega), if_pos (by rw [List.length_map, List.length_take]; omega), rd_at l i hlt, wrap_next hlt (by omega), wrap_id (by omega) (by omega), List.take_succ_eq_append_getElem hlt, List.map_append]
    rfl
theorem rnegate_ev (l : List Int) (c : Int) (hn : l.length ≤ 200) : Ev (fun k => familycheckref01_Negate.f k l c) (neg l c) := by
  unfold familycheckref01_Negate.f neg
  refine ev_bind (rsmall_ev l c (by omega)) (ev_ite _ (fun h => ?_) (fun h => ?_))
  · have hc := (sm_get h).2
    rw [if_pos h, wrap_id (n := -c) (by omega) (by omega), wrap_id (n := -c - 1) (by omega) (by omega)]
    have := rnegate_l0 l c h hn l.length 0 (by omega)
    rw [List.take_zero] at this
    exact this
  · rw [if_neg h]; exact Ev.now _
theorem neg_len (l : List Int) (c : Int) (hn : l.length ≤ 200) : (neg l c).1.length ≤ 200 := by
  unfold neg; split <;> (try split) <;> simp [hn]
theorem linearNegates_ev (l : List Int) (c : Int) (p : List Int) : Ev (fun k => familychecklaw01_LinearNegates.f k l c p) true := by
  have hend : ∀ {b : Bool}, b = true → Ev (fun k => familychecklaw01_LinearNegates.j0 k p b l c) true := by
    intro b hb
    subst hb
    refine Ev.step (f := fun k => (familychecklaw01_known.f k).bind fun t => some t) (fun k => ?_) known_end
    simp only [familychecklaw01_LinearNegates.j0]; rfl
  have hend2 : ∀ {b : Bool} {v : Int} {m : List Int} {e : Int}, b = true → Ev (fun k => familychecklaw01_LinearNegates.j2 k p v b m e) true := by
    intro b v m e hb
    subst hb
    refine Ev.step (f := fun k => (familychecklaw01_known.f k).bind fun t => some t) (fun k => ?_) known_end
    simp only [familychecklaw01_LinearNegates.j2]; rfl
  unfold familychecklaw01_LinearNegates.f
  rw [long_eq]
  simp only [Option.bind_some]
  refine ev_ite _ (fun _ => hend rfl) (fun h1 => ?_)
  simp at h1
  by_cases h3 : (p.length : Int) > 200
  · exact hend (by simpa using h3)
  · rw [decide_eq_false h3]
    have hl := neg_len l c (by omega)
    refine Ev.step (f := fun k => (linear_Negate.f k l c).bind fun a => (familycheckref01_Negate.f k l c).bind fun b => if a.2.2 = b.2.2 then ((familycheckref01_SameRow.f k a.1 a.2.1 b.1 b.2.1).bind fun t => familychecklaw01_LinearNegates.j1 k p a.2.2 (!t) l c a.1 a.2.1) else familychecklaw01_LinearNegates.j1 k p a.2.2 true l c a.1 a.2.1) (fun k => ?_) ?_
    · simp only [familychecklaw01_LinearNegates.j0]; rfl
    · refine ev_bind (negate_ev l c (by omega)) (ev_bind (rnegate_ev l c (by omega)) (Ev.congr (fun k => if_pos rfl) (ev_bind (sameRow_self _ _ (by omega)) ?_)))
      refine Ev.step (f := fun k => (linear_Value.f k l c p).bind fun b => if (neg l c).2.2 = 0 then familychecklaw01_LinearNegates.j2 k p b.1 (b.2 != 0) (neg l c).1 (neg l c).2.1 else familychecklaw01_LinearNegates.j2 k p b.1 true (neg l c).1 (neg l c).2.1) (fun k => ?_) ?_
      · simp only [familychecklaw01_LinearNegates.j1]; rfl
      · refine ev_bind (value_ev l c p (by omega) (by omega)) (ev_ite _ (fun h4 => ?_) (fun _ => hend2 rfl))
        by_cases h5 : (val l c p).2 = 0
        · obtain ⟨e1, e2, e3, e4, e5⟩ := val_ok h5
          rw [e5]
          unfold neg at h4 ⊢
          rw [if_pos e4] at h4 ⊢
          by_cases h6 : sm (l.map fun x => -x) (-c - 1) = true
          · rw [if_pos h6]
            refine Ev.step (f := fun k => (linear_Value.f k (l.map fun x => -x) (-c - 1) p).bind fun b => if b.2 = 0 then (if ((decide (sumW l p c ≥ 0)) != (decide (b.1 ≥ 0))) = true then ((familychecklaw01_known.f k).bind fun t => some t) else some false) else some false) (fun k => ?_) ?_
            · simp only [familychecklaw01_LinearNegates.j2]; rfl
            · refine ev_bind (ev_eq (value_ev _ _ p (by rw [List.length_map]; omega) (by omega)) (val_mk (by rw [List.length_map]; exact e1) e2 e3 h6)) (Ev.congr (fun k => if_pos rfl) (Ev.congr (fun k => if_pos ?_) known_end))
              show ((decide (sumW l p c ≥ 0)) != (decide (sumW (l.map fun x => -x) p (-c - 1) ≥ 0))) = true
              rw [sumW_small e4 e3 (by omega), sumW_small h6 e3 (by rw [List.length_map]; omega), dot_neg]
              by_cases h7 : c + dot l p ≥ 0
              · rw [decide_eq_true h7, decide_eq_false (by omega)]; rfl
              · rw [decide_eq_false h7, decide_eq_true (by omega)]; rfl
          · rw [if_neg h6] at h4; exact absurd h4 (by simp)
        · exact hend2 (by simpa using h5)
end Go.Proofs.YtbioiodjdfcooaaDoor.P
