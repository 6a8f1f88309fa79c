/- LinearAppends, plain. -/
import Derived.Test.YtbioiodjdfcooaaDoorVEPx0
import Derived.Test.YtbioiodjdfcooaaDoorVEPx3
import Derived.Test.YtbioiodjdfcooaaDoorVEPx7
import Derived.Test.YtbioiodjdfcooaaDoorVEPx8
import Derived.Test.YtbioiodjdfcooaaDoorVEPx9
import Derived.Test.YtbioiodjdfcooaaDoorVEPx10
import Derived.Test.YtbioiodjdfcooaaDoorVEPx11
import Derived.Test.YtbioiodjdfcooaaDoorVEPx18
import Derived.Test.YtbioiodjdfcooaaDoorVEPx32
import Derived.Test.YtbioiodjdfcooaaDoorVEPx33
import Derived.Test.YtbioiodjdfcooaaDoorVEPx34
import Derived.Test.YtbioiodjdfcooaaDoorVEYAppends
import Derived.Test.YtbioiodjdfcooaaDoorVEQc
import Derived.Test.YtbioiodjdfcooaaDoorVESpoil
namespace Go.Proofs.YtbioiodjdfcooaaDoor.P
open Go.RowKit Go.Proofs.YtbioiodjdfcooaaDoorW.PrintWords Go.Proofs.YtbioiodjdfcooaaDoorW.PrintLast Go.Proofs.YtbioiodjdfcooaaDoorW.PrintMore
set_option linter.unusedVariables false
theorem same_l0 (v : Int) (rs : List Rw) (hr : okRows rs) (d : Nat) : ∀ i : Nat, i + d = rs.length → Ev (fun k => linear_same.l0 k rs (rs.length : Int) (i : Int) v (rs.take i)) (v, rs) := by
  have hn := hr.1
  induction d with
  | zero =>
    intro i hi
    refine Ev.step (f := fun _ => some (v, rs)) (fun k => ?_) (Ev.now _)
    simp only [linear_same.l0]; rw [if_neg (by omega), List.take_of_length_le (by omega)]
  | succ d ih =>
    intro i hi
    have hlt : i < rs.length := by omega
    have hm := hr.2 _ (List.getElem_mem hlt)
    refine Ev.step (f := fun k => linear_same.l0 k rs (rs.length : Int) ((i + 1 : Nat) : Int) v (rs.take (i + 1))) (fun k => ?_) (ih (i + 1) (by omega))
    simp only [linear_same.l0]
    rw [if_pos (by omega), if_pos (by omega), if_pos (by omega), rdR_at rs i hlt, clone_eq _ _ (by omega), wrap_next hlt (by omega)]
    simp only [Option.bind_some]
    rw [if_pos (by rw [List.length_take]; omega), List.take_succ_eq_append_getElem hlt]
theorem same_ev (v : Int) (rs : List Rw) (hr : okRows rs) : Ev (fun k => linear_same.f k v rs) (v, rs) := by
  have h := same_l0 v rs hr rs.length 0 (by omega)
  rw [List.take_zero] at h
  exact h
def app (v : Int) (rs : List Rw) (l : List Int) (c : Int) : Int × List Rw × Int :=
  if valid v rs = 0 then (if valid v (rs ++ [⟨l, c⟩]) = 0 then (v, rs ++ [⟨l, c⟩], 0) else (0, [], valid v (rs ++ [⟨l, c⟩]))) else (0, [], valid v rs)
theorem okRows_snoc {rs : List Rw} {l : List Int} {c : Int} (hr : okRows rs) (hn : rs.length ≤ 192) (hl : l.length ≤ 200) : okRows (rs ++ [⟨l, c⟩]) := by
  refine ⟨by rw [List.length_append, List.length_singleton]; omega, fun r h => ?_⟩
  rcases List.mem_append.1 h with h | h
  · exact hr.2 r h
  · rw [List.mem_singleton] at h; subst h; exact hl
theorem append_ev (v : Int) (rs : List Rw) (l : List Int) (c : Int) (hr : okRows rs) (hl : l.length ≤ 200) : Ev (fun k => linear_Append.f k v rs l c) (app v rs l c) := by
  unfold linear_Append.f app
  refine ev_bind (validate_ev v rs hr) (ev_ite _ (fun hv => ?_) (fun hv => ?_))
  · rw [if_pos hv]
    have hn := (valid_ok hv).2.2.1
    refine ev_bind (same_ev v rs hr) (Ev.congr (f := fun k => (linear_Validate.f k v (rs ++ [⟨l, c⟩])).bind fun t => if t = 0 then some (v, rs ++ [⟨l, c⟩], 0) else some (0, [], t)) (fun k => ?_) (ev_bind (validate_ev v _ (okRows_snoc hr hn hl)) (ev_ite _ (fun h => ?_) (fun h => ?_))))
    · rw [clone_eq l c (by omega)]; exact if_pos (show rs.length < 4398046511104 by omega)
    · rw [if_pos h]; exact Ev.now _
    · rw [if_neg h]; exact Ev.now _
  · rw [if_neg hv]; exact Ev.now _
theorem rappend_ev (v : Int) (rs : List Rw) (l : List Int) (c : Int) (hr : okRows rs) (hl : l.length ≤ 200) : Ev (fun k => familycheckref01_Append.f k v rs l c) (app v rs l c) := by
  unfold familycheckref01_Append.f app
  refine ev_bind (rvalidate_ev v rs hr) (ev_ite _ (fun hv => ?_) (fun hv => ?_))
  · rw [if_pos hv]
    have hn := (valid_ok hv).2.2.1
    refine ev_bind (copySystem_ev v rs hr) (Ev.congr (f := fun k => (familycheckref01_Validate.f k v (rs ++ [⟨l, c⟩])).bind fun t => if t = 0 then some (v, rs ++ [⟨l, c⟩], 0) else some (0, [], t)) (fun k => ?_) (ev_bind (rvalidate_ev v _ (okRows_snoc hr hn hl)) (ev_ite _ (fun h => ?_) (fun h => ?_))))
    · rw [copyRow_eq l c hl]; exact if_pos (show rs.length < 4398046511104 by omega)
    · rw [if_pos h]; exact Ev.now _
    · rw [if_neg h]; exact Ev.now _
  · rw [if_neg hv]; exact Ev.now _
theorem app_rows (v : Int) (rs : List Rw) (l : List Int) (c : Int) (hr : okRows rs) (hl : l.length ≤ 200) : okRows (app v rs l c).2.1 := by
  unfold app
  by_cases hv : valid v rs = 0
  · rw [if_pos hv]
    split
    · exact okRows_snoc hr (valid_ok hv).2.2.1 hl
    · exact ⟨by simp, fun r h => by cases h⟩
  · rw [if_neg hv]; exact ⟨by simp, fun r h => by cases h⟩
theorem appends_l0 (v : Int) (rs : List Rw) (l : List Int) (c u : Int) (ts : List Rw) (hr : okRows rs) (hl : l.length ≤ 200) (ht : okRows ts) (d : Nat) : ∀ i : Nat, i + d = ts.length →
    Ev (fun k => familychecklaw01_LinearAppends.l0 k true (i : Int) v rs l c v rs l c u ts) true := by
  have hn := ht.1
  induction d with
  | zero =>
    intro i hi
    refine Ev.step (f := fun k => (familycheckref01_SameSystem.f k v rs v rs).bind fun t => if t = true then ((familycheckref01_SameRow.f k l c l c).bind fun t => if t = true then ((familychecklaw01_known.f k).bind fun t => some t) else some false) else some false) (fun k => ?_) ?_
    · simp only [familychecklaw01_LinearAppends.l0]; rw [if_neg (by omega), if_pos trivial]
    · refine ev_bind (sameSystem_self v rs (fun r h => by have := hr.2 r h; omega) (by have := hr.1; omega)) (Ev.congr (fun k => if_pos rfl) (ev_bind (sameRow_self l c (by omega)) (Ev.congr (fun k => if_pos rfl) known_end)))
  | succ d ih =>
    intro i hi
    have hlt : i < ts.length := by omega
    have hm := ht.2 _ (List.getElem_mem hlt)
    obtain ⟨r, hsp⟩ := spoil_all ts[i].f0 (by omega)
    refine Ev.step (f := fun k => (familychecklaw01_spoil.f k ts[i].f0).bind fun _ => familychecklaw01_LinearAppends.l0 k true ((i + 1 : Nat) : Int) v rs l c v rs l c u ts) (fun k => ?_) (ev_bind hsp (ih (i + 1) (by omega)))
    simp only [familychecklaw01_LinearAppends.l0]
    rw [if_pos (by omega), if_pos (by omega), rdR_at ts i hlt, wrap_next hlt (by omega)]
theorem linearAppends_ev (v : Int) (rs : List Rw) (l : List Int) (c : Int) : Ev (fun k => familychecklaw01_LinearAppends.f k v rs l c) true := by
  have hend : ∀ {b : Bool}, b = true → Ev (fun k => familychecklaw01_LinearAppends.j0 k b v rs l c) true := by
    intro b hb
    subst hb
    refine Ev.step (f := fun k => (familychecklaw01_known.f k).bind fun t => some t) (fun k => ?_) known_end
    simp only [familychecklaw01_LinearAppends.j0]; rfl
  unfold familychecklaw01_LinearAppends.f
  rw [long_eq]
  obtain ⟨b, hb, hq⟩ := wide_ev v rs
  refine ev_bind hb (ev_ite _ (fun _ => hend rfl) (fun h2 => ?_))
  have hr := hq (by simpa using h2)
  by_cases h3 : (l.length : Int) > 200
  · exact hend (by simpa using h3)
  · refine Ev.congr (f := fun k => familychecklaw01_LinearAppends.j0 k false v rs l c) (fun k => by rw [decide_eq_false h3]; rfl) ?_
    have hl : l.length ≤ 200 := by omega
    have ht := app_rows v rs l c hr hl
    refine Ev.step (f := fun k => (familycheckref01_CopySystem.f k v rs).bind fun a => (linear_Append.f k a.1 a.2 l c).bind fun b => (familycheckref01_Append.f k v rs l c).bind fun d => if b.2.2 = d.2.2 then ((familycheckref01_SameSystem.f k b.1 b.2.1 d.1 d.2.1).bind fun t => familychecklaw01_LinearAppends.j1 k t v rs l c a.1 a.2 l c b.1 b.2.1) else familychecklaw01_LinearAppends.j1 k false v rs l c a.1 a.2 l c b.1 b.2.1) (fun k => ?_) ?_
    · simp only [familychecklaw01_LinearAppends.j0]; rw [copyRow_eq l c hl]; rfl
    · refine ev_bind (copySystem_ev v rs hr) (ev_bind (append_ev v rs l c hr hl) (ev_bind (rappend_ev v rs l c hr hl) (Ev.congr (fun k => if_pos rfl) (ev_bind (sameSystem_self _ _ (fun r h => by have := ht.2 r h; omega) (by have := ht.1; omega)) ?_))))
      refine Ev.step (f := fun k => familychecklaw01_LinearAppends.l0 k true 0 v rs l c v rs l c (app v rs l c).1 (app v rs l c).2.1) (fun k => ?_) (appends_l0 v rs l c _ _ hr hl ht (app v rs l c).2.1.length 0 (by omega))
      simp only [familychecklaw01_LinearAppends.j1]
end Go.Proofs.YtbioiodjdfcooaaDoor.P
