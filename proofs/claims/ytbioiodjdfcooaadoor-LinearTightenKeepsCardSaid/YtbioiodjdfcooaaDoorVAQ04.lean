/- LinearTightenKeeps, plain. -/
import Derived.Test.YtbioiodjdfcooaaDoorVAPx0
import Derived.Test.YtbioiodjdfcooaaDoorVAPx2
import Derived.Test.YtbioiodjdfcooaaDoorVAPx5
import Derived.Test.YtbioiodjdfcooaaDoorVAPx7
import Derived.Test.YtbioiodjdfcooaaDoorVAPx20
import Derived.Test.YtbioiodjdfcooaaDoorVAQc
namespace Go.Proofs.YtbioiodjdfcooaaDoor.P
open Go.RowKit Go.Proofs.YtbioiodjdfcooaaDoorW.PrintWords Go.Proofs.YtbioiodjdfcooaaDoorW.PrintLast Go.Proofs.YtbioiodjdfcooaaDoorW.PrintMore
theorem linearTightenKeeps_ev (l : List Int) (c : Int) (p : List Int) : Ev (fun k => familychecklaw01_LinearTightenKeeps.f k l c p) true := by
  have hend : ∀ {b : Bool}, b = true → Ev (fun k => familychecklaw01_LinearTightenKeeps.j0 k p b l c) true := by
    intro b hb
    subst hb
    refine Ev.step (f := fun k => (familychecklaw01_known.f k).bind fun t => some t) (fun k => ?_) known_end
    simp only [familychecklaw01_LinearTightenKeeps.j0]; rfl
  unfold familychecklaw01_LinearTightenKeeps.f
  rw [long_eq]
  simp only [Option.bind_some]
  refine ev_ite _ (fun _ => hend rfl) (fun h1 => ?_)
  simp at h1
  by_cases h3 : (p.length : Int) > 200
  · exact hend (by simpa using h3)
  · rw [decide_eq_false h3]
    refine Ev.step (f := fun k => (linear_Value.f k l c p).bind fun b => if b.2 = 0 then ((linear_Tighten.f k l c).bind fun t => (linear_Value.f k t.1 t.2 p).bind fun v => if v.2 = 0 then (if ((decide (b.1 ≥ 0)) == (decide (v.1 ≥ 0))) = true then ((familychecklaw01_known.f k).bind fun t => some t) else some false) else some false) else ((familychecklaw01_known.f k).bind fun t => some t)) (fun k => ?_) ?_
    · simp only [familychecklaw01_LinearTightenKeeps.j0]; rfl
    · refine ev_bind (value_ev l c p (by omega) (by omega)) (ev_ite _ (fun h4 => ?_) (fun _ => known_end))
      obtain ⟨e1, e2, e3, e4, e5⟩ := val_ok h4
      have hl := tgt_len l c
      have et := val_mk (l := (tgt l c).1) (c := (tgt l c).2) (by omega) e2 e3 (tgt_small e4)
      refine ev_bind (tighten_ev l c (by omega)) (ev_bind (ev_eq (value_ev (tgt l c).1 (tgt l c).2 p (by omega) (by omega)) et) (Ev.congr (fun k => if_pos rfl) (Ev.congr (fun k => if_pos ?_) known_end)))
      rw [e5, sumW_small e4 e3 (by omega), sumW_small (tgt_small e4) e3 (by omega), beq_iff_eq]
      exact decide_eq_decide.2 (tgt_sign p e4).symm
end Go.Proofs.YtbioiodjdfcooaaDoor.P
