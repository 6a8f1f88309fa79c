/- LinearValues, plain. -/
import Derived.Test.YtbioiodjdfcooaaDoorPx0
import Derived.Test.YtbioiodjdfcooaaDoorPx2
import Derived.Test.YtbioiodjdfcooaaDoorPx4
import Derived.Test.YtbioiodjdfcooaaDoorPx7
import Derived.Test.YtbioiodjdfcooaaDoorPx13
import Derived.Test.YtbioiodjdfcooaaDoorPx14
import Derived.Test.YtbioiodjdfcooaaDoorPx15
import Derived.Test.YtbioiodjdfcooaaDoorQb
namespace Go.Proofs.YtbioiodjdfcooaaDoor.P
open Go.RowKit Go.Proofs.YtbioiodjdfcooaaDoorW.PrintWords Go.Proofs.YtbioiodjdfcooaaDoorW.PrintLast Go.Proofs.YtbioiodjdfcooaaDoorW.PrintMore
theorem linearValues_ev (l : List Int) (c : Int) (v : Int) (rs : List Rw) (p : List Int) : Ev (fun k => familychecklaw01_LinearValues.f k l c v rs p) true := by
  have hend : ∀ {b : Bool}, b = true → Ev (fun k => familychecklaw01_LinearValues.j0 k p b l c v rs) true := by
    intro b hb
    subst hb
    refine Ev.step (f := fun k => (familychecklaw01_known.f k).bind fun t => some t) (fun k => ?_) known_end
    simp only [familychecklaw01_LinearValues.j0]; rfl
  unfold familychecklaw01_LinearValues.f
  rw [long_eq]
  simp only [Option.bind_some]
  refine ev_ite _ (fun _ => hend rfl) (fun h1 => ?_)
  obtain ⟨b, hb, hq⟩ := wide_ev v rs
  refine ev_bind hb (ev_ite _ (fun _ => hend rfl) (fun h2 => ?_))
  have hr := hq (by simpa using h2)
  simp at h1
  by_cases h3 : (p.length : Int) > 200
  · exact hend (by simpa using h3)
  · rw [decide_eq_false h3]
    refine Ev.step (f := fun k => (linear_Value.f k l c p).bind fun a => (familycheckref01_Value.f k l c p).bind fun b => if a.1 = b.1 then (if a.2 = b.2 then ((linear_Satisfies.f k v rs p).bind fun s => (familycheckref01_Satisfies.f k v rs p).bind fun t => if (s == t) = true then ((familychecklaw01_known.f k).bind fun t => some t) else some false) else some false) else some false) (fun k => ?_) ?_
    · simp only [familychecklaw01_LinearValues.j0]; rfl
    · refine ev_bind (value_ev l c p (by omega) (by omega)) (ev_bind (rvalue_ev l c p (by omega) (by omega)) ?_)
      refine Ev.congr (fun k => if_pos rfl) (Ev.congr (fun k => if_pos rfl) (ev_bind (satisfies_ev v rs p hr (by omega)) (ev_bind (rsatisfies_ev v rs p hr (by omega)) ?_)))
      exact Ev.congr (fun k => if_pos (by simp)) known_end
end Go.Proofs.YtbioiodjdfcooaaDoor.P
