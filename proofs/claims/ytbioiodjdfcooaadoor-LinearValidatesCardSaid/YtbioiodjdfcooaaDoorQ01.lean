/- LinearValidates, plain. -/
import Derived.Test.YtbioiodjdfcooaaDoorPx0
import Derived.Test.YtbioiodjdfcooaaDoorPx12
import Derived.Test.YtbioiodjdfcooaaDoorQk
namespace Go.Proofs.YtbioiodjdfcooaaDoor.P
open Go.RowKit Go.Proofs.YtbioiodjdfcooaaDoorW.PrintWords Go.Proofs.YtbioiodjdfcooaaDoorW.PrintLast Go.Proofs.YtbioiodjdfcooaaDoorW.PrintMore
theorem linearValidates_ev (v : Int) (rs : List Rw) : Ev (fun k => familychecklaw01_LinearValidates.f k v rs) true := by
  unfold familychecklaw01_LinearValidates.f
  obtain ⟨b, hb, hq⟩ := wide_ev v rs
  refine ev_bind hb ?_
  cases b
  · have hr := hq rfl
    refine Ev.congr (fun k => if_neg (by simp)) (ev_bind (copySystem_ev v rs hr) (ev_bind (validate_ev v rs hr) (ev_bind (rvalidate_ev v rs hr) ?_)))
    refine Ev.congr (fun k => if_pos rfl) (ev_bind (sameSystem_self v rs (fun r h => by have := hr.2 r h; omega) (by have := hr.1; omega)) ?_)
    exact Ev.congr (fun k => if_pos rfl) known_end
  · exact Ev.congr (fun k => if_pos rfl) known_end
end Go.Proofs.YtbioiodjdfcooaaDoor.P
