/- LinearTightens and LinearTightenKeeps, plain. -/
import Derived.Test.YtbioiodjdfcooaaDoorVAPx0
import Derived.Test.YtbioiodjdfcooaaDoorVAPx19
import Derived.Test.YtbioiodjdfcooaaDoorVAQc
namespace Go.Proofs.YtbioiodjdfcooaaDoor.P
open Go.RowKit Go.Proofs.YtbioiodjdfcooaaDoorW.PrintWords Go.Proofs.YtbioiodjdfcooaaDoorW.PrintLast Go.Proofs.YtbioiodjdfcooaaDoorW.PrintMore
theorem linearTightens_ev (l : List Int) (c : Int) : Ev (fun k => familychecklaw01_LinearTightens.f k l c) true := by
  unfold familychecklaw01_LinearTightens.f
  rw [long_eq]
  simp only [Option.bind_some]
  refine ev_ite _ (fun _ => known_end) (fun h1 => ?_)
  simp at h1
  rw [copyRow_eq l c (by omega)]
  have hl := tgt_len l c
  refine ev_bind (Ev.now _) (ev_bind (tighten_ev l c (by omega)) (ev_bind (rtighten_ev l c (by omega)) (ev_bind (sameRow_self _ _ (by omega)) ?_)))
  obtain ⟨r, hr⟩ := spoil_ev (tgt l c).1 (by omega)
  exact ev_bind hr (Ev.congr (fun k => if_pos rfl) (ev_bind (sameRow_self l c (by omega)) (Ev.congr (fun k => if_pos rfl) known_end)))
end Go.Proofs.YtbioiodjdfcooaaDoor.P
