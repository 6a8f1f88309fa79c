/- LinearSubstitutes, plain: the law. -/
import Derived.Test.YtbioiodjdfcooaaDoorVFPx0
import Derived.Test.YtbioiodjdfcooaaDoorVFPx7
import Derived.Test.YtbioiodjdfcooaaDoorVFPx11
import Derived.Test.YtbioiodjdfcooaaDoorVFPx18
import Derived.Test.YtbioiodjdfcooaaDoorVFYSubs
import Derived.Test.YtbioiodjdfcooaaDoorVFQ15
import Derived.Test.YtbioiodjdfcooaaDoorVFSpoil
namespace Go.Proofs.YtbioiodjdfcooaaDoor.P
open Go.RowKit Go.Proofs.YtbioiodjdfcooaaDoorW.PrintWords Go.Proofs.YtbioiodjdfcooaaDoorW.PrintLast Go.Proofs.YtbioiodjdfcooaaDoorW.PrintMore
set_option linter.unusedVariables false
theorem substitutes_l0 (v : Int) (rs : List Rw) (u : Int) (ts : List Rw) (hr : okRows rs) (ht : okRows ts) (d : Nat) : ∀ i : Nat, i + d = ts.length →
    Ev (fun k => familychecklaw01_LinearSubstitutes.l0 k true (i : Int) v rs v rs u ts) true := by
  have hn := ht.1
  induction d with
  | zero =>
    intro i hi
    refine Ev.step (f := fun k => (familycheckref01_SameSystem.f k v rs v rs).bind fun t => if t = true then ((familychecklaw01_known.f k).bind fun t => some t) else some false) (fun k => ?_) ?_
    · simp only [familychecklaw01_LinearSubstitutes.l0]; rw [if_neg (by omega), if_pos trivial]
    · refine ev_bind (sameSystem_self v rs (fun r h => by have := hr.2 r h; omega) (by have := hr.1; omega)) (Ev.congr (fun k => if_pos rfl) known_end)
  | succ d ih =>
    intro i hi
    have hlt : i < ts.length := by omega
    have hm := ht.2 _ (List.getElem_mem hlt)
    obtain ⟨r, hsp⟩ := spoil_all ts[i].f0 (by omega)
    refine Ev.step (f := fun k => (familychecklaw01_spoil.f k ts[i].f0).bind fun _ => familychecklaw01_LinearSubstitutes.l0 k true ((i + 1 : Nat) : Int) v rs v rs u ts) (fun k => ?_) (ev_bind hsp (ih (i + 1) (by omega)))
    simp only [familychecklaw01_LinearSubstitutes.l0]
    rw [if_pos (by omega), if_pos (by omega), rdR_at ts i hlt, wrap_next hlt (by omega)]
theorem linearSubstitutes_ev (v : Int) (rs : List Rw) (a x : Int) : Ev (fun k => familychecklaw01_LinearSubstitutes.f k v rs a x) true := by
  unfold familychecklaw01_LinearSubstitutes.f
  obtain ⟨b, hb, hq⟩ := wide_ev v rs
  refine ev_bind hb (ev_ite _ (fun _ => known_end) (fun h2 => ?_))
  have hr := hq (by simpa using h2)
  have ht := subst_rows v rs a x hr
  refine ev_bind (copySystem_ev v rs hr) (ev_bind (substitute_ev v rs a x hr) (ev_bind (rsubstitute_ev v rs a x hr) (Ev.congr (fun k => if_pos rfl) (ev_bind (sameSystem_self _ _ (fun r h => by have := ht.2 r h; omega) (by have := ht.1; omega)) ?_))))
  refine Ev.step (f := fun k => familychecklaw01_LinearSubstitutes.l0 k true 0 v rs v rs (subst v rs a x).1 (subst v rs a x).2.1) (fun k => ?_) (substitutes_l0 v rs _ _ hr ht (subst v rs a x).2.1.length 0 (by omega))
  simp only [familychecklaw01_LinearSubstitutes.j0]
end Go.Proofs.YtbioiodjdfcooaaDoor.P
