/- What reads as data is a value of a printed kind: integers, slices, structs of these. -/
import Derived.Test.YtbioiodjdfcooabDoorVIWWords
import Derived.Deep.Slices
import Derived.Deep.Fields
import Derived.ChangeSame
import Derived.DataReads
import Derived.WideShapes
namespace Go.Proofs.YtbioiodjdfcooabDoor.Open
open Go.RowKit Go.ChangeShapes Go.WideShapes Go.Deep Go.Proofs.YtbioiodjdfcooabDoorW.PrintWords
set_option linter.unusedVariables false

/-- Whatever reads as data of type t is of the kind d, and ok. -/
def Opens (P : Program) (t : TypeId) {α : Type} (d : Kd α) (ok : α → Prop) : Prop :=
  ∀ (H : Type) (enc : TypeId × Value → H) (w : World) (fuel : Nat) (cs : List Value) (x : DataW H × List MemPlace),
    DataW.trod enc P w 0 (fun _ => true) true fuel t cs = some x → ∃ a, d.K w a cs ∧ ok a

section
variable {P : Program}
theorem opens_int {t : TypeId} {k : IntKind} (ht : P.underlying t = some (.int k)) : Opens P t (Kd.int k) (fun n => (Lit.int k n).wf = true) := by
  intro H enc w fuel cs x h
  obtain ⟨n, rfl, _, hw⟩ := DataW.trod_int ht h
  exact ⟨n, rfl, hw⟩
/-- The fields from a place on. -/
def OpensAt (P : Program) (fs : List Field) {α : Type} (d : Kd α) (ok : α → Prop) (off : Nat) : Prop :=
  ∀ (H : Type) (enc : TypeId × Value → H) (w : World) (n : Nat) (cs : List Value), off + d.sz ≤ cs.length →
    (∀ f ∈ fs, ∃ y, DataW.trod enc P w 0 (fun _ => true) true n f.type ((cs.drop f.offset).take (P.cellsOf f.type)) = some y) → ∃ a, d.K w a ((cs.drop off).take d.sz) ∧ ok a
theorem fields_last {f : Field} {α : Type} {d : Kd α} {ok : α → Prop} {off : Nat} (hoff : f.offset = off) (hsz : P.cellsOf f.type = d.sz) (h : Opens P f.type d ok) : OpensAt P [f] d ok off := by
  intro H enc w n cs _ hf
  obtain ⟨y, hy⟩ := hf f (List.mem_singleton.2 rfl)
  rw [hoff, hsz] at hy
  exact h H enc w n _ y hy
theorem fields_cons {f : Field} {fs : List Field} {α β : Type} {d0 : Kd α} {d1 : Kd β} {ok0 : α → Prop} {ok1 : β → Prop} {off : Nat} (hoff : f.offset = off) (hsz : P.cellsOf f.type = d0.sz) (h0 : Opens P f.type d0 ok0)
    (h1 : OpensAt P fs d1 ok1 (off + d0.sz)) : OpensAt P (f :: fs) (Kd.pair d0 d1) (fun x => ok0 x.1 ∧ ok1 x.2) off := by
  intro H enc w n cs hl hf
  have hl' : off + (d0.sz + d1.sz) ≤ cs.length := hl
  obtain ⟨y, hy⟩ := hf f List.mem_cons_self
  rw [hoff, hsz] at hy
  obtain ⟨a, ha, hka⟩ := h0 H enc w n _ y hy
  obtain ⟨b, hb, hkb⟩ := h1 H enc w n cs (by omega) (fun g hg => hf g (List.mem_cons_of_mem _ hg))
  refine ⟨(a, b), ⟨_, _, ?_, ha, hb⟩, hka, hkb⟩
  show (cs.drop off).take (d0.sz + d1.sz) = _
  rw [← List.drop_drop, List.take_add]
theorem opens_struct {t : TypeId} {fs : Array Field} {α : Type} {d : Kd α} {ok : α → Prop} (ht : P.underlying t = some (.struct fs)) (hC : P.cellsOf t = d.sz) (h : OpensAt P fs.toList d ok 0) : Opens P t d ok := by
  intro H enc w fuel cs x hx
  obtain ⟨xs, n, _, _, hl, hlen, hg⟩ := DataW.trod_struct ht hx
  obtain ⟨a, ha, hok⟩ := h H enc w n cs (by omega) (fun f hf => by
    obtain ⟨i, hi, rfl⟩ := List.getElem_of_mem hf
    have hi' : i < fs.size := by simpa using hi
    have := hg i fs[i] (by simp [hi'])
    rw [List.getElem?_eq_getElem (by omega)] at this
    exact ⟨_, by simpa using this⟩)
  refine ⟨a, ?_, hok⟩
  rw [List.drop_zero, List.take_of_length_le (by omega)] at ha
  exact ha
/-- An argument that is a struct. -/
theorem arg_struct {t : TypeId} {fs : Array Field} {α : Type} {d : Kd α} {ok : α → Prop} (ht : P.underlying t = some (.struct fs)) (h : Opens P t d ok) {H : Type} {enc : TypeId × Value → H} {w : World} {r : Reach} {b0 : Nat} {v : Value} {x : DataW H} {p : List MemPlace}
    (hv : Value.okWide P w r b0 t v) (hr : DataW.Trod enc P w 0 (fun _ => true) true t v x p) : ∃ (cs : List Value) (a : α), v = .agg cs.toArray ∧ d.K w a cs ∧ ok a := by
  obtain ⟨cs, rfl, hsz⟩ := okWide_struct ht hv
  obtain ⟨fuel, hf⟩ := hr
  obtain ⟨a, ha, hok⟩ := h H enc w fuel _ _ hf
  exact ⟨cs.toList, a, by simp, ha, hok⟩
end
theorem wf_i64 {n : Int} (h : (Lit.int .i64 n).wf = true) : -9223372036854775808 ≤ n ∧ n ≤ 9223372036854775807 := by
  simp only [Lit.wf, Bool.and_eq_true, decide_eq_true_eq] at h
  exact h
end Go.Proofs.YtbioiodjdfcooabDoor.Open
