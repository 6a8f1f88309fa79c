/- What reads as data is a value of a printed kind: integers, slices, structs of these. -/
import Derived.Test.YtbioiodjdfcooaaDoorVGWWords
import Derived.Deep.Slices
import Derived.Deep.Fields
import Derived.ChangeSame
import Derived.DataReads
import Derived.WideShapes
namespace Go.Proofs.YtbioiodjdfcooaaDoor.Open
open Go.RowKit Go.ChangeShapes Go.WideShapes Go.Deep Go.Proofs.YtbioiodjdfcooaaDoorW.PrintWords
set_option linter.unusedVariables false

/-- Whatever reads as data of type t is of the kind d, and ok. -/
def Opens (P : Program) (t : TypeId) {α : Type} (d : Kd α) (ok : α → Prop) : Prop :=
  ∀ (H : Type) (enc : TypeId × Value → H) (w : World) (fuel : Nat) (cs : List Value) (x : DataW H × List MemPlace),
    DataW.trod enc P w 0 (fun _ => true) true fuel t cs = some x → ∃ a, d.K w a cs ∧ ok a

theorem choose_list {α : Type} {Q : Nat → α → Prop} (n : Nat) (h : ∀ i, i < n → ∃ a, Q i a) : ∃ l : List α, l.length = n ∧ ∀ i p, l[i]? = some p → Q i p := by
  induction n with
  | zero => exact ⟨[], rfl, fun i p hp => by simp at hp⟩
  | succ n ih =>
    obtain ⟨l, hl, hq⟩ := ih (fun i hi => h i (by omega))
    obtain ⟨a, ha⟩ := h n (by omega)
    refine ⟨l ++ [a], by simp [hl], fun i p hp => ?_⟩
    by_cases hi : i < l.length
    · rw [List.getElem?_append_left hi] at hp
      exact hq i p hp
    · rw [List.getElem?_append_right (by omega)] at hp
      have h0 : i - l.length = 0 := by
        have := (List.getElem?_eq_some_iff.1 hp).1
        simp at this
        omega
      rw [h0] at hp
      simp at hp
      subst hp
      rwa [show i = n by omega]

section
variable {P : Program}
theorem opens_int {t : TypeId} {k : IntKind} (ht : P.underlying t = some (.int k)) : Opens P t (Kd.int k) (fun n => (Lit.int k n).wf = true) := by
  intro H enc w fuel cs x h
  obtain ⟨n, rfl, _, hw⟩ := DataW.trod_int ht h
  exact ⟨n, rfl, hw⟩
theorem opens_slice {t e : TypeId} {α : Type} {d : Kd α} {ok : α → Prop} (ht : P.underlying t = some (.slice e)) (hC : P.cellsOf e = d.sz) (he : Opens P e d ok) :
    Opens P t (Kd.slice e d) (fun l => l.length ≤ 9223372036854775807 ∧ ∀ a ∈ l, ok a) := by
  intro H enc w fuel cs x h
  rcases open_slice ht h with ⟨rfl, _⟩ | ⟨a, len, cap, m, n, D, Pl, rfl, _, hl, hm, hmm, _, hx⟩
  · exact ⟨[], ⟨none, 0, rfl, Nat.le_refl _, rfl, by simp, fun h => absurd h (by simp)⟩, by simp, fun _ h => by simp at h⟩
  · have hle : len ≤ m := by simp at hmm; omega
    have hcap : len ≤ 9223372036854775807 := by simp only [maxLen] at hm; omega
    obtain ⟨l, hll, hq⟩ := choose_list (Q := fun i p => ok p ∧ ∃ c, c.length = d.sz ∧ d.K w p c ∧ ∀ j u, c[j]? = some u → w.cell? (a.add (i * d.sz + j)) = some u) len (fun i hi => by
      obtain ⟨cs', h1, h2⟩ := hx i (by omega)
      obtain ⟨p, hp, hok⟩ := he H enc w n cs' _ h2
      rw [hC] at h1
      obtain ⟨_, hcl, hat⟩ := World.cells?_some h1
      refine ⟨p, hok, cs', hcl, hp, fun j u hj => ?_⟩
      have hjl : j < d.sz := by rw [← hcl]; exact (List.getElem?_eq_some_iff.1 hj).1
      rw [← Go.Deep.add_add, hat j hjl, hj])
    refine ⟨l, ⟨some a, cap, by rw [hll], by omega, rfl, by omega, fun _ => ⟨a, rfl, fun j p hp => (hq j p hp).2⟩⟩, by omega, fun p hp => ?_⟩
    obtain ⟨i, hi, rfl⟩ := List.getElem_of_mem hp
    exact (hq i _ (List.getElem?_eq_getElem hi)).1

/-- The fields from a place on. -/
def OpensAt (P : Program) (fs : List Field) {α : Type} (d : Kd α) (ok : α → Prop) (off : Nat) : Prop :=
  ∀ (H : Type) (enc : TypeId × Value → H) (w : World) (n : Nat) (cs : List Value), off + d.sz ≤ cs.length →
    (∀ f ∈ fs, ∃ y, DataW.trod enc P w 0 (fun _ => true) true n f.type ((cs.drop f.offset).take (P.cellsOf f.type)) = some y) → ∃ a, d.K w a ((cs.drop off).take d.sz) ∧ ok a
theorem fields_last {f : Field} {α : Type} {d : Kd α} {ok : α → Prop} {off : Nat} (hoff : f.offset = off) (hsz : P.cellsOf f.type = d.sz) (h : Opens P f.type d ok) : OpensAt P [f] d ok off := by
  intro H enc w n cs _ hf
  obtain ⟨y, hy⟩ := hf f (List.mem_singleton.2 rfl)
  rw [hoff, hsz] at hy
  exact h H enc w n _ y hy
theorem fields_cons {f : Field} {fs : List Field} {α β : Type} {d0 : Kd α} {d1 : Kd β} {ok0 : α → Prop} {ok1 : β → Prop} {off : Nat} (hoff : f.offset = off) (hsz : P.cellsOf f.type = d0.sz) (h0 : Opens P f.type d0 ok0)
    (h1 : OpensAt P fs d1 ok1 (off + d0.sz)) : OpensAt P (f :: fs) (Kd.pair d0 d1) (fun x => ok0 x.1 ∧ ok1 x.2) off := by
  intro H enc w n cs hl hf
  have hl' : off + (d0.sz + d1.sz) ≤ cs.length := hl
  obtain ⟨y, hy⟩ := hf f List.mem_cons_self
  rw [hoff, hsz] at hy
  obtain ⟨a, ha, hka⟩ := h0 H enc w n _ y hy
  obtain ⟨b, hb, hkb⟩ := h1 H enc w n cs (by omega) (fun g hg => hf g (List.mem_cons_of_mem _ hg))
  refine ⟨(a, b), ⟨_, _, ?_, ha, hb⟩, hka, hkb⟩
  show (cs.drop off).take (d0.sz + d1.sz) = _
  rw [← List.drop_drop, List.take_add]
theorem opens_struct {t : TypeId} {fs : Array Field} {α : Type} {d : Kd α} {ok : α → Prop} (ht : P.underlying t = some (.struct fs)) (hC : P.cellsOf t = d.sz) (h : OpensAt P fs.toList d ok 0) : Opens P t d ok := by
  intro H enc w fuel cs x hx
  obtain ⟨xs, n, _, _, hl, hlen, hg⟩ := DataW.trod_struct ht hx
  obtain ⟨a, ha, hok⟩ := h H enc w n cs (by omega) (fun f hf => by
    obtain ⟨i, hi, rfl⟩ := List.getElem_of_mem hf
    have hi' : i < fs.size := by simpa using hi
    have := hg i fs[i] (by simp [hi'])
    rw [List.getElem?_eq_getElem (by omega)] at this
    exact ⟨_, by simpa using this⟩)
  refine ⟨a, ?_, hok⟩
  rw [List.drop_zero, List.take_of_length_le (by omega)] at ha
  exact ha
theorem opens_iso {t : TypeId} {α β : Type} {d : Kd α} {ok : α → Prop} (f : β → α) (g : α → β) (hfg : ∀ a, f (g a) = a) (h : Opens P t d ok) : Opens P t (Kd.iso d f) (fun b => ok (f b)) := by
  intro H enc w fuel cs x hx
  obtain ⟨a, ha, hok⟩ := h H enc w fuel cs x hx
  refine ⟨g a, ?_, ?_⟩
  · show d.K w (f (g a)) cs
    rw [hfg]; exact ha
  · show ok (f (g a))
    rw [hfg]; exact hok
/-- An argument that is a struct. -/
theorem arg_struct {t : TypeId} {fs : Array Field} {α : Type} {d : Kd α} {ok : α → Prop} (ht : P.underlying t = some (.struct fs)) (h : Opens P t d ok) {H : Type} {enc : TypeId × Value → H} {w : World} {r : Reach} {b0 : Nat} {v : Value} {x : DataW H} {p : List MemPlace}
    (hv : Value.okWide P w r b0 t v) (hr : DataW.Trod enc P w 0 (fun _ => true) true t v x p) : ∃ (cs : List Value) (a : α), v = .agg cs.toArray ∧ d.K w a cs ∧ ok a := by
  obtain ⟨cs, rfl, hsz⟩ := okWide_struct ht hv
  obtain ⟨fuel, hf⟩ := hr
  obtain ⟨a, ha, hok⟩ := h H enc w fuel _ _ hf
  exact ⟨cs.toList, a, by simp, ha, hok⟩
/-- An argument that is a slice. -/
theorem arg_slice {t e : TypeId} {α : Type} {d : Kd α} {ok : List α → Prop} (ht : P.underlying t = some (.slice e)) (h : Opens P t (Kd.slice e d) ok) {H : Type} {enc : TypeId × Value → H} {w : World} {r : Reach} {b0 : Nat} {v : Value} {x : DataW H} {p : List MemPlace}
    (hv : Value.okWide P w r b0 t v) (hr : DataW.Trod enc P w 0 (fun _ => true) true t v x p) : ∃ (A : Option Addr) (c : Nat) (l : List α), v = .slice A l.length c ∧ l.length ≤ c ∧ d.C w A l.length l ∧ ok l := by
  obtain ⟨a0, len, cap, rfl⟩ := okWide_slice ht hv
  obtain ⟨fuel, hf⟩ := hr
  obtain ⟨l, ⟨A, c, he, hl, hC⟩, hok⟩ := h H enc w fuel _ _ hf
  simp only [Value.cells, List.cons.injEq, and_true] at he
  injection he with h1 h2 h3
  subst h1 h2 h3
  exact ⟨_, _, l, rfl, hl, hC, hok⟩
end
theorem wf_i64 {n : Int} (h : (Lit.int .i64 n).wf = true) : -9223372036854775808 ≤ n ∧ n ≤ 9223372036854775807 := by
  simp only [Lit.wf, Bool.and_eq_true, decide_eq_true_eq] at h
  exact h
end Go.Proofs.YtbioiodjdfcooaaDoor.Open
