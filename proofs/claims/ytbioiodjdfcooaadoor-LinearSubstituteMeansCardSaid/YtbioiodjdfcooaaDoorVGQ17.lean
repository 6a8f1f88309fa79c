/- LinearSubstituteMeans, plain. -/
import Derived.Test.YtbioiodjdfcooaaDoorVGPx0
import Derived.Test.YtbioiodjdfcooaaDoorVGPx4
import Derived.Test.YtbioiodjdfcooaaDoorVGPx7
import Derived.Test.YtbioiodjdfcooaaDoorVGYSub
import Derived.Test.YtbioiodjdfcooaaDoorVGYSubMeans
import Derived.Test.YtbioiodjdfcooaaDoorVGQ15
namespace Go.Proofs.YtbioiodjdfcooaaDoor.P
open Go.RowKit Go.Proofs.YtbioiodjdfcooaaDoorW.PrintWords Go.Proofs.YtbioiodjdfcooaaDoorW.PrintLast Go.Proofs.YtbioiodjdfcooaaDoorW.PrintMore
set_option linter.unusedVariables false
/-- One coordinate changed, where the row has no number any more: the sum is the same but for that number. -/
theorem dot_sub (m : Int) : ∀ (l p : List Int) (j : Nat), l.length = p.length → j < l.length → dot (l.set j 0) (p.set j m) + l.getD j 0 * p.getD j 0 = dot l p
  | [], _, j, _, h => absurd h (Nat.not_lt_zero j)
  | _ :: _, [], _, h, _ => by cases h
  | a :: l, b :: p, 0, _, _ => by simp [dot]; omega
  | a :: l, b :: p, j + 1, h, h' => by
    have ih := dot_sub m l p j (by simpa using h) (by simpa using h')
    simp only [List.set_cons_succ, dot, List.getD_cons_succ]
    omega
theorem pt_set {p : List Int} {j : Nat} {m : Int} (hj : j < p.length) (hp : 0 ≤ p.getD j 0 ∧ p.getD j 0 ≤ 1048576) (hm : 0 ≤ m ∧ m ≤ 1048576) : pt (p.set j m) = pt p := by
  rw [Bool.eq_iff_iff]
  simp only [pt, List.all_eq_true]
  have hg : p.getD j 0 = p[j] := by rw [List.getD_eq_getElem?_getD, List.getElem?_eq_getElem hj, Option.getD_some]
  constructor
  · intro h y hy
    obtain ⟨i, hi, rfl⟩ := List.getElem_of_mem hy
    by_cases e : i = j
    · subst e; exact ptN_iff.2 (by omega)
    · have h2 := h ((p.set j m)[i]'(by rw [List.length_set]; exact hi)) (List.getElem_mem _)
      rwa [List.getElem_set_ne (fun h => e h.symm)] at h2
  · intro h y hy
    rcases List.mem_or_eq_of_mem_set hy with hy | rfl
    · exact h y hy
    · exact ptN_iff.2 hm
theorem sum_sub {r : Rw} {p : List Int} {j : Nat} {m x : Int} (hs : sm r.f0 r.f1 = true) (hs' : sm (subm j x r).f0 (subm j x r).f1 = true) (hl : r.f0.length = p.length) (hn : r.f0.length ≤ 96) (hj : j < p.length) (hx : x = p.getD j 0)
    (hp : pt p = true) (hm : 0 ≤ m ∧ m ≤ 1048576) (hxx : 0 ≤ x ∧ x ≤ 1048576) : sumW (subm j x r).f0 (p.set j m) (subm j x r).f1 = sumW r.f0 p r.f1 := by
  rw [sumW_small hs hp hn, sumW_small hs' (by rw [pt_set hj (by omega) hm]; exact hp) (by simpa [subm] using hn)]
  have := dot_sub m r.f0 p j hl (by omega)
  subst hx
  simp only [subm]
  omega
theorem and_in (x : Int) : 0 ≤ Go.bits .and .i64 x 1048575 ∧ Go.bits .and .i64 x 1048575 ≤ 1048576 := by
  have h : ∀ n : Nat, n &&& 1048575 ≤ 1048575 := fun n => Nat.and_le_right
  simp only [Go.bits, BitVec.toNat_and]
  have h2 := h (BitVec.ofInt IntKind.i64.bits x).toNat
  have e : (BitVec.ofInt IntKind.i64.bits 1048575).toNat = 1048575 := by decide
  rw [e, Go.IntKind.wrap_i64]
  omega
theorem u64_in (x : Int) : 0 ≤ IntKind.u64.wrap x ∧ IntKind.u64.wrap x = x % 18446744073709551616 := by
  have e : IntKind.u64.wrap x = x % 18446744073709551616 := by simp [IntKind.wrap, IntKind.bits, IntKind.signed]
  exact ⟨by omega, e⟩
theorem spot_ix (x : Int) (n : Nat) (h0 : n ≠ 0) (h : n ≤ 200) : ∃ j : Nat, j < n ∧ wrap64 (Int.tmod (IntKind.u64.wrap x) (IntKind.u64.wrap (n : Int))) = (j : Int) := by
  have e : IntKind.u64.wrap (n : Int) = (n : Int) := by rw [(u64_in _).2]; omega
  have hx := (u64_in x).1
  rw [e]
  generalize IntKind.u64.wrap x = y at *
  obtain ⟨y, rfl⟩ := Int.eq_ofNat_of_zero_le hx
  refine ⟨y % n, Nat.mod_lt _ (by omega), ?_⟩
  have hl := Nat.mod_lt y (show n > 0 by omega)
  rw [← Int.ofNat_tmod, wrap_id (n := ((y % n : Nat) : Int)) (by omega) (by omega)]
theorem sat_sub {v : Int} {rs : List Rw} {p : List Int} {j : Nat} {m : Int} (hj : j < p.length) (hl : (p.length : Int) = v) (hn : p.length ≤ 200) (hm : 0 ≤ m ∧ m ≤ 1048576) (h : (subst v rs (j : Int) (p.getD j 0)).2.2 = 0) :
    sat v rs p = sat (subst v rs (j : Int) (p.getD j 0)).1 (subst v rs (j : Int) (p.getD j 0)).2.1 (p.set j m) := by
  unfold subst at h ⊢
  by_cases hv : valid v rs = 0
  · rw [if_pos hv] at h ⊢
    by_cases h1 : 0 ≤ (j : Int) ∧ (j : Int) < v ∧ 0 ≤ p.getD j 0 ∧ p.getD j 0 ≤ 1048576
    · rw [if_pos h1, Int.toNat_natCast] at h ⊢
      by_cases h2 : rs.all (okS j (p.getD j 0)) = true
      · rw [if_pos h2]
        have hv2 := (valid_sub hv h1.2.1).2 h2
        obtain ⟨hv0, hv1, hv3, hv4⟩ := valid_ok hv
        obtain ⟨_, _, _, hv5⟩ := valid_ok hv2
        unfold sat
        rw [decide_eq_true hv, decide_eq_true hv2, List.length_set, pt_set hj h1.2.2 hm]
        cases hp : pt p
        · simp
        · simp only [Bool.true_and]
          congr 1
          rw [List.all_map]
          refine Bool.eq_iff_iff.2 ?_
          simp only [List.all_eq_true, Function.comp]
          have e : ∀ r ∈ rs, sumW (subm j (p.getD j 0) r).f0 (p.set j m) (subm j (p.getD j 0) r).f1 = sumW r.f0 p r.f1 := fun r hr =>
            sum_sub (hv4 r hr) (hv5 _ (List.mem_map_of_mem hr)) (by have := hv1 r hr; omega) (by have := hv1 r hr; omega) hj rfl hp hm h1.2.2
          constructor
          · intro hh r hr; rw [e r hr]; exact hh r hr
          · intro hh r hr; rw [← e r hr]; exact hh r hr
      · rw [if_neg h2] at h; exact absurd h (by decide)
    · rw [if_neg h1] at h; exact absurd h (by decide)
  · rw [if_neg hv] at h; exact absurd h hv
theorem linearSubstituteMeans_ev (v : Int) (rs : List Rw) (p : List Int) (a x : Int) : Ev (fun k => familychecklaw01_LinearSubstituteMeans.f k v rs p a x) true := by
  have hend : ∀ {b : Bool}, b = true → Ev (fun k => familychecklaw01_LinearSubstituteMeans.j0 k p b v rs a x) true := by
    intro b hb
    subst hb
    refine Ev.step (f := fun k => (familychecklaw01_known.f k).bind fun t => some t) (fun k => ?_) known_end
    simp only [familychecklaw01_LinearSubstituteMeans.j0]; rfl
  unfold familychecklaw01_LinearSubstituteMeans.f
  obtain ⟨b, hb, hq⟩ := wide_ev v rs
  refine ev_bind hb (ev_ite _ (fun _ => hend rfl) (fun h2 => ev_ite _ (fun _ => hend rfl) (fun h3 => ev_ite _ (fun h4 => ?_) (fun _ => hend rfl))))
  have hr := hq (by simpa using h2)
  by_cases h5 : (p.length : Int) = 0
  · exact hend (by simpa using h5)
  · obtain ⟨j, hj, ej⟩ := spot_ix a p.length (by omega) (by omega)
    have hm := and_in x
    have e0 : IntKind.u64.wrap (p.length : Int) ≠ 0 := by rw [(u64_in _).2]; omega
    have ed : rd p (j : Int) = p.getD j 0 := by rw [rd, Int.toNat_natCast]
    refine Ev.step (f := fun k => (linear_Substitute.f k v rs (j : Int) (p.getD j 0)).bind fun b => if b.2.2 = 0 then ((linear_Satisfies.f k v rs p).bind fun s => (linear_Satisfies.f k b.1 b.2.1 (p.set j (Go.bits .and .i64 x 1048575))).bind fun t => if (s == t) = true then ((familychecklaw01_known.f k).bind fun t => some t) else some false) else ((familychecklaw01_known.f k).bind fun t => some t)) (fun k => ?_) ?_
    · simp only [familychecklaw01_LinearSubstituteMeans.j0]
      rw [if_neg (by simpa using h5), if_neg e0, ej, if_pos (by omega), if_pos (by omega), ed, copyInts_eq p (by omega)]
      simp only [Option.bind_some]
      simp only [eq_true (show (j : Int) < (p.length : Int) by omega), if_true, Int.toNat_natCast]
    · refine ev_bind (substitute_ev v rs (j : Int) (p.getD j 0) hr) (ev_ite _ (fun h6 => ?_) (fun _ => known_end))
      have hr2 := subst_rows v rs (j : Int) (p.getD j 0) hr
      refine ev_bind (satisfies_ev v rs p hr (by omega)) (ev_bind (satisfies_ev _ _ _ hr2 (by rw [List.length_set]; omega)) ?_)
      exact Ev.congr (fun k => if_pos (by rw [beq_iff_eq]; exact sat_sub hj h4 (by omega) hm h6)) known_end
end Go.Proofs.YtbioiodjdfcooaaDoor.P
