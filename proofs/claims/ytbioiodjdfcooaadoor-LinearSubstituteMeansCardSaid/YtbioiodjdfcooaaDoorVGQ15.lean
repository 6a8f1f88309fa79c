/- LinearSubstitutes, plain. -/
import Derived.Test.YtbioiodjdfcooaaDoorVGPx0
import Derived.Test.YtbioiodjdfcooaaDoorVGPx8
import Derived.Test.YtbioiodjdfcooaaDoorVGPx9
import Derived.Test.YtbioiodjdfcooaaDoorVGPx32
import Derived.Test.YtbioiodjdfcooaaDoorVGYRefSub
import Derived.Test.YtbioiodjdfcooaaDoorVGYSub
import Derived.Test.YtbioiodjdfcooaaDoorVGQc
namespace Go.Proofs.YtbioiodjdfcooaaDoor.P
open Go.RowKit Go.Proofs.YtbioiodjdfcooaaDoorW.PrintWords Go.Proofs.YtbioiodjdfcooaaDoorW.PrintLast Go.Proofs.YtbioiodjdfcooaaDoorW.PrintMore
set_option linter.unusedVariables false
set_option linter.unusedSimpArgs false
def subm (a : Nat) (x : Int) (r : Rw) : Rw := ⟨r.f0.set a 0, r.f1 + r.f0.getD a 0 * x⟩
def partR (f : Rw → Rw) (l : List Rw) (i : Nat) : List Rw := (l.take i).map f ++ l.drop i
theorem partR_zero (f : Rw → Rw) (l : List Rw) : partR f l 0 = l := by simp [partR]
theorem partR_all (f : Rw → Rw) (l : List Rw) (i : Nat) (h : l.length ≤ i) : partR f l i = l.map f := by
  simp [partR, List.take_of_length_le h, List.drop_eq_nil_of_le h]
theorem partR_len (f : Rw → Rw) (l : List Rw) (i : Nat) : (partR f l i).length = l.length := by
  simp [partR]; omega
theorem partR_get (f : Rw → Rw) (l : List Rw) (i : Nat) (h : i < l.length) : rd_T33 (partR f l i) (i : Int) = l[i] := by
  rw [rdR_at _ i (by rw [partR_len]; exact h)]
  simp only [partR]
  rw [List.getElem_append_right (by simp; omega)]
  simp [Nat.min_eq_left (Nat.le_of_lt h)]
theorem partR_set (f : Rw → Rw) (l : List Rw) (i : Nat) (h : i < l.length) (y : Rw) (hy : y = f l[i]) : (partR f l i).set (i : Int).toNat y = partR f l (i + 1) := by
  subst hy
  unfold partR
  rw [Int.toNat_natCast, List.set_append_right _ _ (by simp; omega), List.take_succ_eq_append_getElem h, List.map_append]
  have e : i - ((l.take i).map f).length = 0 := by simp; omega
  rw [e, List.drop_eq_getElem_cons h, List.set_cons_zero]
  simp
theorem rdR_set (l : List Rw) (i : Nat) (h : i < l.length) (y : Rw) : rd_T33 (l.set (i : Int).toNat y) (i : Int) = y := by
  rw [Int.toNat_natCast, rdR_at _ i (by rw [List.length_set]; exact h), List.getElem_set_self]
theorem sub_num {r : Rw} {a : Nat} {x : Int} (hs : sm r.f0 r.f1 = true) (ha : a < r.f0.length) (hx : 0 ≤ x ∧ x ≤ 1048576) :
    wrap64 (r.f1 + wrap64 (rd r.f0 (a : Int) * x)) = r.f1 + r.f0.getD a 0 * x := by
  obtain ⟨h1, h2⟩ := sm_get hs
  have e : rd r.f0 (a : Int) = r.f0.getD a 0 := by rw [rd, Int.toNat_natCast]
  have hm : r.f0.getD a 0 ∈ r.f0 := by
    rw [List.getD_eq_getElem?_getD, List.getElem?_eq_getElem ha, Option.getD_some]; exact List.getElem_mem ha
  have hb := mul_bound (h1 _ hm) hx
  rw [e, wrap_id (n := r.f0.getD a 0 * x) (by omega) (by omega), wrap_id (by omega) (by omega)]
def okS (a : Nat) (x : Int) (r : Rw) : Bool := inN (r.f1 + r.f0.getD a 0 * x)
theorem substitute_l0 (v : Int) (rs : List Rw) (a : Nat) (x : Int) (hx : 0 ≤ x ∧ x ≤ 1048576) (hn : rs.length ≤ 192) (hr : ∀ r ∈ rs, a < r.f0.length ∧ sm r.f0 r.f1 = true) (d : Nat) : ∀ i : Nat, i + d = rs.length →
    Ev (fun k => linear_Substitute.l0 k (a : Int) x (rs.length : Int) (i : Int) v (partR (subm a x) rs i)) (if (rs.drop i).all (okS a x) = true then (v, rs.map (subm a x), 0) else (0, [], 4)) := by
  induction d with
  | zero =>
    intro i hi
    refine Ev.step (f := fun _ => some (v, rs.map (subm a x), 0)) (fun k => ?_) (ev_eq (Ev.now _) ?_)
    · simp only [linear_Substitute.l0]; rw [if_neg (by omega), partR_all _ _ _ (by omega)]
    · rw [List.drop_eq_nil_of_le (by omega)]; rfl
  | succ d ih =>
    intro i hi
    have hlt : i < rs.length := by omega
    obtain ⟨ha, hs⟩ := hr _ (List.getElem_mem hlt)
    have hpl : i < (partR (subm a x) rs i).length := by rw [partR_len]; exact hlt
    refine Ev.step (f := fun k => if okS a x rs[i] = true then linear_Substitute.l0 k (a : Int) x (rs.length : Int) ((i + 1 : Nat) : Int) v (partR (subm a x) rs (i + 1)) else some (0, [], 4)) (fun k => ?_) ?_
    · simp only [linear_Substitute.l0]
      rw [if_pos (by omega), if_pos (by omega), if_pos (by omega), if_pos (by omega), partR_get _ _ _ hlt, if_pos (by omega), sub_num hs ha hx]
      simp only [Option.bind_some]
      rw [rdR_set _ i hpl, if_pos (show (a : Int) < (rs[i].f0.length : Int) by omega)]
      simp only [Option.bind_some]
      rw [List.set_set, rdR_set _ i hpl]
      simp only [Int.toNat_natCast]
      rw [within_eq, wrap_next hlt (by omega)]
      simp only [Option.bind_some]
      rw [show okS a x rs[i] = inN (rs[i].f1 + rs[i].f0.getD a 0 * x) from rfl]
      congr 1
      have e := partR_set (subm a x) rs i hlt _ rfl
      rw [Int.toNat_natCast] at e
      rw [← e]
      rfl
    · rw [List.drop_eq_getElem_cons hlt, List.all_cons]
      refine ev_ite _ (fun h => ?_) (fun h => ?_)
      · rw [h, Bool.true_and]; exact ih (i + 1) (by omega)
      · rw [Bool.not_eq_true] at h; rw [h, Bool.false_and]; exact Ev.now _
def subst (v : Int) (rs : List Rw) (a x : Int) : Int × List Rw × Int :=
  if valid v rs = 0 then (if 0 ≤ a ∧ a < v ∧ 0 ≤ x ∧ x ≤ 1048576 then (if rs.all (okS a.toNat x) = true then (v, rs.map (subm a.toNat x), 0) else (0, [], 4)) else (0, [], 1)) else (0, [], valid v rs)
theorem same_l0' (v : Int) (rs : List Rw) (hr : okRows rs) (d : Nat) : ∀ i : Nat, i + d = rs.length → Ev (fun k => linear_same.l0 k rs (rs.length : Int) (i : Int) v (rs.take i)) (v, rs) := by
  have hn := hr.1
  induction d with
  | zero =>
    intro i hi
    refine Ev.step (f := fun _ => some (v, rs)) (fun k => ?_) (Ev.now _)
    simp only [linear_same.l0]; rw [if_neg (by omega), List.take_of_length_le (by omega)]
  | succ d ih =>
    intro i hi
    have hlt : i < rs.length := by omega
    have hm := hr.2 _ (List.getElem_mem hlt)
    refine Ev.step (f := fun k => linear_same.l0 k rs (rs.length : Int) ((i + 1 : Nat) : Int) v (rs.take (i + 1))) (fun k => ?_) (ih (i + 1) (by omega))
    simp only [linear_same.l0]
    rw [if_pos (by omega), if_pos (by omega), if_pos (by omega), rdR_at rs i hlt, clone_eq _ _ (by omega), wrap_next hlt (by omega)]
    simp only [Option.bind_some]
    rw [if_pos (by rw [List.length_take]; omega), List.take_succ_eq_append_getElem hlt]
theorem same_ev' (v : Int) (rs : List Rw) (hr : okRows rs) : Ev (fun k => linear_same.f k v rs) (v, rs) := by
  have h := same_l0' v rs hr rs.length 0 (by omega)
  rw [List.take_zero] at h
  exact h
theorem substitute_ev (v : Int) (rs : List Rw) (a x : Int) (hr : okRows rs) : Ev (fun k => linear_Substitute.f k v rs a x) (subst v rs a x) := by
  have hbad : ∀ {b : Bool}, b = true → ¬ (0 ≤ a ∧ a < v ∧ 0 ≤ x ∧ x ≤ 1048576) → valid v rs = 0 → Ev (fun k => linear_Substitute.j0 k a x b v rs) (subst v rs a x) := by
    intro b hb hn hv
    subst hb
    refine Ev.step (f := fun _ => some (0, [], 1)) (fun k => ?_) (ev_eq (Ev.now _) ?_)
    · simp only [linear_Substitute.j0]; rfl
    · unfold subst; rw [if_pos hv, if_neg hn]
  unfold linear_Substitute.f
  refine ev_bind (validate_ev v rs hr) (ev_ite _ (fun hv => ?_) (fun hv => ?_))
  · refine ev_ite _ (fun h1 => hbad rfl (by omega) hv) (fun h1 => ev_ite _ (fun h2 => hbad rfl (by omega) hv) (fun h2 => ev_ite _ (fun h3 => hbad rfl (by omega) hv) (fun h3 => ?_)))
    by_cases h4 : x > 1048576
    · exact hbad (by simpa using h4) (by omega) hv
    · obtain ⟨j, rfl⟩ := Int.eq_ofNat_of_zero_le (show 0 ≤ a by omega)
      obtain ⟨hv0, hv1, hv2, hv3⟩ := valid_ok hv
      refine Ev.step (f := fun k => (linear_same.f k v rs).bind fun b => linear_Substitute.l0 k (j : Int) x (b.2.length : Int) 0 b.1 b.2) (fun k => ?_) (ev_bind (same_ev' v rs hr) ?_)
      · simp only [linear_Substitute.j0]; rw [if_neg (by simpa using h4)]
      · have h := substitute_l0 v rs j x (by omega) hv2 (fun r hm => ⟨by have := hv1 r hm; omega, hv3 r hm⟩) rs.length 0 (by omega)
        rw [partR_zero, List.drop_zero] at h
        refine ev_eq h ?_
        unfold subst
        rw [if_pos hv, if_pos (show 0 ≤ (j : Int) ∧ (j : Int) < v ∧ 0 ≤ x ∧ x ≤ 1048576 by omega), Int.toNat_natCast]
  · refine ev_eq (Ev.now _) ?_
    unfold subst; rw [if_neg hv]
theorem valid_sub {v : Int} {rs : List Rw} {a : Nat} {x : Int} (hv : valid v rs = 0) (ha : (a : Int) < v) : valid v (rs.map (subm a x)) = 0 ↔ rs.all (okS a x) = true := by
  obtain ⟨hv0, hv1, hv2, hv3⟩ := valid_ok hv
  constructor
  · intro h
    obtain ⟨_, _, _, h3⟩ := valid_ok h
    rw [List.all_eq_true]
    intro r hr
    exact inN_iff.2 (sm_get (h3 _ (List.mem_map_of_mem hr))).2
  · intro h
    rw [List.all_eq_true] at h
    refine valid_mk hv0 (fun r hr => ?_) (by rw [List.length_map]; exact hv2) (fun r hr => ?_)
    · obtain ⟨r', h', rfl⟩ := List.mem_map.1 hr
      have := hv1 _ h'
      simpa [subm] using this
    · obtain ⟨r', h', rfl⟩ := List.mem_map.1 hr
      refine sm_mk (fun y hy => ?_) (inN_iff.1 (h _ h'))
      rcases List.mem_or_eq_of_mem_set hy with hy | hy
      · exact (sm_get (hv3 _ h')).1 y hy
      · subst hy; omega
theorem subst_rows (v : Int) (rs : List Rw) (a x : Int) (hr : okRows rs) : okRows (subst v rs a x).2.1 := by
  have h0 : okRows ([] : List Rw) := ⟨by simp, fun r h => by cases h⟩
  unfold subst
  split
  · split
    · split
      · refine ⟨by rw [List.length_map]; exact hr.1, fun r h => ?_⟩
        obtain ⟨r', h', rfl⟩ := List.mem_map.1 h
        have := hr.2 _ h'
        simpa [subm] using this
      · exact h0
    · exact h0
  · exact h0
end Go.Proofs.YtbioiodjdfcooaaDoor.P
