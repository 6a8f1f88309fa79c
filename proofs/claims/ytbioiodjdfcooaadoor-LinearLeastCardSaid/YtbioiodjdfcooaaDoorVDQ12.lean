/- LinearLeast, plain: the document's Least, and the law. -/
import Derived.Test.YtbioiodjdfcooaaDoorVDPx0
import Derived.Test.YtbioiodjdfcooaaDoorVDPx7
import Derived.Test.YtbioiodjdfcooaaDoorVDPx10
import Derived.Test.YtbioiodjdfcooaaDoorVDPx13
import Derived.Test.YtbioiodjdfcooaaDoorVDPx35
import Derived.Test.YtbioiodjdfcooaaDoorVDYLeast
import Derived.Test.YtbioiodjdfcooaaDoorVDYLeastLaw
import Derived.Test.YtbioiodjdfcooaaDoorVDQl
namespace Go.Proofs.YtbioiodjdfcooaaDoor.P
open Go.RowKit Go.Proofs.YtbioiodjdfcooaaDoorW.PrintWords Go.Proofs.YtbioiodjdfcooaaDoorW.PrintLast Go.Proofs.YtbioiodjdfcooaaDoorW.PrintMore
set_option linter.unusedVariables false
theorem drop_set (l : List Int) (i : Nat) (y : Int) (h : i < l.length) : (l.set i y).drop i = y :: l.drop (i + 1) := by
  rw [List.drop_eq_getElem_cons (by rw [List.length_set]; exact h), List.getElem_set_self, List.drop_set_of_lt (Nat.lt_succ_self i)]
theorem rleast_l3 (v : Int) (rs : List Rw) (bound : Int) (hv : valid v rs = 0) (S : Nat) (hS : S ≤ 100000) (k : Nat) (hk : k < S) (R : List Int × Bool × Int) (hyes : hit v rs (bound.toNat + 1) k = true → R = (dg (bound.toNat + 1) v.toNat k, true, 0))
    (hno : hit v rs (bound.toNat + 1) k = false → Ev (fun f => familycheckref01_Least.l1 f bound (S : Int) (dg (bound.toNat + 1) v.toNat k) ((k + 1 : Nat) : Int) v rs) R) (d : Nat) :
    ∀ (i : Nat) (b : Bool), i + d = rs.length → hit v rs (bound.toNat + 1) k = (b && (rs.drop i).all fun r => decide (0 ≤ sumW r.f0 (dg (bound.toNat + 1) v.toNat k) r.f1)) →
    Ev (fun f => familycheckref01_Least.l3 f bound (S : Int) (dg (bound.toNat + 1) v.toNat k) (k : Int) b (i : Int) v rs) R := by
  have h96 := valid_ok hv
  have hw : wrap64 ((k : Int) + 1) = ((k + 1 : Nat) : Int) := by rw [wrap_id (by omega) (by omega)]; rfl
  induction d with
  | zero =>
    intro i b hi hh
    rw [List.drop_eq_nil_of_le (by omega), List.all_nil, Bool.and_true] at hh
    cases b
    · refine Ev.step (f := fun f => familycheckref01_Least.l1 f bound (S : Int) (dg (bound.toNat + 1) v.toNat k) ((k + 1 : Nat) : Int) v rs) (fun f => ?_) (hno hh)
      simp only [familycheckref01_Least.l3]; rw [if_neg (by omega), if_neg (by simp), hw]
    · refine Ev.step (f := fun f => some (dg (bound.toNat + 1) v.toNat k, true, 0)) (fun f => ?_) (ev_eq (Ev.now _) (hyes hh).symm)
      simp only [familycheckref01_Least.l3]; rw [if_neg (by omega), if_pos trivial]
  | succ d ih =>
    intro i b hi hh
    have hlt : i < rs.length := by omega
    have hm := List.getElem_mem hlt
    have h1 := h96.2.1 _ hm
    cases b
    · refine Ev.step (f := fun f => familycheckref01_Least.l1 f bound (S : Int) (dg (bound.toNat + 1) v.toNat k) ((k + 1 : Nat) : Int) v rs) (fun f => ?_) (hno (by rw [hh, Bool.false_and]))
      simp only [familycheckref01_Least.l3]; rw [if_pos (by omega), if_neg (by simp), hw]
    · refine Ev.step (f := fun f => (familycheckref01_left.f f rs[i].f0 rs[i].f1 (dg (bound.toNat + 1) v.toNat k)).bind fun t => familycheckref01_Least.l3 f bound (S : Int) (dg (bound.toNat + 1) v.toNat k) (k : Int) (decide (t ≥ 0)) ((i + 1 : Nat) : Int) v rs) (fun f => ?_)
        (ev_bind (left_ev rs[i].f0 _ rs[i].f1 (by rw [dg_len]; omega) (by omega)) (ih (i + 1) _ (by omega) ?_))
      · simp only [familycheckref01_Least.l3]
        rw [if_pos (by omega), if_pos trivial, if_pos (by omega), rdR_at rs i hlt, wrap_next hlt (by omega)]
      · rw [hh, List.drop_eq_getElem_cons hlt, List.all_cons, Bool.true_and]
theorem rleast_l2 (v : Int) (rs : List Rw) (bound : Int) (hv : valid v rs = 0) (hb0 : 0 ≤ bound) (hb1 : bound ≤ 1048576) (S : Nat) (k : Nat) (hk : k < S) (R : List Int × Bool × Int) (hnext : Ev (fun f => familycheckref01_Least.l3 f bound (S : Int) (dg (bound.toNat + 1) v.toNat k) (k : Int) true 0 v rs) R) :
    ∀ (n q : Nat) (l : List Int), l.length = v.toNat → n ≤ v.toNat → q ≤ 100000 → dg (bound.toNat + 1) n q ++ l.drop n = dg (bound.toNat + 1) v.toNat k → Ev (fun f => familycheckref01_Least.l2 f bound (S : Int) l (k : Int) (q : Int) ((n : Int) - 1) v rs) R := by
  have h96 := (valid_ok hv).1
  intro n
  induction n with
  | zero =>
    intro q l hl hn hq hd
    rw [dg, List.nil_append, List.drop_zero] at hd
    subst hd
    refine Ev.step (f := fun f => familycheckref01_Least.l3 f bound (S : Int) (dg (bound.toNat + 1) v.toNat k) (k : Int) true 0 v rs) (fun f => ?_) hnext
    simp only [familycheckref01_Least.l2]; rw [if_neg (by omega)]
  | succ n ih =>
    intro q l hl hn hq hd
    have e0 : (((n + 1 : Nat) : Int) - 1) = ((n : Nat) : Int) := by omega
    have e1 : wrap64 (bound + 1) = ((bound.toNat + 1 : Nat) : Int) := by rw [wrap_id (by omega) (by omega)]; omega
    obtain ⟨z, hz⟩ : ∃ z, z = q / (bound.toNat + 1) := ⟨_, rfl⟩
    obtain ⟨y, hy⟩ : ∃ y, y = q % (bound.toNat + 1) := ⟨_, rfl⟩
    have e2 : Int.tmod (q : Int) ((bound.toNat + 1 : Nat) : Int) = (y : Int) := by rw [hy]; exact (Int.ofNat_tmod _ _).symm
    have hle : z ≤ q := by rw [hz]; exact Nat.div_le_self q (bound.toNat + 1)
    have e4 : Int.tdiv (q : Int) ((bound.toNat + 1 : Nat) : Int) = (z : Int) := by rw [hz]; exact (Int.ofNat_tdiv _ _).symm
    rw [dg, List.append_assoc, ← hz, ← hy] at hd
    have hgo := ih z (l.set n (y : Int)) (by rw [List.length_set]; exact hl) (by omega) (by omega) (by rw [drop_set l n _ (by omega)]; exact hd)
    clear hz hy
    rw [e0]
    refine Ev.step (f := fun f => familycheckref01_Least.l2 f bound (S : Int) (l.set n (y : Int)) (k : Int) (z : Int) ((n : Int) - 1) v rs) (fun f => ?_) hgo
    simp only [familycheckref01_Least.l2]
    rw [e1, if_pos (by omega), if_neg (by omega), if_pos (by omega), if_pos (by omega), e2, e4, Int.toNat_natCast, wrap_id (n := (z : Int)) (by omega) (by omega), wrap_id (n := (n : Int) - 1) (by omega) (by omega)]
theorem rleast_l1 (v : Int) (rs : List Rw) (bound : Int) (hv : valid v rs = 0) (hb0 : 0 ≤ bound) (hb1 : bound ≤ 1048576) (S : Nat) (hS : S ≤ 100000) (d : Nat) : ∀ (k : Nat) (l : List Int), l.length = v.toNat → k + d = S → Ev (fun f => familycheckref01_Least.l1 f bound (S : Int) l (k : Int) v rs) (told v (bound.toNat + 1) (find (hit v rs (bound.toNat + 1)) d k)) := by
  have h96 := (valid_ok hv).1
  induction d with
  | zero =>
    intro k l hl hk
    refine Ev.step (f := fun _ => some ([], false, 0)) (fun f => ?_) (Ev.now _)
    simp only [familycheckref01_Least.l1]; rw [if_neg (by omega)]
  | succ d ih =>
    intro k l hl hk
    refine Ev.step (f := fun f => familycheckref01_Least.l2 f bound (S : Int) l (k : Int) (k : Int) ((v.toNat : Int) - 1) v rs) (fun f => ?_)
      (rleast_l2 v rs bound hv hb0 hb1 S k (by omega) _ (rleast_l3 v rs bound hv S hS k (by omega) _ (fun h => ?_) (fun h => ?_) rs.length 0 true (by omega) (by rw [List.drop_zero, Bool.true_and]; rfl)) v.toNat k l hl (Nat.le_refl _) (by omega) (by rw [List.drop_eq_nil_of_le (by omega), List.append_nil]))
    · simp only [familycheckref01_Least.l1]; rw [if_pos (by omega), wrap_id (n := v - 1) (by omega) (by omega), show v - 1 = (v.toNat : Int) - 1 by omega]
    · rw [find, if_pos h]; rfl
    · rw [find, if_neg (by rw [h]; simp)]
      exact ih (k + 1) _ (dg_len _ _ _) (by omega)
theorem rleast_l0 (v : Int) (rs : List Rw) (bound : Int) (hv : valid v rs = 0) (hb0 : 0 ≤ bound) (hb1 : bound ≤ 1048576) (R : List Int × Bool × Int) (d : Nat) : ∀ (i s : Nat), (i : Int) + d = v → s ≤ 100000 →
    (∀ S, size (bound.toNat + 1) d s = some S → Ev (fun f => familycheckref01_Least.l1 f bound (S : Int) (List.replicate v.toNat 0) 0 v rs) R) → (size (bound.toNat + 1) d s = none → R = ([], false, 4)) →
    Ev (fun f => familycheckref01_Least.l0 f bound (s : Int) (i : Int) v rs) R := by
  have h96 := (valid_ok hv).1
  induction d with
  | zero =>
    intro i s hi hs h1 h2
    refine Ev.step (f := fun f => familycheckref01_Least.l1 f bound (s : Int) (List.replicate v.toNat 0) 0 v rs) (fun f => ?_) (h1 s rfl)
    simp only [familycheckref01_Least.l0]; rw [if_neg (by omega), if_pos (by omega), if_pos (by omega)]
  | succ d ih =>
    intro i s hi hs h1 h2
    have hmul : s * (bound.toNat + 1) ≤ 100000 * 1048577 := Nat.mul_le_mul hs (by omega)
    have e : wrap64 ((s : Int) * wrap64 (bound + 1)) = ((s * (bound.toNat + 1) : Nat) : Int) := by
      have e1 : wrap64 (bound + 1) = ((bound.toNat + 1 : Nat) : Int) := by rw [wrap_id (by omega) (by omega)]; omega
      rw [e1, ← Int.natCast_mul, wrap_id (by omega) (by omega)]
    rw [size] at h1 h2
    by_cases h : s * (bound.toNat + 1) > 100000
    · refine Ev.step (f := fun _ => some ([], false, 4)) (fun f => ?_) (ev_eq (Ev.now _) (h2 (if_pos h)).symm)
      simp only [familycheckref01_Least.l0]; rw [if_pos (by omega), e, if_pos (by omega)]
    · rw [if_neg h] at h1 h2
      refine Ev.step (f := fun f => familycheckref01_Least.l0 f bound ((s * (bound.toNat + 1) : Nat) : Int) ((i + 1 : Nat) : Int) v rs) (fun f => ?_) (ih (i + 1) (s * (bound.toNat + 1)) (by omega) (by omega) h1 h2)
      simp only [familycheckref01_Least.l0]; rw [if_pos (by omega), e, if_neg (by omega), wrap_id (n := (i : Int) + 1) (by omega) (by omega)]
      rfl
theorem rleast_ev (v : Int) (rs : List Rw) (bound : Int) (hr : okRows rs) : Ev (fun f => familycheckref01_Least.f f v rs bound) (least v rs bound) := by
  unfold familycheckref01_Least.f least
  rw [rwithin_eq]
  refine ev_bind (rvalidate_ev v rs hr) (ev_ite _ (fun hv => ?_) (fun hv => ?_))
  · rw [if_pos hv]
    have h96 := (valid_ok hv).1
    refine Ev.congr (f := fun f => if (decide (0 ≤ bound) && decide (bound ≤ 1048576)) = true then familycheckref01_Least.l0 f bound 1 0 v rs else some ([], false, 1)) (fun f => rfl) (ev_ite _ (fun hb => ?_) (fun hb => ?_))
    · simp at hb
      rw [if_pos hb]
      refine rleast_l0 v rs bound hv (by omega) (by omega) _ v.toNat 0 1 (by omega) (by omega) (fun S hS => ?_) (fun h => by rw [h])
      rw [hS]
      obtain ⟨e1, e2⟩ := size_some _ _ _ _ hS (by omega)
      exact rleast_l1 v rs bound hv (by omega) (by omega) S e2 S 0 _ (by rw [List.length_replicate]) (by omega)
    · rw [if_neg (fun h => hb (by simp [h]))]; exact Ev.now _
  · rw [if_neg hv]; exact Ev.now _
theorem least_len (v : Int) (rs : List Rw) (bound : Int) : (least v rs bound).1.length ≤ 96 := by
  unfold least told
  split
  · rename_i hv
    have h96 := (valid_ok hv).1
    split
    · split
      · split
        · rw [dg_len]; omega
        · simp
      · simp
    · simp
  · simp
theorem linearLeast_ev (v : Int) (rs : List Rw) (bound : Int) : Ev (fun k => familychecklaw01_LinearLeast.f k v rs bound) true := by
  have hend : ∀ {b : Bool}, b = true → Ev (fun k => familychecklaw01_LinearLeast.j0 k bound b v rs) true := by
    intro b hb
    subst hb
    refine Ev.step (f := fun k => (familychecklaw01_known.f k).bind fun t => some t) (fun k => ?_) known_end
    simp only [familychecklaw01_LinearLeast.j0]; rfl
  unfold familychecklaw01_LinearLeast.f
  obtain ⟨b, hb, hq⟩ := wide_ev v rs
  refine ev_bind hb (ev_ite _ (fun _ => hend rfl) (fun h2 => ?_))
  have hr := hq (by simpa using h2)
  by_cases h3 : (rs.length : Int) > 12
  · exact hend (by simpa using h3)
  · rw [decide_eq_false h3]
    have hl := least_len v rs bound
    refine Ev.step (f := fun k => (linear_Least.f k v rs bound).bind fun a => (familycheckref01_Least.f k v rs bound).bind fun b => if (a.2.1 == b.2.1) = true then (if a.2.2 = b.2.2 then ((familycheckref01_SameInts.f k a.1 b.1).bind fun t => if t = true then ((familychecklaw01_known.f k).bind fun t => some t) else some false) else some false) else some false) (fun k => ?_) ?_
    · simp only [familychecklaw01_LinearLeast.j0]; rfl
    · refine ev_bind (least_ev v rs bound hr) (ev_bind (rleast_ev v rs bound hr) (Ev.congr (fun k => if_pos (by simp)) (Ev.congr (fun k => if_pos rfl) (ev_bind (sameInts_self _ (by omega)) ?_))))
      exact Ev.congr (fun k => if_pos rfl) known_end
end Go.Proofs.YtbioiodjdfcooaaDoor.P
