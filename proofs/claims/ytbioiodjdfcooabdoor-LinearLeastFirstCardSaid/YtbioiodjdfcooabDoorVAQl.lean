/- Plain facts: points as numerals, Least of both sides. -/
import Derived.Test.YtbioiodjdfcooabDoorVAPx0
import Derived.Test.YtbioiodjdfcooabDoorVAPx4
import Derived.Test.YtbioiodjdfcooabDoorVAPx8
import Derived.Test.YtbioiodjdfcooabDoorVAQb
namespace Go.Proofs.YtbioiodjdfcooabDoor.P
open Go.RowKit Go.Proofs.YtbioiodjdfcooabDoorW.PrintWords Go.Proofs.YtbioiodjdfcooabDoorW.PrintLast Go.Proofs.YtbioiodjdfcooabDoorW.PrintMore
set_option linter.unusedVariables false
/-! ### numerals -/
/-- The last n digits of k to the base B, the first ahead. -/
def dg (B : Nat) : Nat → Nat → List Int
  | 0, _ => []
  | n + 1, k => dg B n (k / B) ++ [((k % B : Nat) : Int)]
theorem dg_len (B : Nat) : ∀ n k, (dg B n k).length = n
  | 0, _ => rfl
  | n + 1, k => by rw [dg, List.length_append, dg_len B n]; rfl
theorem dg_in (B : Nat) (hB : 0 < B) : ∀ n k, ∀ x ∈ dg B n k, 0 ≤ x ∧ x < B
  | 0, _, x, h => by rw [dg] at h; cases h
  | n + 1, k, x, h => by
    rw [dg, List.mem_append] at h
    rcases h with h | h
    · exact dg_in B hB n _ x h
    · rw [List.mem_singleton] at h
      have := Nat.mod_lt k hB
      omega
theorem dg_app (B : Nat) (hB : 0 < B) (n q : Nat) : ∀ m, dg B (n + m) (q * B ^ m) = dg B n q ++ List.replicate m 0
  | 0 => by simp
  | m + 1 => by
    rw [← Nat.add_assoc, dg, Nat.pow_succ, ← Nat.mul_assoc, Nat.mul_div_cancel _ hB, dg_app B hB n q m, Nat.mul_mod_left, List.replicate_succ', List.append_assoc]; rfl
theorem dg_zero (B : Nat) (hB : 0 < B) (n : Nat) : dg B n 0 = List.replicate n 0 := by
  have h := dg_app B hB 0 0 n
  rw [Nat.zero_mul, Nat.zero_add, dg, List.nil_append] at h
  exact h

/-! ### the size -/
/-- The number of points, unless it is above 100000. -/
def size (B : Nat) : Nat → Nat → Option Nat
  | 0, s => some s
  | d + 1, s => if s * B > 100000 then none else size B d (s * B)
theorem size_some (B : Nat) : ∀ d s S, size B d s = some S → s ≤ 100000 → S = s * B ^ d ∧ S ≤ 100000
  | 0, s, S, h, hs => by rw [size] at h; obtain rfl := Option.some.inj h; exact ⟨by simp, hs⟩
  | d + 1, s, S, h, hs => by
    rw [size] at h
    by_cases h0 : s * B > 100000
    · rw [if_pos h0] at h; cases h
    · rw [if_neg h0] at h
      obtain ⟨h1, h2⟩ := size_some B d (s * B) S h (by omega)
      refine ⟨?_, h2⟩
      rw [h1, Nat.pow_succ, Nat.mul_assoc, Nat.mul_comm B]

/-! ### the search -/
def find (P : Nat → Bool) : Nat → Nat → Option Nat
  | 0, _ => none
  | d + 1, k => if P k = true then some k else find P d (k + 1)
def hit (v : Int) (rs : List Rw) (B k : Nat) : Bool := rs.all fun r => decide (0 ≤ sumW r.f0 (dg B v.toNat k) r.f1)
def told (v : Int) (B : Nat) : Option Nat → List Int × Bool × Int
  | some k => (dg B v.toNat k, true, 0)
  | none => ([], false, 0)
def least (v : Int) (rs : List Rw) (bound : Int) : List Int × Bool × Int :=
  if valid v rs = 0 then (if 0 ≤ bound ∧ bound ≤ 1048576 then (match size (bound.toNat + 1) v.toNat 1 with | some S => told v (bound.toNat + 1) (find (hit v rs (bound.toNat + 1)) S 0) | none => ([], false, 4)) else ([], false, 1)) else ([], false, valid v rs)
theorem pt_dg (B : Nat) (hB : 0 < B) (hB1 : B ≤ 1048577) (n k : Nat) : pt (dg B n k) = true := by
  unfold pt
  rw [List.all_eq_true]
  intro x hx
  have := dg_in B hB n k x hx
  exact ptN_iff.2 (by omega)
theorem sat_hit (v : Int) (rs : List Rw) (hv : valid v rs = 0) (B : Nat) (hB : 0 < B) (hB1 : B ≤ 1048577) (k : Nat) : sat v rs (dg B v.toNat k) = hit v rs B k := by
  have h := valid_ok hv
  unfold sat hit
  rw [decide_eq_true hv, dg_len, decide_eq_true (by omega), pt_dg B hB hB1, Bool.true_and, Bool.true_and, Bool.true_and]

/-! ### linear.Least -/
theorem set_mid (A : List Int) (x y : Int) (Z : List Int) (i : Nat) (hi : i = A.length) : (A ++ [x] ++ Z).set i y = A ++ [y] ++ Z := by
  subst hi
  rw [List.append_assoc, List.set_append_right _ _ (by omega), Nat.sub_self, List.append_assoc]; rfl
theorem rd_mid (A : List Int) (x : Int) (Z : List Int) (i : Nat) (hi : i = A.length) : rd (A ++ [x] ++ Z) (i : Int) = x := by
  subst hi
  rw [rd_at _ _ (by simp)]; simp
theorem least_l2 (v : Int) (rs : List Rw) (bound : Int) (hv : valid v rs = 0) (hb0 : 0 ≤ bound) (hb1 : bound ≤ 1048576) (S : Nat) (hS : S = (bound.toNat + 1) ^ v.toNat) (k : Nat) (hk : k < S) (R : List Int × Bool × Int) (hnext : k + 1 < S → Ev (fun f => linear_Least.l1 f bound (dg (bound.toNat + 1) v.toNat (k + 1)) v rs) R) (hend : k + 1 = S → R = ([], false, 0)) :
    ∀ (n m q : Nat), n + m = v.toNat → k + 1 = (q + 1) * (bound.toNat + 1) ^ m → Ev (fun f => linear_Least.l2 f bound (dg (bound.toNat + 1) n q ++ List.replicate m 0) ((n : Int) - 1) v rs) R := by
  intro n
  have hB : 0 < bound.toNat + 1 := by omega
  have h96 := (valid_ok hv).1
  induction n with
  | zero =>
    intro m q hnm hq
    have e1 : (bound.toNat + 1) ^ m = S := by rw [hS]; congr 1; omega
    have hq0 : q = 0 := by
      by_cases h : q = 0
      · exact h
      · exfalso
        have : 2 * (bound.toNat + 1) ^ m ≤ (q + 1) * (bound.toNat + 1) ^ m := Nat.mul_le_mul_right _ (by omega)
        omega
    subst hq0
    refine Ev.step (f := fun _ => some ([], false, 0)) (fun f => ?_) (ev_eq (Ev.now _) (hend (by omega)).symm)
    simp only [linear_Least.l2]; rw [if_neg (by omega)]
  | succ n ih =>
    intro m q hnm hq
    have e0 : (((n + 1 : Nat) : Int) - 1) = ((n : Nat) : Int) := by omega
    rw [e0]
    have hlen : (dg (bound.toNat + 1) n (q / (bound.toNat + 1)) ++ [((q % (bound.toNat + 1) : Nat) : Int)] ++ List.replicate m 0).length = v.toNat := by
      rw [List.length_append, List.length_append, dg_len, List.length_replicate, List.length_singleton]; omega
    have hmod := Nat.mod_lt q hB
    have hdiv := Nat.div_add_mod q (bound.toNat + 1)
    by_cases h : q % (bound.toNat + 1) < bound.toNat
    · have e1 : (q + 1) / (bound.toNat + 1) = q / (bound.toNat + 1) := by
        conv => lhs; rw [← hdiv]
        rw [Nat.add_assoc, Nat.mul_add_div hB, Nat.div_eq_of_lt (a := q % (bound.toNat + 1) + 1) (by omega), Nat.add_zero]
      have e2 : (q + 1) % (bound.toNat + 1) = q % (bound.toNat + 1) + 1 := by
        conv => lhs; rw [← hdiv]
        rw [Nat.add_assoc, Nat.mul_add_mod, Nat.mod_eq_of_lt (a := q % (bound.toNat + 1) + 1) (by omega)]
      have e3 : dg (bound.toNat + 1) v.toNat (k + 1) = dg (bound.toNat + 1) n (q / (bound.toNat + 1)) ++ [((q % (bound.toNat + 1) + 1 : Nat) : Int)] ++ List.replicate m 0 := by
        rw [hq, ← hnm, dg_app _ hB, dg, e1, e2]
      have hlt : k + 1 < S := by
        by_cases h2 : k + 1 < S
        · exact h2
        · exfalso
          have h3 : (q + 1) * (bound.toNat + 1) ^ m = (bound.toNat + 1) ^ (n + 1) * (bound.toNat + 1) ^ m := by
            rw [← hq, ← Nat.pow_add, hnm, ← hS]; omega
          have h4 := Nat.eq_of_mul_eq_mul_right (Nat.pow_pos hB) h3
          have h5 : (q + 1) % (bound.toNat + 1) = 0 := by rw [h4, Nat.pow_succ, Nat.mul_mod_left]
          omega
      refine Ev.step (f := fun f => linear_Least.l1 f bound (dg (bound.toNat + 1) v.toNat (k + 1)) v rs) (fun f => ?_) (hnext hlt)
      simp only [linear_Least.l2]
      rw [dg, if_pos (by omega), if_pos (by omega), if_pos (by omega), rd_mid _ _ _ n (dg_len _ _ _).symm, if_pos (by omega), Int.toNat_natCast, wrap_id (by omega) (by omega), set_mid _ _ _ _ n (dg_len _ _ _).symm, e3]
      rfl
    · have hqm : q % (bound.toNat + 1) = bound.toNat := by omega
      have e4 : q + 1 = (q / (bound.toNat + 1) + 1) * (bound.toNat + 1) := by
        rw [Nat.add_mul, Nat.one_mul, Nat.mul_comm]; omega
      refine Ev.step (f := fun f => linear_Least.l2 f bound (dg (bound.toNat + 1) n (q / (bound.toNat + 1)) ++ List.replicate (m + 1) 0) ((n : Int) - 1) v rs) (fun f => ?_) (ih (m + 1) (q / (bound.toNat + 1)) (by omega) ?_)
      · simp only [linear_Least.l2]
        rw [dg, if_pos (by omega), if_pos (by omega), if_pos (by omega), rd_mid _ _ _ n (dg_len _ _ _).symm, if_neg (by omega), Int.toNat_natCast, set_mid _ _ _ _ n (dg_len _ _ _).symm, wrap_id (by omega) (by omega), List.replicate_succ, List.append_assoc]
        rfl
      · rw [hq, e4, Nat.pow_succ, Nat.mul_assoc, Nat.mul_comm (bound.toNat + 1)]
theorem least_l1 (v : Int) (rs : List Rw) (bound : Int) (hv : valid v rs = 0) (hr : okRows rs) (hb0 : 0 ≤ bound) (hb1 : bound ≤ 1048576) (S : Nat) (hS : S = (bound.toNat + 1) ^ v.toNat) (d : Nat) : ∀ k, k + d + 1 = S → Ev (fun f => linear_Least.l1 f bound (dg (bound.toNat + 1) v.toNat k) v rs) (told v (bound.toNat + 1) (find (hit v rs (bound.toNat + 1)) (d + 1) k)) := by
  have hB : 0 < bound.toNat + 1 := by omega
  have h96 := (valid_ok hv).1
  induction d with
  | zero =>
    intro k hk
    refine Ev.step (f := fun f => (linear_Satisfies.f f v rs (dg (bound.toNat + 1) v.toNat k)).bind fun t => if t = true then some (dg (bound.toNat + 1) v.toNat k, true, 0) else linear_Least.l2 f bound (dg (bound.toNat + 1) v.toNat k) ((v.toNat : Int) - 1) v rs) (fun f => ?_)
      (ev_bind (ev_eq (satisfies_ev v rs _ hr (by rw [dg_len]; omega)) (sat_hit v rs hv _ hB (by omega) k)) (ev_ite _ (fun h => ?_) (fun h => ?_)))
    · simp only [linear_Least.l1]; rw [wrap_id (by omega) (by omega), show v - 1 = (v.toNat : Int) - 1 by omega]
    · rw [find, if_pos h]; exact Ev.now _
    · rw [find, if_neg h, find]
      have := least_l2 v rs bound hv hb0 hb1 S hS k (by omega) (told v (bound.toNat + 1) none) (fun h => by omega) (fun _ => rfl) v.toNat 0 k (by omega) (by simp)
      rw [List.replicate_zero, List.append_nil] at this
      exact this
  | succ d ih =>
    intro k hk
    refine Ev.step (f := fun f => (linear_Satisfies.f f v rs (dg (bound.toNat + 1) v.toNat k)).bind fun t => if t = true then some (dg (bound.toNat + 1) v.toNat k, true, 0) else linear_Least.l2 f bound (dg (bound.toNat + 1) v.toNat k) ((v.toNat : Int) - 1) v rs) (fun f => ?_)
      (ev_bind (ev_eq (satisfies_ev v rs _ hr (by rw [dg_len]; omega)) (sat_hit v rs hv _ hB (by omega) k)) (ev_ite _ (fun h => ?_) (fun h => ?_)))
    · simp only [linear_Least.l1]; rw [wrap_id (by omega) (by omega), show v - 1 = (v.toNat : Int) - 1 by omega]
    · rw [find, if_pos h]; exact Ev.now _
    · rw [find, if_neg h]
      have := least_l2 v rs bound hv hb0 hb1 S hS k (by omega) _ (fun _ => ih (k + 1) (by omega)) (fun h => by omega) v.toNat 0 k (by omega) (by simp)
      rw [List.replicate_zero, List.append_nil] at this
      exact this
theorem least_l0 (v : Int) (rs : List Rw) (bound : Int) (hv : valid v rs = 0) (hr : okRows rs) (hb0 : 0 ≤ bound) (hb1 : bound ≤ 1048576) (R : List Int × Bool × Int) (d : Nat) : ∀ (i s : Nat), (i : Int) + d = v → s ≤ 100000 →
    (∀ S, size (bound.toNat + 1) d s = some S → Ev (fun f => linear_Least.l1 f bound (List.replicate v.toNat 0) v rs) R) → (size (bound.toNat + 1) d s = none → R = ([], false, 4)) →
    Ev (fun f => linear_Least.l0 f bound (s : Int) v (i : Int) v rs) R := by
  have h96 := (valid_ok hv).1
  induction d with
  | zero =>
    intro i s hi hs h1 h2
    refine Ev.step (f := fun f => linear_Least.l1 f bound (List.replicate v.toNat 0) v rs) (fun f => ?_) (h1 s rfl)
    simp only [linear_Least.l0]; rw [if_neg (by omega), if_pos (by omega), if_pos (by omega)]
  | succ d ih =>
    intro i s hi hs h1 h2
    have hmul : s * (bound.toNat + 1) ≤ 100000 * 1048577 := Nat.mul_le_mul hs (by omega)
    have e : wrap64 ((s : Int) * wrap64 (bound + 1)) = ((s * (bound.toNat + 1) : Nat) : Int) := by
      have e1 : wrap64 (bound + 1) = ((bound.toNat + 1 : Nat) : Int) := by rw [wrap_id (by omega) (by omega)]; omega
      rw [e1, ← Int.natCast_mul, wrap_id (by omega) (by omega)]
    rw [size] at h1 h2
    by_cases h : s * (bound.toNat + 1) > 100000
    · refine Ev.step (f := fun _ => some ([], false, 4)) (fun f => ?_) (ev_eq (Ev.now _) (h2 (if_pos h)).symm)
      simp only [linear_Least.l0]; rw [if_pos (by omega), e, if_pos (by omega)]
    · rw [if_neg h] at h1 h2
      refine Ev.step (f := fun f => linear_Least.l0 f bound ((s * (bound.toNat + 1) : Nat) : Int) v ((i + 1 : Nat) : Int) v rs) (fun f => ?_) (ih (i + 1) (s * (bound.toNat + 1)) (by omega) (by omega) h1 h2)
      simp only [linear_Least.l0]; rw [if_pos (by omega), e, if_neg (by omega), wrap_id (n := (i : Int) + 1) (by omega) (by omega)]
      rfl
theorem least_ev (v : Int) (rs : List Rw) (bound : Int) (hr : okRows rs) : Ev (fun f => linear_Least.f f v rs bound) (least v rs bound) := by
  unfold linear_Least.f least
  refine ev_bind (validate_ev v rs hr) (ev_ite _ (fun hv => ?_) (fun hv => ?_))
  · rw [if_pos hv]
    have h96 := (valid_ok hv).1
    by_cases hb0 : bound < 0
    · rw [if_neg (by omega)]
      refine Ev.congr (fun f => if_pos hb0) (Ev.step (f := fun _ => some ([], false, 1)) (fun f => ?_) (Ev.now _))
      simp only [linear_Least.j0]; rfl
    · refine Ev.congr (fun f => if_neg hb0) ?_
      by_cases hb1 : bound > 1048576
      · rw [if_neg (by omega), decide_eq_true hb1]
        refine Ev.step (f := fun _ => some ([], false, 1)) (fun f => ?_) (Ev.now _)
        simp only [linear_Least.j0]; rfl
      · rw [if_pos (by omega), decide_eq_false hb1]
        refine Ev.step (f := fun f => linear_Least.l0 f bound 1 v 0 v rs) (fun f => ?_) ?_
        · simp only [linear_Least.j0]; rfl
        · refine least_l0 v rs bound hv hr (by omega) (by omega) _ v.toNat 0 1 (by omega) (by omega) (fun S hS => ?_) (fun h => by rw [h])
          rw [hS]
          obtain ⟨e1, e2⟩ := size_some _ _ _ _ hS (by omega)
          rw [Nat.one_mul] at e1
          have hpos : 0 < S := by rw [e1]; exact Nat.pow_pos (by omega)
          have := least_l1 v rs bound hv hr (by omega) (by omega) S e1 (S - 1) 0 (by omega)
          rw [dg_zero _ (by omega), show S - 1 + 1 = S by omega] at this
          exact this
  · rw [if_neg hv]; exact Ev.now _
end Go.Proofs.YtbioiodjdfcooabDoor.P
