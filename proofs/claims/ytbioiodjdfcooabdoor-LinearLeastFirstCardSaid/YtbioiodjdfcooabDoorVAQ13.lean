/- LinearLeastFirst, plain. -/
import Derived.Test.YtbioiodjdfcooabDoorVAPx0
import Derived.Test.YtbioiodjdfcooabDoorVAPx4
import Derived.Test.YtbioiodjdfcooabDoorVAPx7
import Derived.Test.YtbioiodjdfcooabDoorVAPx8
import Derived.Test.YtbioiodjdfcooabDoorVAPx9
import Derived.Test.YtbioiodjdfcooabDoorVAPx10
import Derived.Test.YtbioiodjdfcooabDoorVAQl
import Derived.Test.YtbioiodjdfcooabDoorVAQ14
namespace Go.Proofs.YtbioiodjdfcooabDoor.P
open Go.RowKit Go.Proofs.YtbioiodjdfcooabDoorW.PrintWords Go.Proofs.YtbioiodjdfcooabDoorW.PrintLast Go.Proofs.YtbioiodjdfcooabDoorW.PrintMore
set_option linter.unusedVariables false
/-! ### numerals and their order -/
theorem dg_inj (B : Nat) (hB : 0 < B) : ∀ n k j, k < B ^ n → j < B ^ n → dg B n k = dg B n j → k = j
  | 0, k, j, hk, hj, _ => by rw [Nat.pow_zero] at hk hj; omega
  | n + 1, k, j, hk, hj, h => by
    rw [Nat.pow_succ] at hk hj
    rw [dg, dg] at h
    obtain ⟨h1, h2⟩ := List.append_inj' h rfl
    have e1 := dg_inj B hB n (k / B) (j / B) (Nat.div_lt_of_lt_mul (by rw [Nat.mul_comm]; exact hk)) (Nat.div_lt_of_lt_mul (by rw [Nat.mul_comm]; exact hj)) h1
    have e2 : k % B = j % B := by
      have := (List.cons.inj h2).1
      omega
    rw [← Nat.div_add_mod k B, ← Nat.div_add_mod j B, e1, e2]
theorem cmpL_app : ∀ (A C : List Int) (x y : Int), A.length = C.length → cmpL (A ++ [x]) (C ++ [y]) = if cmpL A C = 0 then cmpI x y else cmpL A C
  | [], [], x, y, _ => by
    rw [List.nil_append, List.nil_append, cmpL, cmpL, if_pos rfl]
    by_cases h : cmpI x y = 0
    · rw [if_pos h, h]; rfl
    · rw [if_neg h]
  | [], _ :: _, _, _, h => by simp at h
  | _ :: _, [], _, _, h => by simp at h
  | a :: A, c :: C, x, y, h => by
    rw [List.cons_append, List.cons_append, cmpL, cmpL, cmpL_app A C x y (by simpa using h)]
    by_cases h0 : cmpI a c = 0
    · rw [if_pos h0, if_pos h0]
    · rw [if_neg h0, if_neg h0, if_neg h0]
theorem dg_le (B : Nat) (hB : 0 < B) : ∀ n k j, k ≤ j → j < B ^ n → cmpL (dg B n k) (dg B n j) ≤ 0
  | 0, k, j, _, _ => by rw [dg, dg, cmpL]; omega
  | n + 1, k, j, hkj, hj => by
    rw [Nat.pow_succ] at hj
    have hj' : j / B < B ^ n := Nat.div_lt_of_lt_mul (by rw [Nat.mul_comm]; exact hj)
    have hd : k / B ≤ j / B := Nat.div_le_div_right hkj
    have ih := dg_le B hB n (k / B) (j / B) hd hj'
    rw [dg, dg, cmpL_app _ _ _ _ (by rw [dg_len, dg_len])]
    by_cases h : cmpL (dg B n (k / B)) (dg B n (j / B)) = 0
    · rw [if_pos h, cmpI_le]
      have e := dg_inj B hB n _ _ (by omega) hj' (cmpL_zero h)
      have h1 := Nat.div_add_mod k B
      have h2 := Nat.div_add_mod j B
      rw [e] at h1
      omega
    · rw [if_neg h]; exact ih
theorem dg_has (B : Nat) (hB : 0 < B) : ∀ (n : Nat) (p : List Int), p.length = n → (∀ x ∈ p, 0 ≤ x ∧ x < B) → ∃ k, k < B ^ n ∧ dg B n k = p
  | 0, p, hp, _ => ⟨0, by simp, by rw [dg]; exact (List.eq_nil_of_length_eq_zero hp).symm⟩
  | n + 1, p, hp, hx => by
    have hne : p ≠ [] := by intro h; rw [h] at hp; simp at hp
    have hsplit := List.dropLast_concat_getLast hne
    have hlast := hx (p.getLast hne) (List.getLast_mem hne)
    obtain ⟨k, hk, hd⟩ := dg_has B hB n p.dropLast (by rw [List.length_dropLast]; omega) (fun x h => hx x (List.dropLast_subset _ h))
    obtain ⟨y, hy⟩ : ∃ y : Nat, p.getLast hne = (y : Int) := ⟨(p.getLast hne).toNat, by omega⟩
    rw [hy] at hlast hsplit
    have hyB : y < B := by omega
    have e1 : (B * k + y) / B = k := by rw [Nat.mul_add_div hB, Nat.div_eq_of_lt hyB, Nat.add_zero]
    have e2 : (B * k + y) % B = y := by rw [Nat.mul_add_mod, Nat.mod_eq_of_lt hyB]
    refine ⟨B * k + y, ?_, ?_⟩
    · have h3 : B * (k + 1) ≤ B * B ^ n := Nat.mul_le_mul_left B hk
      rw [Nat.pow_succ, Nat.mul_comm (B ^ n) B]
      rw [Nat.mul_add, Nat.mul_one] at h3
      omega
    · rw [dg, e1, e2, hd]; exact hsplit
/-! ### the search -/
theorem find_some (P : Nat → Bool) : ∀ d k j, find P d k = some j → P j = true ∧ k ≤ j ∧ j < k + d ∧ ∀ i, k ≤ i → i < j → P i = false
  | 0, k, j, h => by rw [find] at h; cases h
  | d + 1, k, j, h => by
    rw [find] at h
    by_cases h0 : P k = true
    · rw [if_pos h0] at h
      obtain rfl := Option.some.inj h
      exact ⟨h0, by omega, by omega, fun i h1 h2 => by omega⟩
    · rw [if_neg h0] at h
      obtain ⟨h1, h2, h3, h4⟩ := find_some P d (k + 1) j h
      refine ⟨h1, by omega, by omega, fun i hi hj => ?_⟩
      by_cases e : i = k
      · subst e; simpa using h0
      · exact h4 i (by omega) hj
theorem find_none (P : Nat → Bool) : ∀ d k, find P d k = none → ∀ i, k ≤ i → i < k + d → P i = false
  | 0, k, _, i, h1, h2 => by omega
  | d + 1, k, h, i, h1, h2 => by
    rw [find] at h
    by_cases h0 : P k = true
    · rw [if_pos h0] at h; cases h
    · rw [if_neg h0] at h
      by_cases e : i = k
      · subst e; simpa using h0
      · exact find_none P d (k + 1) h i (by omega) (by omega)
theorem least_bad (v : Int) (rs : List Rw) (bound : Int) (h : (least v rs bound).2.2 ≠ 0) : (least v rs bound).1 = [] ∧ (least v rs bound).2.1 = false := by
  by_cases h1 : valid v rs = 0
  · by_cases h2 : 0 ≤ bound ∧ bound ≤ 1048576
    · cases hS : size (bound.toNat + 1) v.toNat 1 with
      | none => unfold least; rw [if_pos h1, if_pos h2, hS]; exact ⟨rfl, rfl⟩
      | some S =>
        exfalso
        apply h
        unfold least
        rw [if_pos h1, if_pos h2, hS]
        show (told v (bound.toNat + 1) (find (hit v rs (bound.toNat + 1)) S 0)).2.2 = 0
        cases find (hit v rs (bound.toNat + 1)) S 0 <;> rfl
    · unfold least; rw [if_pos h1, if_neg h2]; exact ⟨rfl, rfl⟩
  · unfold least; rw [if_neg h1]; exact ⟨rfl, rfl⟩
theorem least_ok (v : Int) (rs : List Rw) (bound : Int) (h : (least v rs bound).2.2 = 0) :
    valid v rs = 0 ∧ 0 ≤ bound ∧ bound ≤ 1048576 ∧ least v rs bound = told v (bound.toNat + 1) (find (hit v rs (bound.toNat + 1)) ((bound.toNat + 1) ^ v.toNat) 0) := by
  unfold least at h ⊢
  by_cases h1 : valid v rs = 0
  · rw [if_pos h1] at h ⊢
    by_cases h2 : 0 ≤ bound ∧ bound ≤ 1048576
    · rw [if_pos h2] at h ⊢
      cases hS : size (bound.toNat + 1) v.toNat 1 with
      | none => rw [hS] at h; simp at h
      | some S =>
        have e := (size_some _ _ _ _ hS (by omega)).1
        rw [Nat.one_mul] at e
        subst e
        exact ⟨h1, h2.1, h2.2, rfl⟩
    · rw [if_neg h2] at h; simp at h
  · rw [if_neg h1] at h; exact absurd h h1
theorem compareInts_ev (l m : List Int) (hn : l.length ≤ 4611686018427387904) : Ev (fun k => familycheckref01_CompareInts.f k l m) (cmpL l m) := by
  have h := compareR_l0 l m hn l.length 0 (by omega) (by omega)
  rw [List.drop_zero, List.drop_zero] at h
  exact h
/-! ### the law -/
def ins (v : Int) (rs : List Rw) (bound : Int) (q : List Int) : Bool := sat v rs q && q.all fun x => decide (x ≤ bound)
theorem first_l0 (v : Int) (rs : List Rw) (bound : Int) (q p : List Int) (ok : Bool) (hq : q.length ≤ 200)
    (hyes : ok = true → Ev (fun k => familychecklaw01_LinearLeastFirst.l1 k bound q p (ins v rs bound q) 0 v rs) true) (hno : ok = false → ins v rs bound q = false ∧ p = []) (d : Nat) :
    ∀ (i : Nat) (b : Bool), i + d = q.length → ins v rs bound q = (b && (q.drop i).all fun x => decide (x ≤ bound)) → Ev (fun k => familychecklaw01_LinearLeastFirst.l0 k bound q p ok b (i : Int) v rs) true := by
  induction d with
  | zero =>
    intro i b hi hb
    rw [List.drop_eq_nil_of_le (by omega), List.all_nil, Bool.and_true] at hb
    subst hb
    cases ok
    · obtain ⟨h1, h2⟩ := hno rfl
      subst h2
      refine Ev.step (f := fun k => (familychecklaw01_known.f k).bind fun t => some t) (fun k => ?_) known_end
      simp only [familychecklaw01_LinearLeastFirst.l0]; rw [if_neg (by omega), if_neg (by simp), h1, if_neg (by simp), if_pos (by simp)]
    · refine Ev.step (f := fun k => familychecklaw01_LinearLeastFirst.l1 k bound q p (ins v rs bound q) 0 v rs) (fun k => ?_) (hyes rfl)
      simp only [familychecklaw01_LinearLeastFirst.l0]; rw [if_neg (by omega), if_pos trivial]
  | succ d ih =>
    intro i b hi hb
    have hlt : i < q.length := by omega
    cases b
    · refine Ev.step (f := fun k => familychecklaw01_LinearLeastFirst.l0 k bound q p ok false ((i + 1 : Nat) : Int) v rs) (fun k => ?_) (ih (i + 1) false (by omega) (by rw [hb, Bool.false_and, Bool.false_and]))
      simp only [familychecklaw01_LinearLeastFirst.l0]; rw [if_pos (by omega), if_neg (by simp), wrap_next hlt (by omega)]
    · refine Ev.step (f := fun k => familychecklaw01_LinearLeastFirst.l0 k bound q p ok (decide (q[i] ≤ bound)) ((i + 1 : Nat) : Int) v rs) (fun k => ?_) (ih (i + 1) _ (by omega) ?_)
      · simp only [familychecklaw01_LinearLeastFirst.l0]; rw [if_pos (by omega), if_pos trivial, if_pos (by omega), rd_at q i hlt, wrap_next hlt (by omega)]
      · rw [hb, List.drop_eq_getElem_cons hlt, List.all_cons, Bool.true_and]
theorem first_l1 (v : Int) (rs : List Rw) (bound : Int) (q p : List Int) (b : Bool) (hr : okRows rs) (hp : p.length ≤ 200) (hq : q.length ≤ 200) (hin : ∀ x ∈ p, x ≤ bound) (hsat : sat v rs p = true) (hb : b = true → cmpL p q ≤ 0) (d : Nat) :
    ∀ i : Nat, i + d = p.length → Ev (fun k => familychecklaw01_LinearLeastFirst.l1 k bound q p b (i : Int) v rs) true := by
  induction d with
  | zero =>
    intro i hi
    refine Ev.step (f := fun k => (linear_Satisfies.f k v rs p).bind fun t => if t = true then (if b = true then ((familycheckref01_CompareInts.f k p q).bind fun t => if t ≤ 0 then ((familychecklaw01_known.f k).bind fun t => some t) else some false) else ((familychecklaw01_known.f k).bind fun t => some t)) else some false) (fun k => ?_) (ev_bind (ev_eq (satisfies_ev v rs p hr (by omega)) hsat) (Ev.congr (fun k => if_pos rfl) (ev_ite _ (fun h => ?_) (fun _ => known_end))))
    · simp only [familychecklaw01_LinearLeastFirst.l1]; rw [if_neg (by omega)]
    · exact ev_bind (compareInts_ev p q (by omega)) (Ev.congr (fun k => if_pos (hb h)) known_end)
  | succ d ih =>
    intro i hi
    have hlt : i < p.length := by omega
    have := hin _ (List.getElem_mem hlt)
    refine Ev.step (f := fun k => familychecklaw01_LinearLeastFirst.l1 k bound q p b ((i + 1 : Nat) : Int) v rs) (fun k => ?_) (ih (i + 1) (by omega))
    simp only [familychecklaw01_LinearLeastFirst.l1]; rw [if_pos (by omega), if_pos (by omega), rd_at p i hlt, if_neg (by omega), wrap_next hlt (by omega)]
theorem ins_has (v : Int) (rs : List Rw) (bound : Int) (q : List Int) (hv : valid v rs = 0) (hb0 : 0 ≤ bound) (hb1 : bound ≤ 1048576) (h : ins v rs bound q = true) :
    ∃ j, j < (bound.toNat + 1) ^ v.toNat ∧ hit v rs (bound.toNat + 1) j = true ∧ q = dg (bound.toNat + 1) v.toNat j := by
  have h96 := (valid_ok hv).1
  unfold ins at h
  rw [Bool.and_eq_true, List.all_eq_true] at h
  have hs := h.1
  have hs' := hs
  unfold sat at hs'
  simp only [Bool.and_eq_true, decide_eq_true_eq] at hs'
  have hpt := pt_get hs'.2.2.1
  obtain ⟨j, hj, hd⟩ := dg_has (bound.toNat + 1) (by omega) v.toNat q (by omega) (fun x hx => by
    have h1 := h.2 x hx
    have h2 := hpt x hx
    rw [decide_eq_true_eq] at h1
    omega)
  refine ⟨j, hj, ?_, hd.symm⟩
  rw [← sat_hit v rs hv _ (by omega) (by omega), hd]; exact hs
theorem linearLeastFirst_ev (v : Int) (rs : List Rw) (bound : Int) (q : List Int) : Ev (fun k => familychecklaw01_LinearLeastFirst.f k v rs bound q) true := by
  have hend : ∀ {b : Bool}, b = true → Ev (fun k => familychecklaw01_LinearLeastFirst.j0 k bound q b v rs) true := by
    intro b hb
    subst hb
    refine Ev.step (f := fun k => (familychecklaw01_known.f k).bind fun t => some t) (fun k => ?_) known_end
    simp only [familychecklaw01_LinearLeastFirst.j0]; rfl
  unfold familychecklaw01_LinearLeastFirst.f
  obtain ⟨b, hb, hw⟩ := wide_ev v rs
  refine ev_bind hb (ev_ite _ (fun _ => hend rfl) (fun h2 => ?_))
  have hr := hw (by simpa using h2)
  refine ev_ite _ (fun _ => hend rfl) (fun h3 => ?_)
  by_cases h4 : (q.length : Int) > 200
  · exact hend (by simpa using h4)
  · rw [decide_eq_false h4]
    refine Ev.step (f := fun k => (linear_Least.f k v rs bound).bind fun a => if a.2.2 = 0 then ((linear_Satisfies.f k v rs q).bind fun t => familychecklaw01_LinearLeastFirst.l0 k bound q a.1 a.2.1 t 0 v rs) else (if a.2.1 = true then some false else (if (a.1.length : Int) = 0 then ((familychecklaw01_known.f k).bind fun t => some t) else some false))) (fun k => ?_) (ev_bind (least_ev v rs bound hr) (ev_ite _ (fun h5 => ?_) (fun h5 => ?_)))
    · simp only [familychecklaw01_LinearLeastFirst.j0]; rfl
    · obtain ⟨hv, hb0, hb1, e⟩ := least_ok v rs bound h5
      have h96 := (valid_ok hv).1
      refine ev_bind (satisfies_ev v rs q hr (by omega)) ?_
      have hins : ins v rs bound q = (sat v rs q && (q.drop 0).all fun x => decide (x ≤ bound)) := by rw [List.drop_zero]; rfl
      cases hf : find (hit v rs (bound.toNat + 1)) ((bound.toNat + 1) ^ v.toNat) 0 with
      | none =>
        rw [hf] at e
        rw [e]
        refine first_l0 v rs bound q [] false (by omega) (fun h => by cases h) (fun _ => ⟨?_, rfl⟩) q.length 0 (sat v rs q) (by omega) hins
        cases hi : ins v rs bound q
        · rfl
        · exfalso
          obtain ⟨j, hj, hh, _⟩ := ins_has v rs bound q hv hb0 hb1 hi
          have := find_none _ _ _ hf j (by omega) (by omega)
          rw [this] at hh; cases hh
      | some j =>
        rw [hf] at e
        obtain ⟨g1, g2, g3, g4⟩ := find_some _ _ _ _ hf
        rw [e]
        refine first_l0 v rs bound q (dg (bound.toNat + 1) v.toNat j) true (by omega) (fun _ => ?_) (fun h => by cases h) q.length 0 (sat v rs q) (by omega) hins
        refine first_l1 v rs bound q _ _ hr (by rw [dg_len]; omega) (by omega) (fun x hx => ?_) (by rw [sat_hit v rs hv _ (by omega) (by omega)]; exact g1) (fun hi => ?_) v.toNat 0 (by rw [dg_len]; omega)
        · have := dg_in _ (by omega) _ _ x hx
          omega
        · obtain ⟨i, hi1, hi2, hi3⟩ := ins_has v rs bound q hv hb0 hb1 hi
          rw [hi3]
          refine dg_le _ (by omega) _ _ _ ?_ hi1
          by_cases hle : j ≤ i
          · exact hle
          · have := g4 i (by omega) (by omega)
            rw [this] at hi2; cases hi2
    · obtain ⟨e1, e2⟩ := least_bad v rs bound h5
      rw [e1, e2]
      exact Ev.congr (fun k => if_neg (by simp)) (Ev.congr (fun k => if_pos (by simp)) known_end)
end Go.Proofs.YtbioiodjdfcooabDoor.P
