/- LinearCompares, plain. -/
import Derived.Test.YtbioiodjdfcooabDoorVAPx0
import Derived.Test.YtbioiodjdfcooabDoorVAPx7
import Derived.Test.YtbioiodjdfcooabDoorVAPx9
import Derived.Test.YtbioiodjdfcooabDoorVAPx11
import Derived.Test.YtbioiodjdfcooabDoorVAPx12
import Derived.Test.YtbioiodjdfcooabDoorVAPx13
import Derived.Test.YtbioiodjdfcooabDoorVAQk
namespace Go.Proofs.YtbioiodjdfcooabDoor.P
open Go.RowKit Go.Proofs.YtbioiodjdfcooabDoorW.PrintWords Go.Proofs.YtbioiodjdfcooabDoorW.PrintLast Go.Proofs.YtbioiodjdfcooabDoorW.PrintMore
set_option linter.unusedVariables false
/-- The order of two numbers, of two rows of numbers, of two rows. -/
def cmpI (a b : Int) : Int := if a < b then -1 else if a > b then 1 else 0
def cmpL : List Int → List Int → Int
  | [], [] => 0
  | [], _ :: _ => -1
  | _ :: _, [] => 1
  | a :: l, b :: m => if cmpI a b = 0 then cmpL l m else cmpI a b
def cmpR (l : List Int) (c : Int) (m : List Int) (e : Int) : Int := if cmpL l m = 0 then cmpI c e else cmpL l m
theorem cmpI_neg (a b : Int) : cmpI b a = -cmpI a b := by unfold cmpI; split <;> split <;> (try split) <;> omega
theorem cmpI_zero {a b : Int} (h : cmpI a b = 0) : a = b := by unfold cmpI at h; split at h <;> (try split at h) <;> omega
theorem cmpI_self (a : Int) : cmpI a a = 0 := by unfold cmpI; rw [if_neg (by omega), if_neg (by omega)]
theorem cmpI_in (a b : Int) : -1 ≤ cmpI a b ∧ cmpI a b ≤ 1 := by unfold cmpI; split <;> (try split) <;> omega
theorem cmpI_le {a b : Int} : cmpI a b ≤ 0 ↔ a ≤ b := by unfold cmpI; split <;> (try split) <;> omega
theorem cmpL_neg : ∀ l m : List Int, cmpL m l = -cmpL l m
  | [], [] => rfl
  | [], _ :: _ => rfl
  | _ :: _, [] => rfl
  | a :: l, b :: m => by
    rw [cmpL, cmpL, cmpI_neg a b, cmpL_neg l m]
    by_cases h : cmpI a b = 0
    · rw [if_pos h, if_pos (by omega)]
    · rw [if_neg h, if_neg (by omega)]
theorem cmpL_zero : ∀ {l m : List Int}, cmpL l m = 0 → l = m
  | [], [], _ => rfl
  | [], _ :: _, h => by rw [cmpL] at h; omega
  | _ :: _, [], h => by rw [cmpL] at h; omega
  | a :: l, b :: m, h => by
    rw [cmpL] at h
    by_cases h0 : cmpI a b = 0
    · rw [if_pos h0] at h; rw [cmpI_zero h0, cmpL_zero h]
    · rw [if_neg h0] at h; exact absurd h h0
theorem cmpL_self : ∀ l : List Int, cmpL l l = 0
  | [] => rfl
  | a :: l => by rw [cmpL, if_pos (cmpI_self a), cmpL_self l]
theorem cmpL_in : ∀ l m : List Int, -1 ≤ cmpL l m ∧ cmpL l m ≤ 1
  | [], [] => by rw [cmpL]; omega
  | [], _ :: _ => by rw [cmpL]; omega
  | _ :: _, [] => by rw [cmpL]; omega
  | a :: l, b :: m => by
    rw [cmpL]; split
    · exact cmpL_in l m
    · exact cmpI_in a b
theorem cmpL_trans : ∀ {l m n : List Int}, cmpL l m ≤ 0 → cmpL m n ≤ 0 → cmpL l n ≤ 0 ∧ (cmpL l n = 0 → cmpL l m = 0 ∧ cmpL m n = 0)
  | [], [], [], _, _ => by simp [cmpL]
  | [], [], _ :: _, _, _ => by simp [cmpL]
  | [], _ :: _, [], _, h => by rw [cmpL] at h; omega
  | [], _ :: _, _ :: _, _, _ => by simp [cmpL]
  | _ :: _, [], _, h, _ => by rw [cmpL] at h; omega
  | _ :: _, _ :: _, [], _, h => by rw [cmpL] at h; omega
  | a :: l, b :: m, d :: n, h1, h2 => by
    simp only [cmpL] at h1 h2 ⊢
    have ha : a ≤ b := by
      rw [← cmpI_le]
      by_cases h : cmpI a b = 0
      · omega
      · rw [if_neg h] at h1; exact h1
    have hb : b ≤ d := by
      rw [← cmpI_le]
      by_cases h : cmpI b d = 0
      · omega
      · rw [if_neg h] at h2; exact h2
    by_cases h : cmpI a d = 0
    · have e := cmpI_zero h
      have e1 : cmpI a b = 0 := by rw [show a = b by omega]; exact cmpI_self b
      have e2 : cmpI b d = 0 := by rw [show b = d by omega]; exact cmpI_self d
      rw [if_pos e1] at h1 ⊢
      rw [if_pos e2] at h2 ⊢
      rw [if_pos h]
      exact cmpL_trans h1 h2
    · rw [if_neg h]
      have := cmpI_le.2 (show a ≤ d by omega)
      exact ⟨this, fun h' => absurd h' h⟩
theorem cmpR_neg (l : List Int) (c : Int) (m : List Int) (e : Int) : cmpR m e l c = -cmpR l c m e := by
  unfold cmpR
  rw [cmpL_neg l m, cmpI_neg c e]
  by_cases h : cmpL l m = 0
  · rw [if_pos h, if_pos (by omega)]
  · rw [if_neg h, if_neg (by omega)]
theorem cmpR_self (l : List Int) (c : Int) : cmpR l c l c = 0 := by unfold cmpR; rw [if_pos (cmpL_self l), cmpI_self]
theorem cmpR_zero {l : List Int} {c : Int} {m : List Int} {e : Int} (h : cmpR l c m e = 0) : l = m ∧ c = e := by
  unfold cmpR at h
  by_cases h0 : cmpL l m = 0
  · rw [if_pos h0] at h; exact ⟨cmpL_zero h0, cmpI_zero h⟩
  · rw [if_neg h0] at h; exact absurd h h0
theorem cmpR_in (l : List Int) (c : Int) (m : List Int) (e : Int) : -1 ≤ cmpR l c m e ∧ cmpR l c m e ≤ 1 := by
  unfold cmpR; split
  · exact cmpI_in c e
  · exact cmpL_in l m
theorem cmpR_trans {l : List Int} {c : Int} {m : List Int} {e : Int} {n : List Int} {f : Int} (h1 : cmpR l c m e ≤ 0) (h2 : cmpR m e n f ≤ 0) : cmpR l c n f ≤ 0 := by
  unfold cmpR at h1 h2 ⊢
  have g1 : cmpL l m ≤ 0 := by
    by_cases h : cmpL l m = 0
    · omega
    · rw [if_neg h] at h1; exact h1
  have g2 : cmpL m n ≤ 0 := by
    by_cases h : cmpL m n = 0
    · omega
    · rw [if_neg h] at h2; exact h2
  obtain ⟨g3, g4⟩ := cmpL_trans g1 g2
  by_cases h : cmpL l n = 0
  · obtain ⟨e1, e2⟩ := g4 h
    rw [if_pos e1] at h1
    rw [if_pos e2] at h2
    rw [if_pos h, cmpI_le]
    rw [cmpI_le] at h1 h2
    omega
  · rw [if_neg h]; exact g3
/-! ### the code -/
theorem isNaN_eq (a : Int) : cmp_isNaN_int.f a = some false := by
  unfold cmp_isNaN_int.f; simp
theorem compareI_eq (a b : Int) : cmp_Compare_int.f a b = some (cmpI a b) := by
  unfold cmp_Compare_int.f cmpI
  rw [isNaN_eq, isNaN_eq]
  simp only [Option.bind_some]
  rw [if_neg (by simp), if_neg (by simp)]
  split
  · rfl
  · split <;> rfl
theorem compareS_l0 (l m : List Int) (hn : l.length ≤ 4611686018427387904) (d : Nat) : ∀ i : Nat, i + d = l.length → i ≤ m.length → Ev (fun k => slices_Compare_int_int.l0 k l m l (l.length : Int) (i : Int)) (cmpL (l.drop i) (m.drop i)) := by
  induction d with
  | zero =>
    intro i hi hm
    refine Ev.step (f := fun _ => some (if (l.length : Int) < (m.length : Int) then -1 else 0)) (fun k => ?_) (ev_eq (Ev.now _) ?_)
    · simp only [slices_Compare_int_int.l0]; rw [if_neg (by omega)]; split <;> rfl
    · rw [List.drop_eq_nil_of_le (show l.length ≤ i by omega)]
      by_cases h : i < m.length
      · rw [List.drop_eq_getElem_cons h, cmpL, if_pos (by omega)]
      · rw [List.drop_eq_nil_of_le (by omega), cmpL, if_neg (by omega)]
  | succ d ih =>
    intro i hi hm
    have hlt : i < l.length := by omega
    by_cases h : i < m.length
    · refine Ev.step (f := fun k => if cmpI l[i] m[i] = 0 then slices_Compare_int_int.l0 k l m l (l.length : Int) ((i + 1 : Nat) : Int) else some (cmpI l[i] m[i])) (fun k => ?_) ?_
      · simp only [slices_Compare_int_int.l0]
        rw [if_pos (by omega), if_pos (by omega), if_pos (by omega), if_neg (by omega), if_pos (by omega), rd_at l i hlt, rd_at m i h, compareI_eq, wrap_next hlt hn]; rfl
      · rw [List.drop_eq_getElem_cons hlt, List.drop_eq_getElem_cons h, cmpL]
        refine ev_ite _ (fun h0 => ?_) (fun h0 => ?_)
        · rw [if_pos h0]; exact ih (i + 1) (by omega) (by omega)
        · rw [if_neg h0]; exact Ev.now _
    · refine Ev.step (f := fun _ => some 1) (fun k => ?_) (ev_eq (Ev.now _) ?_)
      · simp only [slices_Compare_int_int.l0]
        rw [if_pos (by omega), if_pos (by omega), if_pos (by omega), if_pos (by omega)]
      · rw [List.drop_eq_getElem_cons hlt, List.drop_eq_nil_of_le (show m.length ≤ i by omega), cmpL]
theorem compareS_ev (l m : List Int) (hn : l.length ≤ 4611686018427387904) : Ev (fun k => slices_Compare_int_int.f k l m) (cmpL l m) := by
  have h := compareS_l0 l m hn l.length 0 (by omega) (by omega)
  rw [List.drop_zero, List.drop_zero] at h
  exact h
theorem or_ev (a b : Int) : Ev (fun k => cmp_Or_int.f k [a, b]) (if a = 0 then b else a) := by
  have hw : wrap64 (0 + 1) = 1 := by unfold wrap64; omega
  have hw2 : wrap64 (1 + 1) = 2 := by unfold wrap64; omega
  refine Ev.step (f := fun k => if a = 0 then cmp_Or_int.l0 k 0 [a, b] 2 1 else some a) (fun k => ?_) ?_
  · simp only [cmp_Or_int.f, cmp_Or_int.l0, hw]
    rfl
  · refine ev_ite _ (fun h => ?_) (fun h => ?_)
    · rw [if_pos h]
      refine Ev.step (f := fun k => if b = 0 then cmp_Or_int.l0 k 0 [a, b] 2 2 else some b) (fun k => ?_) ?_
      · simp only [cmp_Or_int.l0, hw2]
        rfl
      · refine ev_ite _ (fun h => ?_) (fun h => Ev.now _)
        refine Ev.step (f := fun _ => some 0) (fun k => ?_) (ev_eq (Ev.now _) h.symm)
        simp only [cmp_Or_int.l0]
        rfl
    · rw [if_neg h]; exact Ev.now _
theorem compare_ev (l : List Int) (c : Int) (m : List Int) (e : Int) (hn : l.length ≤ 4611686018427387904) : Ev (fun k => linear_Compare.f k l c m e) (cmpR l c m e) := by
  unfold linear_Compare.f
  rw [compareI_eq]
  refine ev_bind (compareS_ev l m hn) (ev_bind (Ev.now _) (ev_bind (or_ev _ _) (Ev.now _)))
theorem compareR_l0 (l m : List Int) (hn : l.length ≤ 4611686018427387904) (d : Nat) : ∀ i : Nat, i + d = l.length → i ≤ m.length → Ev (fun k => familycheckref01_CompareInts.l0 k l m (i : Int)) (cmpL (l.drop i) (m.drop i)) := by
  induction d with
  | zero =>
    intro i hi hm
    refine Ev.step (f := fun k => familycheckref01_CompareInts.j1 k l m (i : Int) false) (fun k => ?_) (Ev.step (f := fun _ => some (if (l.length : Int) < (m.length : Int) then -1 else 0)) (fun k => ?_) (ev_eq (Ev.now _) ?_))
    · simp only [familycheckref01_CompareInts.l0]; rw [if_neg (by omega)]
    · simp only [familycheckref01_CompareInts.j1]; rw [if_neg (by simp)]
      by_cases h : (l.length : Int) < (m.length : Int)
      · rw [if_pos h, if_pos h]
      · rw [if_neg h, if_neg h, if_neg (by omega)]
    · rw [List.drop_eq_nil_of_le (show l.length ≤ i by omega)]
      by_cases h : i < m.length
      · rw [List.drop_eq_getElem_cons h, cmpL, if_pos (by omega)]
      · rw [List.drop_eq_nil_of_le (by omega), cmpL, if_neg (by omega)]
  | succ d ih =>
    intro i hi hm
    have hlt : i < l.length := by omega
    by_cases h : i < m.length
    · refine Ev.step (f := fun k => familycheckref01_CompareInts.j1 k l m (i : Int) true) (fun k => ?_) (Ev.step (f := fun k => if l[i] < m[i] then some (-1) else if l[i] > m[i] then some 1 else familycheckref01_CompareInts.l0 k l m ((i + 1 : Nat) : Int)) (fun k => ?_) ?_)
      · simp only [familycheckref01_CompareInts.l0]; rw [if_pos (by omega), decide_eq_true (by omega)]
      · simp only [familycheckref01_CompareInts.j1]
        rw [if_pos trivial, if_pos (by omega), if_pos (by omega), if_pos (by omega), rd_at l i hlt, rd_at m i h, wrap_next hlt hn]
      · rw [List.drop_eq_getElem_cons hlt, List.drop_eq_getElem_cons h, cmpL]
        refine ev_ite _ (fun h0 => ?_) (fun h0 => ev_ite _ (fun h1 => ?_) (fun h1 => ?_))
        · have e : cmpI l[i] m[i] = -1 := by unfold cmpI; rw [if_pos h0]
          rw [e, if_neg (by decide)]; exact Ev.now _
        · have e : cmpI l[i] m[i] = 1 := by unfold cmpI; rw [if_neg h0, if_pos h1]
          rw [e, if_neg (by decide)]; exact Ev.now _
        · have e : cmpI l[i] m[i] = 0 := by unfold cmpI; rw [if_neg h0, if_neg h1]
          rw [e, if_pos rfl]; exact ih (i + 1) (by omega) (by omega)
    · refine Ev.step (f := fun k => familycheckref01_CompareInts.j1 k l m (i : Int) false) (fun k => ?_) (Ev.step (f := fun _ => some 1) (fun k => ?_) (ev_eq (Ev.now _) ?_))
      · simp only [familycheckref01_CompareInts.l0]; rw [if_pos (by omega), decide_eq_false (by omega)]
      · simp only [familycheckref01_CompareInts.j1]; rw [if_neg (by simp), if_neg (by omega), if_pos (by omega)]
      · rw [List.drop_eq_getElem_cons hlt, List.drop_eq_nil_of_le (show m.length ≤ i by omega), cmpL]
theorem rcompare_ev (l : List Int) (c : Int) (m : List Int) (e : Int) (hn : l.length ≤ 4611686018427387904) : Ev (fun k => familycheckref01_Compare.f k l c m e) (cmpR l c m e) := by
  have h := compareR_l0 l m hn l.length 0 (by omega) (by omega)
  rw [List.drop_zero, List.drop_zero] at h
  unfold familycheckref01_Compare.f cmpR
  refine ev_bind h (ev_ite _ (fun h0 => ?_) (fun h0 => ?_))
  · rw [if_pos h0]
    unfold cmpI
    refine ev_ite _ (fun h1 => ?_) (fun h1 => ev_ite _ (fun h2 => ?_) (fun h2 => ?_))
    · rw [if_pos h1]; exact Ev.now _
    · rw [if_neg h1, if_pos h2]; exact Ev.now _
    · rw [if_neg h1, if_neg h2]; exact Ev.now _
  · rw [if_neg h0]; exact Ev.now _
theorem linearCompares_ev (l : List Int) (c : Int) (m : List Int) (e : Int) (n : List Int) (f : Int) : Ev (fun k => familychecklaw01_LinearCompares.f k l c m e n f) true := by
  have hend : ∀ {b : Bool}, b = true → Ev (fun k => familychecklaw01_LinearCompares.j0 k b l c m e n f) true := by
    intro b hb
    subst hb
    refine Ev.step (f := fun k => (familychecklaw01_known.f k).bind fun t => some t) (fun k => ?_) known_end
    simp only [familychecklaw01_LinearCompares.j0]; rfl
  unfold familychecklaw01_LinearCompares.f
  rw [long_eq, long_eq, long_eq]
  simp only [Option.bind_some]
  refine ev_ite _ (fun _ => hend rfl) (fun h1 => ?_)
  simp at h1
  refine ev_ite _ (fun _ => hend rfl) (fun h2 => ?_)
  simp at h2
  by_cases h3 : (n.length : Int) > 200
  · exact hend (by simpa using h3)
  · rw [decide_eq_false h3]
    refine Ev.step (f := fun k => (linear_Compare.f k l c m e).bind fun t208 => (linear_Compare.f k m e n f).bind fun t209 => (linear_Compare.f k l c n f).bind fun t210 => (familycheckref01_Compare.f k l c m e).bind fun t211 => if t208 = t211 then ((linear_Compare.f k m e l c).bind fun t212 => if t212 = wrap64 (-t208) then ((linear_Compare.f k l c l c).bind fun t213 => familychecklaw01_LinearCompares.j1 k t208 t209 t210 (t213 != 0) l c m e) else familychecklaw01_LinearCompares.j1 k t208 t209 t210 true l c m e) else familychecklaw01_LinearCompares.j1 k t208 t209 t210 true l c m e) (fun k => ?_) ?_
    · simp only [familychecklaw01_LinearCompares.j0]; rfl
    · have hin := cmpR_in l c m e
      refine ev_bind (compare_ev l c m e (by omega)) (ev_bind (compare_ev m e n f (by omega)) (ev_bind (compare_ev l c n f (by omega)) (ev_bind (rcompare_ev l c m e (by omega)) (Ev.congr (fun k => if_pos rfl) (ev_bind (ev_eq (compare_ev m e l c (by omega)) (cmpR_neg l c m e)) (Ev.congr (fun k => if_pos (wrap_id (by omega) (by omega)).symm) (ev_bind (ev_eq (compare_ev l c l c (by omega)) (cmpR_self l c)) ?_)))))))
      have hsame : Ev (fun k => if cmpR l c m e = 0 then ((familycheckref01_SameRow.f k l c m e).bind fun t => if t = true then ((familychecklaw01_known.f k).bind fun t => some t) else some false) else ((familychecklaw01_known.f k).bind fun t => some t)) true := by
        refine ev_ite _ (fun h => ?_) (fun _ => known_end)
        obtain ⟨rfl, rfl⟩ := cmpR_zero h
        exact ev_bind (sameRow_self l c (by omega)) (Ev.congr (fun k => if_pos rfl) known_end)
      refine Ev.step (f := fun k => if cmpR l c m e > 0 then (if cmpR l c m e = 0 then ((familycheckref01_SameRow.f k l c m e).bind fun t => if t = true then ((familychecklaw01_known.f k).bind fun t => some t) else some false) else ((familychecklaw01_known.f k).bind fun t => some t)) else (if cmpR m e n f > 0 then (if cmpR l c m e = 0 then ((familycheckref01_SameRow.f k l c m e).bind fun t => if t = true then ((familychecklaw01_known.f k).bind fun t => some t) else some false) else ((familychecklaw01_known.f k).bind fun t => some t)) else (if cmpR l c n f ≤ 0 then (if cmpR l c m e = 0 then ((familycheckref01_SameRow.f k l c m e).bind fun t => if t = true then ((familychecklaw01_known.f k).bind fun t => some t) else some false) else ((familychecklaw01_known.f k).bind fun t => some t)) else some false))) (fun k => ?_) ?_
      · simp only [familychecklaw01_LinearCompares.j1]; rfl
      · refine ev_ite _ (fun _ => hsame) (fun g1 => ev_ite _ (fun _ => hsame) (fun g2 => ?_))
        exact Ev.congr (fun k => if_pos (cmpR_trans (show cmpR l c m e ≤ 0 by omega) (show cmpR m e n f ≤ 0 by omega))) hsame
end Go.Proofs.YtbioiodjdfcooabDoor.P
