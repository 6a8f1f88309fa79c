/- Plain facts on the printed functions: numbers, small rows, points, validity, copies, comparisons of equal things. -/
import Derived.Test.YtbioiodjdfcooaaDoorVGPx0
import Derived.Test.YtbioiodjdfcooaaDoorVGPx1
import Derived.Test.YtbioiodjdfcooaaDoorVGPx3
import Derived.Test.YtbioiodjdfcooaaDoorVGPx10
namespace Go.Proofs.YtbioiodjdfcooaaDoor.P
open Go.RowKit Go.Proofs.YtbioiodjdfcooaaDoorW.PrintWords Go.Proofs.YtbioiodjdfcooaaDoorW.PrintLast Go.Proofs.YtbioiodjdfcooaaDoorW.PrintMore
set_option linter.unusedVariables false
abbrev Rw := S33

theorem wrap_id {n : Int} (h0 : -9223372036854775808 ≤ n) (h1 : n ≤ 9223372036854775807) : wrap64 n = n := by unfold wrap64; omega
theorem wrap_next {i n : Nat} (h : i < n) (hn : n ≤ 4611686018427387904) : wrap64 ((i : Int) + 1) = ((i + 1 : Nat) : Int) := by unfold wrap64; omega
theorem rd_at (l : List Int) (i : Nat) (h : i < l.length) : rd l (i : Int) = l[i] := by
  simp [rd, h]
theorem rdR_at (l : List Rw) (i : Nat) (h : i < l.length) : rd_T33 l (i : Int) = l[i] := by
  simp [rd_T33, h]
theorem ev_eq {α : Type} {g : Nat → Option α} {r r' : α} (h : Ev g r) (e : r = r') : Ev g r' := e ▸ h
theorem ev_ite {α : Type} {g f : Nat → Option α} {r : α} (c : Prop) [Decidable c] (h1 : c → Ev g r) (h2 : ¬ c → Ev f r) : Ev (fun k => if c then g k else f k) r := by
  by_cases h : c
  · exact Ev.congr (fun k => if_pos h) (h1 h)
  · exact Ev.congr (fun k => if_neg h) (h2 h)
/-- A printed loop is entered: the round's text is what is left. -/
theorem ev_bind {α β : Type} {g : Nat → Option α} {f : Nat → α → Option β} {a : α} {r : β} (h : Ev g a) (k : Ev (fun n => f n a) r) : Ev (fun n => (g n).bind (f n)) r := Ev.bind h k

/-! ### numbers -/
def inN (x : Int) : Bool := decide (-68719476736 ≤ x) && decide (x ≤ 68719476736)
theorem inN_iff {x : Int} : inN x = true ↔ -68719476736 ≤ x ∧ x ≤ 68719476736 := by simp [inN]
theorem within_eq (x : Int) : linear_within.f x = some (inN x) := by
  unfold linear_within.f inN
  by_cases h : (-68719476736 : Int) ≤ x
  · rw [if_pos h]; simp [h]
  · rw [if_neg h]; simp [h]
/-! ### small -/
def sm (l : List Int) (c : Int) : Bool := l.all inN && inN c
theorem small_l0 (l : List Int) (c : Int) (hn : l.length ≤ 4611686018427387904) (d : Nat) : ∀ i : Nat, i + d = l.length → Ev (fun k => linear_small.l0 k l (l.length : Int) (i : Int) l c) (sm (l.drop i) c) := by
  induction d with
  | zero =>
    intro i hi
    refine Ev.step (f := fun _ => some (inN c)) (fun k => ?_) (ev_eq (Ev.now _) ?_)
    · simp only [linear_small.l0]; rw [if_neg (by omega), within_eq]; rfl
    · rw [List.drop_eq_nil_of_le (by omega)]; simp [sm]
  | succ d ih =>
    intro i hi
    have hlt : i < l.length := by omega
    refine Ev.step (f := fun k => if inN l[i] = true then linear_small.l0 k l (l.length : Int) ((i + 1 : Nat) : Int) l c else some false) (fun k => ?_) ?_
    · simp only [linear_small.l0]
      rw [if_pos (by omega), if_pos (by omega), if_pos (by omega), rd_at l i hlt, within_eq, wrap_next hlt hn]
      rfl
    · have e : sm (l.drop i) c = (inN l[i] && sm (l.drop (i + 1)) c) := by
        unfold sm; rw [List.drop_eq_getElem_cons hlt, List.all_cons, Bool.and_assoc]
      rw [e]
      refine ev_ite _ (fun h => ?_) (fun h => ?_)
      · rw [h, Bool.true_and]; exact ih (i + 1) (by omega)
      · rw [Bool.not_eq_true] at h; rw [h, Bool.false_and]; exact Ev.now _
theorem small_ev (l : List Int) (c : Int) (hn : l.length ≤ 4611686018427387904) : Ev (fun k => linear_small.f k l c) (sm l c) := by
  have h := small_l0 l c hn l.length 0 (by omega)
  rw [List.drop_zero] at h
  exact h
theorem sm_get {l : List Int} {c : Int} (h : sm l c = true) : (∀ x ∈ l, -68719476736 ≤ x ∧ x ≤ 68719476736) ∧ -68719476736 ≤ c ∧ c ≤ 68719476736 := by
  simp only [sm, Bool.and_eq_true, List.all_eq_true] at h
  exact ⟨fun x hx => inN_iff.1 (h.1 x hx), inN_iff.1 h.2⟩
theorem sm_mk {l : List Int} {c : Int} (h : ∀ x ∈ l, -68719476736 ≤ x ∧ x ≤ 68719476736) (h0 : -68719476736 ≤ c ∧ c ≤ 68719476736) : sm l c = true := by
  simp only [sm, Bool.and_eq_true, List.all_eq_true]
  exact ⟨fun x hx => inN_iff.2 (h x hx), inN_iff.2 h0⟩

/-! ### long, wide -/
def okRows (rs : List Rw) : Prop := rs.length ≤ 250 ∧ ∀ r ∈ rs, r.f0.length ≤ 200
theorem long_eq (l : List Int) (c : Int) : familychecklaw01_long.f l c = some (decide ((l.length : Int) > 200)) := rfl
theorem wide_l0 (v : Int) (rs : List Rw) (hn : rs.length ≤ 250) (d : Nat) : ∀ i : Nat, i + d = rs.length → (∀ j, j < i → ∀ h : j < rs.length, rs[j].f0.length ≤ 200) →
    ∃ b, Ev (fun k => familychecklaw01_wide.l0 k (i : Int) v rs) b ∧ (b = false → ∀ r ∈ rs, r.f0.length ≤ 200) := by
  induction d with
  | zero =>
    intro i hi hp
    refine ⟨false, Ev.step (f := fun _ => some false) (fun k => ?_) (Ev.now _), fun _ r hr => ?_⟩
    · simp only [familychecklaw01_wide.l0]; rw [if_neg (by omega)]
    · obtain ⟨j, hj, rfl⟩ := List.getElem_of_mem hr
      exact hp j (by omega) hj
  | succ d ih =>
    intro i hi hp
    have hlt : i < rs.length := by omega
    by_cases hl : rs[i].f0.length ≤ 200
    · obtain ⟨b, hb, hq⟩ := ih (i + 1) (by omega) (fun j hj h => by
        by_cases e : j = i
        · subst e; exact hl
        · exact hp j (by omega) h)
      refine ⟨b, Ev.step (f := fun k => familychecklaw01_wide.l0 k ((i + 1 : Nat) : Int) v rs) (fun k => ?_) hb, hq⟩
      simp only [familychecklaw01_wide.l0]
      rw [if_pos (by omega), if_pos (by omega), rdR_at rs i hlt, long_eq, wrap_next hlt (by omega)]
      simp only [Option.bind_some]
      rw [if_neg (by simp; omega)]
    · refine ⟨true, Ev.step (f := fun _ => some true) (fun k => ?_) (Ev.now _), fun h => by cases h⟩
      simp only [familychecklaw01_wide.l0]
      rw [if_pos (by omega), if_pos (by omega), rdR_at rs i hlt, long_eq]
      simp only [Option.bind_some]
      rw [if_pos (by simp; omega)]
theorem wide_ev (v : Int) (rs : List Rw) : ∃ b, Ev (fun k => familychecklaw01_wide.f k v rs) b ∧ (b = false → okRows rs) := by
  by_cases h : (rs.length : Int) > 250
  · exact ⟨true, Ev.congr (fun k => by unfold familychecklaw01_wide.f; rw [if_pos h]) (Ev.now _), fun h => by cases h⟩
  · obtain ⟨b, hb, hq⟩ := wide_l0 v rs (by omega) rs.length 0 (by omega) (fun j hj => by omega)
    exact ⟨b, Ev.congr (fun k => by unfold familychecklaw01_wide.f; rw [if_neg h]; rfl) hb, fun h' => ⟨by omega, hq h'⟩⟩

/-! ### points -/
def ptN (x : Int) : Bool := decide (0 ≤ x) && decide (x ≤ 1048576)
theorem ptN_iff {x : Int} : ptN x = true ↔ 0 ≤ x ∧ x ≤ 1048576 := by simp [ptN]
def pt (l : List Int) : Bool := l.all ptN
theorem pt_get {l : List Int} (h : pt l = true) : ∀ x ∈ l, 0 ≤ x ∧ x ≤ 1048576 := fun x hx => ptN_iff.1 (List.all_eq_true.1 h x hx)
theorem onPoint_l0 (l : List Int) (hn : l.length ≤ 4611686018427387904) (d : Nat) : ∀ i : Nat, i + d = l.length → Ev (fun k => linear_onPoint.l0 k l (l.length : Int) (i : Int)) (pt (l.drop i)) := by
  induction d with
  | zero =>
    intro i hi
    refine Ev.step (f := fun _ => some true) (fun k => ?_) (ev_eq (Ev.now _) ?_)
    · simp only [linear_onPoint.l0]; rw [if_neg (by omega)]
    · rw [List.drop_eq_nil_of_le (by omega)]; rfl
  | succ d ih =>
    intro i hi
    have hlt : i < l.length := by omega
    refine Ev.step (f := fun k => if ptN l[i] = true then linear_onPoint.l0 k l (l.length : Int) ((i + 1 : Nat) : Int) else some false) (fun k => ?_) ?_
    · simp only [linear_onPoint.l0]
      rw [if_pos (by omega), if_pos (by omega), if_pos (by omega), rd_at l i hlt, wrap_next hlt hn]
      by_cases h : ptN l[i] = true
      · have := ptN_iff.1 h
        rw [if_pos h, if_neg (by omega), if_neg (by omega)]
      · rw [if_neg h]
        have h2 : ¬ (0 ≤ l[i] ∧ l[i] ≤ 1048576) := fun hh => h (ptN_iff.2 hh)
        by_cases h3 : l[i] < 0
        · rw [if_pos h3]
        · rw [if_neg h3, if_pos (by omega)]
    · have e : pt (l.drop i) = (ptN l[i] && pt (l.drop (i + 1))) := by
        unfold pt; rw [List.drop_eq_getElem_cons hlt, List.all_cons]
      rw [e]
      refine ev_ite _ (fun h => ?_) (fun h => ?_)
      · rw [h, Bool.true_and]; exact ih (i + 1) (by omega)
      · rw [Bool.not_eq_true] at h; rw [h, Bool.false_and]; exact Ev.now _
theorem onPoint_ev (l : List Int) (hn : l.length ≤ 4611686018427387904) : Ev (fun k => linear_onPoint.f k l) (pt l) := by
  have h := onPoint_l0 l hn l.length 0 (by omega)
  rw [List.drop_zero] at h
  exact h

/-! ### Validate -/
def valid (v : Int) (rs : List Rw) : Int :=
  if v < 0 ∨ v > 96 then 1 else if rs.all (fun r => decide ((r.f0.length : Int) = v)) = true then (if (rs.length : Int) > 192 then 4 else if rs.all (fun r => sm r.f0 r.f1) = true then 0 else 4) else 1
theorem validate_l1 (rs : List Rw) (hr : okRows rs) (d : Nat) : ∀ i : Nat, i + d = rs.length → Ev (fun k => linear_Validate.l1 k rs (rs.length : Int) (i : Int)) (if (rs.drop i).all (fun r => sm r.f0 r.f1) = true then 0 else 4) := by
  induction d with
  | zero =>
    intro i hi
    refine Ev.step (f := fun _ => some 0) (fun k => ?_) (ev_eq (Ev.now _) ?_)
    · simp only [linear_Validate.l1]; rw [if_neg (by omega)]
    · rw [List.drop_eq_nil_of_le (by omega)]; rfl
  | succ d ih =>
    intro i hi
    have hlt : i < rs.length := by omega
    have hm := hr.2 _ (List.getElem_mem hlt)
    refine Ev.step (f := fun k => (linear_small.f k rs[i].f0 rs[i].f1).bind fun t => if t = true then linear_Validate.l1 k rs (rs.length : Int) ((i + 1 : Nat) : Int) else some 4) (fun k => ?_) (ev_bind (small_ev rs[i].f0 rs[i].f1 (by omega)) ?_)
    · simp only [linear_Validate.l1]
      rw [if_pos (by omega), if_pos (by omega), if_pos (by omega), rdR_at rs i hlt, wrap_next hlt (by have := hr.1; omega)]
    · rw [List.drop_eq_getElem_cons hlt, List.all_cons]
      refine ev_ite _ (fun h => ?_) (fun h => ?_)
      · rw [h, Bool.true_and]; exact ih (i + 1) (by omega)
      · rw [Bool.not_eq_true] at h; rw [h, Bool.false_and]; exact Ev.now _
theorem validate_l0 (v : Int) (rs : List Rw) (hr : okRows rs) (d : Nat) : ∀ i : Nat, i + d = rs.length → Ev (fun k => linear_Validate.l0 k rs (rs.length : Int) (i : Int) v rs)
    (if (rs.drop i).all (fun r => decide ((r.f0.length : Int) = v)) = true then (if (rs.length : Int) > 192 then 4 else if rs.all (fun r => sm r.f0 r.f1) = true then 0 else 4) else 1) := by
  induction d with
  | zero =>
    intro i hi
    refine Ev.step (f := fun k => if (rs.length : Int) > 192 then some 4 else linear_Validate.l1 k rs (rs.length : Int) 0) (fun k => ?_) ?_
    · simp only [linear_Validate.l0]; rw [if_neg (by omega)]
    · rw [List.drop_eq_nil_of_le (by omega)]
      simp only [List.all_nil, if_true]
      refine ev_ite _ (fun h => ?_) (fun h => ?_)
      · rw [if_pos h]; exact Ev.now _
      · rw [if_neg h]
        have := validate_l1 rs hr rs.length 0 (by omega)
        rw [List.drop_zero] at this
        exact this
  | succ d ih =>
    intro i hi
    have hlt : i < rs.length := by omega
    refine Ev.step (f := fun k => if (rs[i].f0.length : Int) = v then linear_Validate.l0 k rs (rs.length : Int) ((i + 1 : Nat) : Int) v rs else some 1) (fun k => ?_) ?_
    · simp only [linear_Validate.l0]
      rw [if_pos (by omega), if_pos (by omega), if_pos (by omega), rdR_at rs i hlt, wrap_next hlt (by have := hr.1; omega)]
    · rw [List.drop_eq_getElem_cons hlt, List.all_cons]
      refine ev_ite _ (fun h => ?_) (fun h => ?_)
      · rw [decide_eq_true h, Bool.true_and]; exact ih (i + 1) (by omega)
      · rw [decide_eq_false h, Bool.false_and]; exact Ev.now _
theorem validate_ev (v : Int) (rs : List Rw) (hr : okRows rs) : Ev (fun k => linear_Validate.f k v rs) (valid v rs) := by
  unfold valid linear_Validate.f
  by_cases h0 : v < 0
  · refine Ev.congr (f := fun k => linear_Validate.j0 k true v rs) (fun k => if_pos h0) (Ev.step (f := fun _ => some 1) (fun k => ?_) ?_)
    · simp only [linear_Validate.j0]; rfl
    · rw [if_pos (.inl h0)]; exact Ev.now _
  · refine Ev.congr (f := fun k => linear_Validate.j0 k (decide (v > 96)) v rs) (fun k => if_neg h0) ?_
    by_cases h1 : v > 96
    · refine Ev.step (f := fun _ => some 1) (fun k => ?_) ?_
      · simp only [linear_Validate.j0]; rw [if_pos (by simpa using h1)]
      · rw [if_pos (.inr h1)]; exact Ev.now _
    · refine Ev.step (f := fun k => linear_Validate.l0 k rs (rs.length : Int) 0 v rs) (fun k => ?_) ?_
      · simp only [linear_Validate.j0]; rw [if_neg (by simpa using h1)]
      · rw [if_neg (by omega)]
        have := validate_l0 v rs hr rs.length 0 (by omega)
        rw [List.drop_zero] at this
        exact this
theorem valid_ok {v : Int} {rs : List Rw} (h : valid v rs = 0) : (0 ≤ v ∧ v ≤ 96) ∧ (∀ r ∈ rs, (r.f0.length : Int) = v) ∧ rs.length ≤ 192 ∧ ∀ r ∈ rs, sm r.f0 r.f1 = true := by
  unfold valid at h
  by_cases h0 : v < 0 ∨ v > 96
  · rw [if_pos h0] at h; omega
  · rw [if_neg h0] at h
    by_cases h1 : rs.all (fun r => decide ((r.f0.length : Int) = v)) = true
    · rw [if_pos h1] at h
      by_cases h2 : (rs.length : Int) > 192
      · rw [if_pos h2] at h; omega
      · rw [if_neg h2] at h
        by_cases h3 : rs.all (fun r => sm r.f0 r.f1) = true
        · rw [List.all_eq_true] at h1 h3
          exact ⟨by omega, fun r hr => by simpa using h1 r hr, by omega, h3⟩
        · rw [if_neg h3] at h; omega
    · rw [if_neg h1] at h; omega
theorem valid_mk {v : Int} {rs : List Rw} (h0 : 0 ≤ v ∧ v ≤ 96) (h1 : ∀ r ∈ rs, (r.f0.length : Int) = v) (h2 : rs.length ≤ 192) (h3 : ∀ r ∈ rs, sm r.f0 r.f1 = true) : valid v rs = 0 := by
  unfold valid
  rw [if_neg (by omega), if_pos (by rw [List.all_eq_true]; exact fun r hr => by simpa using h1 r hr), if_neg (by omega), if_pos (by rw [List.all_eq_true]; exact h3)]

/-! ### copies -/
/-! ### equal things are the same -/
end Go.Proofs.YtbioiodjdfcooaaDoor.P
