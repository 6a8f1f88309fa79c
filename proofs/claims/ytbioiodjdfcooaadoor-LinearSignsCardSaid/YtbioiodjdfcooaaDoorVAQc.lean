/- Plain facts: sums without overflow, divisors, floors, Tighten, Negate, the signs. -/
import Derived.Test.YtbioiodjdfcooaaDoorVAPx0
import Derived.Test.YtbioiodjdfcooaaDoorVAPx4
import Derived.Test.YtbioiodjdfcooaaDoorVAPx5
import Derived.Test.YtbioiodjdfcooaaDoorVAPx16
import Derived.Test.YtbioiodjdfcooaaDoorVAPx17
import Derived.Test.YtbioiodjdfcooaaDoorVAPx18
import Derived.Test.YtbioiodjdfcooaaDoorVAQb
namespace Go.Proofs.YtbioiodjdfcooaaDoor.P
open Go.RowKit Go.Proofs.YtbioiodjdfcooaaDoorW.PrintWords Go.Proofs.YtbioiodjdfcooaaDoorW.PrintLast Go.Proofs.YtbioiodjdfcooaaDoorW.PrintMore
set_option linter.unusedVariables false
/-! ### sums -/
def dot : List Int → List Int → Int
  | a :: l, b :: p => a * b + dot l p
  | [], _ => 0
  | _ :: _, [] => 0
theorem mul_bound {a b : Int} (h : -68719476736 ≤ a ∧ a ≤ 68719476736) (h' : 0 ≤ b ∧ b ≤ 1048576) : -72057594037927936 ≤ a * b ∧ a * b ≤ 72057594037927936 := by
  have h1 : a * b ≤ 68719476736 * b := Int.mul_le_mul_of_nonneg_right h.2 h'.1
  have h2 : (-68719476736) * b ≤ a * b := Int.mul_le_mul_of_nonneg_right h.1 h'.1
  omega
theorem sumW_eq (l : List Int) : ∀ (p : List Int) (acc : Int), (∀ x ∈ l, -68719476736 ≤ x ∧ x ≤ 68719476736) → (∀ x ∈ p, 0 ≤ x ∧ x ≤ 1048576) →
    -9223372036854775808 + (l.length : Int) * 72057594037927936 ≤ acc → acc + (l.length : Int) * 72057594037927936 ≤ 9223372036854775807 → sumW l p acc = acc + dot l p := by
  induction l with
  | nil => intro p acc _ _ _ _; rw [sumW, dot, Int.add_zero]
  | cons a l ih =>
    intro p acc hl hp h0 h1
    cases p with
    | nil => rw [sumW, dot, Int.add_zero]
    | cons b p =>
      have hb := mul_bound (hl a (.head _)) (hp b (.head _))
      rw [List.length_cons, Int.natCast_add, Int.add_mul] at h0 h1
      have e := ih p (acc + a * b) (fun x hx => hl x (.tail _ hx)) (fun x hx => hp x (.tail _ hx)) (by omega) (by omega)
      rw [sumW, dot, wrap_id (n := a * b) (by omega) (by omega), wrap_id (n := acc + a * b) (by omega) (by omega), e, Int.add_assoc]
theorem sumW_small {l p : List Int} {c : Int} (hs : sm l c = true) (hp : pt p = true) (hn : l.length ≤ 96) : sumW l p c = c + dot l p := by
  obtain ⟨h1, h2⟩ := sm_get hs
  exact sumW_eq l p c h1 (pt_get hp) (by omega) (by omega)
theorem dot_nonneg : ∀ (l p : List Int), (∀ x ∈ l, 0 ≤ x) → (∀ x ∈ p, 0 ≤ x) → 0 ≤ dot l p
  | [], _, _, _ => by rw [dot]; omega
  | _ :: _, [], _, _ => by rw [dot]; omega
  | a :: l, b :: p, h, h' => by
    have := Int.mul_nonneg (h a (.head _)) (h' b (.head _))
    have := dot_nonneg l p (fun x hx => h x (.tail _ hx)) (fun x hx => h' x (.tail _ hx))
    rw [dot]; omega
theorem dot_neg : ∀ (l p : List Int), dot (l.map fun x => -x) p = -dot l p
  | [], p => by simp [dot]
  | a :: l, [] => by simp [dot]
  | a :: l, b :: p => by rw [List.map_cons, dot, dot, dot_neg l p, Int.neg_mul]; omega
theorem dot_scale (g : Int) : ∀ (l p : List Int), dot (l.map fun x => g * x) p = g * dot l p
  | [], p => by simp [dot]
  | a :: l, [] => by simp [dot]
  | a :: l, b :: p => by rw [List.map_cons, dot, dot, dot_scale g l p, Int.mul_add, Int.mul_assoc]

/-! ### a row changed from the left -/
def part (f : Int → Int) (l : List Int) (i : Nat) : List Int := (l.take i).map f ++ l.drop i
theorem part_zero (f : Int → Int) (l : List Int) : part f l 0 = l := by simp [part]
theorem part_all (f : Int → Int) (l : List Int) (i : Nat) (h : l.length ≤ i) : part f l i = l.map f := by
  simp [part, List.take_of_length_le h, List.drop_eq_nil_of_le h]
theorem part_len (f : Int → Int) (l : List Int) (i : Nat) : (part f l i).length = l.length := by
  simp [part]; omega
theorem part_get (f : Int → Int) (l : List Int) (i : Nat) (h : i < l.length) : rd (part f l i) (i : Int) = l[i] := by
  rw [rd_at _ i (by rw [part_len]; exact h)]
  simp only [part]
  rw [List.getElem_append_right (by simp; omega)]
  simp [Nat.min_eq_left (Nat.le_of_lt h)]
theorem part_set (f : Int → Int) (l : List Int) (i : Nat) (h : i < l.length) (y : Int) (hy : y = f l[i]) : (part f l i).set (i : Int).toNat y = part f l (i + 1) := by
  subst hy
  unfold part
  rw [Int.toNat_natCast, List.set_append_right _ _ (by simp; omega), List.take_succ_eq_append_getElem h, List.map_append]
  have e : i - ((l.take i).map f).length = 0 := by simp; omega
  rw [e, List.drop_eq_getElem_cons h, List.set_cons_zero]
  simp

/-! ### divisors -/
theorem gcd_ev (m : Nat) : ∀ n : Nat, Ev (fun k => linear_gcd.f k (n : Int) (m : Int)) (Nat.gcd n m : Int) := by
  induction m using Nat.strongRecOn with
  | _ m ih =>
    intro n
    by_cases h : m = 0
    · subst h
      refine Ev.step (f := fun _ => some (n : Int)) (fun k => ?_) (ev_eq (Ev.now _) (by simp))
      simp only [linear_gcd.f, linear_gcd.l0]; rfl
    · refine Ev.step (f := fun k => linear_gcd.f k (m : Int) ((n % m : Nat) : Int)) (fun k => ?_) (ev_eq (ih (n % m) (Nat.mod_lt _ (by omega)) m) ?_)
      · simp only [linear_gcd.f, linear_gcd.l0]; rw [if_neg (by omega), Int.ofNat_tmod]
      · rw [Nat.gcd_comm m, ← Nat.gcd_rec, Nat.gcd_comm]
theorem rgcd_ev (m : Nat) : ∀ n : Nat, Ev (fun k => familycheckref01_gcd.f k (n : Int) (m : Int)) (Nat.gcd n m : Int) := by
  induction m using Nat.strongRecOn with
  | _ m ih =>
    intro n
    by_cases h : m = 0
    · subst h
      refine Ev.step (f := fun _ => some (n : Int)) (fun k => ?_) (ev_eq (Ev.now _) (by simp))
      simp only [familycheckref01_gcd.f, familycheckref01_gcd.l0]; rfl
    · refine Ev.step (f := fun k => familycheckref01_gcd.f k (m : Int) ((n % m : Nat) : Int)) (fun k => ?_) (ev_eq (ih (n % m) (Nat.mod_lt _ (by omega)) m) ?_)
      · simp only [familycheckref01_gcd.f, familycheckref01_gcd.l0]; rw [if_neg (by omega), Int.ofNat_tmod]
      · rw [Nat.gcd_comm m, ← Nat.gcd_rec, Nat.gcd_comm]
/-- The common divisor of a row's numbers, and of what was before. -/
def gc : List Int → Nat → Nat
  | [], g => g
  | a :: l, g => gc l (Nat.gcd g a.natAbs)
theorem gc_dvd : ∀ (l : List Int) (g : Nat), gc l g ∣ g ∧ ∀ x ∈ l, (gc l g : Int) ∣ x
  | [], g => ⟨Nat.dvd_refl _, fun x hx => by cases hx⟩
  | a :: l, g => by
    obtain ⟨h1, h2⟩ := gc_dvd l (Nat.gcd g a.natAbs)
    rw [gc]
    refine ⟨Nat.dvd_trans h1 (Nat.gcd_dvd_left _ _), fun x hx => ?_⟩
    cases hx with
    | head => exact Int.ofNat_dvd_left.2 (Nat.dvd_trans h1 (Nat.gcd_dvd_right _ _))
    | tail _ hx => exact h2 x hx
theorem mx_abs {a : Int} (h : -68719476736 ≤ a ∧ a ≤ 68719476736) : mx a (wrap64 (-a)) = (a.natAbs : Int) := by
  rw [wrap_id (by omega) (by omega)]; unfold mx; split <;> omega
theorem abs_eq {a : Int} (h : -68719476736 ≤ a ∧ a ≤ 68719476736) : familycheckref01_abs.f a = some (a.natAbs : Int) := by
  unfold familycheckref01_abs.f
  by_cases h0 : a < 0
  · rw [if_pos h0, wrap_id (by omega) (by omega)]; congr 1; omega
  · rw [if_neg h0]; congr 1; omega
theorem divisor_l0 (l : List Int) (hl : ∀ x ∈ l, -68719476736 ≤ x ∧ x ≤ 68719476736) (hn : l.length ≤ 4611686018427387904) (d : Nat) : ∀ (i g : Nat), i + d = l.length → Ev (fun k => linear_divisor.l0 k (g : Int) l (l.length : Int) (i : Int)) (gc (l.drop i) g : Int) := by
  induction d with
  | zero =>
    intro i g hi
    refine Ev.step (f := fun _ => some (g : Int)) (fun k => ?_) (ev_eq (Ev.now _) ?_)
    · simp only [linear_divisor.l0]; rw [if_neg (by omega)]
    · rw [List.drop_eq_nil_of_le (by omega)]; rfl
  | succ d ih =>
    intro i g hi
    have hlt : i < l.length := by omega
    refine Ev.step (f := fun k => (linear_gcd.f k (g : Int) (l[i].natAbs : Int)).bind fun t => linear_divisor.l0 k t l (l.length : Int) ((i + 1 : Nat) : Int)) (fun k => ?_) (ev_bind (gcd_ev _ _) ?_)
    · simp only [linear_divisor.l0]
      rw [if_pos (by omega), if_pos (by omega), if_pos (by omega), rd_at l i hlt, mx_abs (hl _ (List.getElem_mem hlt)), wrap_next hlt hn]
    · rw [List.drop_eq_getElem_cons hlt, gc]
      exact ih (i + 1) _ (by omega)
theorem divisor_ev (l : List Int) (c : Int) (hl : ∀ x ∈ l, -68719476736 ≤ x ∧ x ≤ 68719476736) (hn : l.length ≤ 4611686018427387904) : Ev (fun k => linear_divisor.f k l c) (gc l 0 : Int) := by
  have h := divisor_l0 l hl hn l.length 0 0 (by omega)
  rw [List.drop_zero] at h
  exact h

/-! ### floors -/
theorem natAbs_tdiv_le (a b : Int) : (a.tdiv b).natAbs ≤ a.natAbs := by
  rw [Int.natAbs_tdiv]; exact Nat.div_le_self _ _
def flo (c g : Int) : Int := if c.tmod g < 0 then c.tdiv g - 1 else c.tdiv g
theorem floor_eq {c g : Int} (hg : 0 < g) (hc : -68719476736 ≤ c ∧ c ≤ 68719476736) : linear_floor.f c g = some (flo c g) := by
  have := natAbs_tdiv_le c g
  unfold linear_floor.f flo
  rw [if_neg (by omega), wrap_id (n := c.tdiv g) (by omega) (by omega), wrap_id (n := c.tdiv g - 1) (by omega) (by omega)]
  split <;> rfl
theorem down_eq {c g : Int} (hg : 0 < g) (hc : -68719476736 ≤ c ∧ c ≤ 68719476736) : familycheckref01_down.f c g = some (flo c g) := by
  have := natAbs_tdiv_le c g
  unfold familycheckref01_down.f flo
  rw [if_neg (by omega), wrap_id (n := c.tdiv g) (by omega) (by omega), wrap_id (n := c.tdiv g - 1) (by omega) (by omega)]
  split <;> rfl
theorem flo_one (c : Int) : flo c 1 = c := by
  unfold flo; rw [if_neg (by rw [Int.tmod_one]; omega), Int.tdiv_one]
/-- What a floor leaves. -/
theorem flo_left {c g : Int} (hg : 0 < g) : ∃ r, c = g * flo c g + r ∧ 0 ≤ r ∧ r < g := by
  have h := Int.mul_tdiv_add_tmod c g
  have h1 := Int.tmod_lt_of_pos c hg
  have h2 : -g < c.tmod g := Int.lt_tmod_of_pos c hg
  unfold flo
  by_cases h0 : c.tmod g < 0
  · rw [if_pos h0]; exact ⟨c.tmod g + g, by rw [Int.mul_sub, Int.mul_one]; omega, by omega, by omega⟩
  · rw [if_neg h0]; exact ⟨c.tmod g, by omega, by omega, by omega⟩
theorem flo_in {c g : Int} (hg : 0 < g) (hc : -68719476736 ≤ c ∧ c ≤ 68719476736) : -68719476736 ≤ flo c g ∧ flo c g ≤ 68719476736 := by
  obtain ⟨r, h, h0, h1⟩ := flo_left (c := c) hg
  have := natAbs_tdiv_le c g
  refine ⟨?_, by unfold flo; split <;> omega⟩
  by_cases hq : flo c g < -68719476736
  · exfalso
    have h3 : g * flo c g ≤ g * (-68719476737) := Int.mul_le_mul_of_nonneg_left (by omega) (by omega)
    omega
  · omega

/-! ### Tighten -/
def tgt (l : List Int) (c : Int) : List Int × Int :=
  if sm l c = true then (if (gc l 0 : Int) ≤ 1 then (l, c) else (l.map fun x => x.tdiv (gc l 0 : Int), flo c (gc l 0 : Int))) else (l, c)
theorem small_tdiv {x : Int} (g : Int) (h : -68719476736 ≤ x ∧ x ≤ 68719476736) : -68719476736 ≤ x.tdiv g ∧ x.tdiv g ≤ 68719476736 := by
  have := natAbs_tdiv_le x g; omega
theorem tighten_l0 (l : List Int) (c g : Int) (hg : 0 < g) (hs : sm l c = true) (hn : l.length ≤ 4611686018427387904) (d : Nat) : ∀ i : Nat, i + d = l.length →
    Ev (fun k => linear_Tighten.l0 k g (l.length : Int) (i : Int) (part (fun x => x.tdiv g) l i) c) (l.map fun x => x.tdiv g, flo c g) := by
  obtain ⟨hl, hc⟩ := sm_get hs
  induction d with
  | zero =>
    intro i hi
    refine Ev.step (f := fun _ => some (l.map fun x => x.tdiv g, flo c g)) (fun k => ?_) (Ev.now _)
    simp only [linear_Tighten.l0]; rw [if_neg (by omega), floor_eq hg hc, part_all _ _ _ (by omega)]; rfl
  | succ d ih =>
    intro i hi
    have hlt : i < l.length := by omega
    have hx := small_tdiv g (hl _ (List.getElem_mem hlt))
    refine Ev.step (f := fun k => linear_Tighten.l0 k g (l.length : Int) ((i + 1 : Nat) : Int) (part (fun x => x.tdiv g) l (i + 1)) c) (fun k => ?_) (ih (i + 1) (by omega))
    simp only [linear_Tighten.l0]
    rw [if_pos (by omega), if_pos (by omega), if_pos (by rw [part_len]; omega), if_neg (by omega), part_get _ _ _ hlt, wrap_next hlt hn,
      wrap_id (by omega) (by omega), part_set (fun x => x.tdiv g) l i hlt _ rfl]
theorem clone_eq (l : List Int) (c : Int) (h : l.length ≤ 17592186044416) : linear_clone.f l c = some (l, c) := if_pos h
theorem tighten_ev (l : List Int) (c : Int) (hn : l.length ≤ 200) : Ev (fun k => linear_Tighten.f k l c) (tgt l c) := by
  unfold linear_Tighten.f tgt
  rw [clone_eq l c (by omega)]
  refine ev_bind (Ev.now _) (ev_bind (small_ev l c (by omega)) (ev_ite _ (fun h => ?_) (fun h => ?_)))
  · rw [if_pos h]
    refine ev_bind (divisor_ev l c (sm_get h).1 (by omega)) (ev_ite _ (fun h1 => ?_) (fun h1 => ?_))
    · rw [if_pos h1]; exact Ev.now _
    · rw [if_neg h1]
      have := tighten_l0 l c (gc l 0 : Int) (by omega) h (by omega) l.length 0 (by omega)
      rw [part_zero] at this
      exact this
  · rw [if_neg h]; exact Ev.now _
theorem rtighten_l1 (l : List Int) (c g : Int) (hg : 0 < g) (hs : sm l c = true) (hn : l.length ≤ 4611686018427387904) (d : Nat) : ∀ i : Nat, i + d = l.length →
    Ev (fun k => familycheckref01_Tighten.l1 k g (i : Int) (part (fun x => x.tdiv g) l i) c) (l.map fun x => x.tdiv g, flo c g) := by
  obtain ⟨hl, hc⟩ := sm_get hs
  induction d with
  | zero =>
    intro i hi
    refine Ev.step (f := fun _ => some (l.map fun x => x.tdiv g, flo c g)) (fun k => ?_) (Ev.now _)
    simp only [familycheckref01_Tighten.l1]; rw [part_len, if_neg (by omega), down_eq hg hc, part_all _ _ _ (by omega)]; rfl
  | succ d ih =>
    intro i hi
    have hlt : i < l.length := by omega
    have hx := small_tdiv g (hl _ (List.getElem_mem hlt))
    refine Ev.step (f := fun k => familycheckref01_Tighten.l1 k g ((i + 1 : Nat) : Int) (part (fun x => x.tdiv g) l (i + 1)) c) (fun k => ?_) (ih (i + 1) (by omega))
    simp only [familycheckref01_Tighten.l1]
    rw [part_len, if_pos (by omega), if_pos (by omega), if_neg (by omega), part_get _ _ _ hlt, wrap_next hlt hn,
      wrap_id (by omega) (by omega), part_set (fun x => x.tdiv g) l i hlt _ rfl]
theorem rtighten_l0 (l : List Int) (c : Int) (hs : sm l c = true) (hn : l.length ≤ 4611686018427387904) (d : Nat) : ∀ (i g : Nat), i + d = l.length →
    Ev (fun k => familycheckref01_Tighten.l0 k (g : Int) (i : Int) l c l c) (if gc (l.drop i) g = 0 then (l, c) else (l.map fun x => x.tdiv (gc (l.drop i) g : Int), flo c (gc (l.drop i) g : Int))) := by
  obtain ⟨hl, hc⟩ := sm_get hs
  induction d with
  | zero =>
    intro i g hi
    refine Ev.step (f := fun k => if (g : Int) = 0 then some (l, c) else familycheckref01_Tighten.l1 k (g : Int) 0 l c) (fun k => ?_) ?_
    · simp only [familycheckref01_Tighten.l0]; rw [if_neg (by omega)]
    · rw [List.drop_eq_nil_of_le (by omega)]
      refine ev_ite _ (fun h => ?_) (fun h => ?_)
      · rw [if_pos (by simpa [gc] using h)]; exact Ev.now _
      · have h' : ¬ gc [] g = 0 := by simpa [gc] using h
        rw [if_neg h']
        have := rtighten_l1 l c (g : Int) (by omega) hs hn l.length 0 (by omega)
        rw [part_zero] at this
        exact this
  | succ d ih =>
    intro i g hi
    have hlt : i < l.length := by omega
    refine Ev.step (f := fun k => (familycheckref01_gcd.f k (g : Int) (l[i].natAbs : Int)).bind fun t => familycheckref01_Tighten.l0 k t ((i + 1 : Nat) : Int) l c l c) (fun k => ?_) (ev_bind (rgcd_ev _ _) ?_)
    · simp only [familycheckref01_Tighten.l0]
      rw [if_pos (by omega), if_pos (by omega), rd_at l i hlt, abs_eq (hl _ (List.getElem_mem hlt)), wrap_next hlt hn]
      rfl
    · rw [List.drop_eq_getElem_cons hlt, gc]
      exact ih (i + 1) _ (by omega)
theorem rtighten_ev (l : List Int) (c : Int) (hn : l.length ≤ 200) : Ev (fun k => familycheckref01_Tighten.f k l c) (tgt l c) := by
  unfold familycheckref01_Tighten.f tgt
  rw [copyRow_eq l c hn]
  refine ev_bind (Ev.now _) (ev_bind (rsmall_ev l c (by omega)) (ev_ite _ (fun h => ?_) (fun h => ?_)))
  · rw [if_pos h]
    have := rtighten_l0 l c h (by omega) l.length 0 0 (by omega)
    rw [List.drop_zero] at this
    refine ev_eq this ?_
    by_cases h0 : gc l 0 = 0
    · rw [if_pos h0, if_pos (by omega)]
    · rw [if_neg h0]
      by_cases h1 : gc l 0 = 1
      · rw [if_pos (by omega), h1, show ((1 : Nat) : Int) = 1 from rfl, flo_one]
        have e : (l.map fun x => x.tdiv 1) = l := by
          rw [List.map_congr_left (g := id) (fun x _ => Int.tdiv_one x), List.map_id]
        rw [e]
      · rw [if_neg (by omega)]
  · rw [if_neg h]; exact Ev.now _
theorem tgt_len (l : List Int) (c : Int) : (tgt l c).1.length = l.length := by
  unfold tgt; split <;> (try split) <;> simp
theorem tgt_small {l : List Int} {c : Int} (hs : sm l c = true) : sm (tgt l c).1 (tgt l c).2 = true := by
  obtain ⟨hl, hc⟩ := sm_get hs
  unfold tgt
  rw [if_pos hs]
  by_cases h : (gc l 0 : Int) ≤ 1
  · rw [if_pos h]; exact hs
  · rw [if_neg h]
    refine sm_mk (fun x hx => ?_) (flo_in (by omega) hc)
    obtain ⟨y, hy, rfl⟩ := List.mem_map.1 hx
    exact small_tdiv _ (hl y hy)
theorem tgt_sign {l : List Int} {c : Int} (p : List Int) (hs : sm l c = true) : 0 ≤ (tgt l c).2 + dot (tgt l c).1 p ↔ 0 ≤ c + dot l p := by
  unfold tgt
  rw [if_pos hs]
  by_cases h : (gc l 0 : Int) ≤ 1
  · rw [if_pos h]
  · rw [if_neg h]
    have e : l = (l.map fun x => x.tdiv (gc l 0 : Int)).map fun x => (gc l 0 : Int) * x := by
      rw [List.map_map]
      conv => lhs; rw [← List.map_id l]
      exact List.map_congr_left fun x hx => (Int.mul_tdiv_cancel' ((gc_dvd l 0).2 x hx)).symm
    have e2 : dot l p = (gc l 0 : Int) * dot (l.map fun x => x.tdiv (gc l 0 : Int)) p := by
      conv => lhs; rw [e]
      exact dot_scale _ _ _
    obtain ⟨r, h1, h2, h3⟩ := flo_left (c := c) (g := (gc l 0 : Int)) (by omega)
    rw [e2]
    generalize (gc l 0 : Int) = g at *
    generalize flo c g = q at *
    generalize dot (l.map fun x => x.tdiv g) p = s at *
    constructor
    · intro hh
      have := Int.mul_nonneg (a := g) (b := q + s) (by omega) hh
      rw [Int.mul_add] at this; omega
    · intro hh
      by_cases hn : q + s < 0
      · exfalso
        have h4 : g * (q + s) ≤ g * (-1) := Int.mul_le_mul_of_nonneg_left (by omega) (by omega)
        rw [Int.mul_add] at h4; omega
      · omega

/-! ### spoil -/
theorem spoil_l0 (n : Nat) (hn : n ≤ 4611686018427387904) (d : Nat) : ∀ (i : Nat) (l : List Int), l.length = n → i + d = n → ∃ r, Ev (fun k => familychecklaw01_spoil.l0 k l (i : Int)) r := by
  induction d with
  | zero =>
    intro i l hl hi
    refine ⟨l, Ev.step (f := fun _ => some l) (fun k => ?_) (Ev.now _)⟩
    simp only [familychecklaw01_spoil.l0]; rw [if_neg (by omega)]
  | succ d ih =>
    intro i l hl hi
    obtain ⟨r, hr⟩ := ih (i + 1) (l.set (i : Int).toNat (-77)) (by rw [List.length_set]; exact hl) (by omega)
    refine ⟨r, Ev.step (f := fun k => familychecklaw01_spoil.l0 k (l.set (i : Int).toNat (-77)) ((i + 1 : Nat) : Int)) (fun k => ?_) hr⟩
    simp only [familychecklaw01_spoil.l0]
    rw [if_pos (by omega), if_pos (by omega), wrap_next (n := n) (by omega) hn]
theorem spoil_ev (l : List Int) (hn : l.length ≤ 4611686018427387904) : ∃ r, Ev (fun k => familychecklaw01_spoil.f k l) r := spoil_l0 l.length hn l.length 0 l rfl (by omega)
end Go.Proofs.YtbioiodjdfcooaaDoor.P
