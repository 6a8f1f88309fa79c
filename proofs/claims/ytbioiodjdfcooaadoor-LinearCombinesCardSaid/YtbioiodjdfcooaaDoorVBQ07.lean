/- LinearCombines, plain. -/
import Derived.Test.YtbioiodjdfcooaaDoorVBPx0
import Derived.Test.YtbioiodjdfcooaaDoorVBPx1
import Derived.Test.YtbioiodjdfcooaaDoorVBPx7
import Derived.Test.YtbioiodjdfcooaaDoorVBPx8
import Derived.Test.YtbioiodjdfcooaaDoorVBPx10
import Derived.Test.YtbioiodjdfcooaaDoorVBPx18
import Derived.Test.YtbioiodjdfcooaaDoorVBPx27
import Derived.Test.YtbioiodjdfcooaaDoorVBPx28
import Derived.Test.YtbioiodjdfcooaaDoorVBPx29
import Derived.Test.YtbioiodjdfcooaaDoorVBPx30
import Derived.Test.YtbioiodjdfcooaaDoorVBPx31
import Derived.Test.YtbioiodjdfcooaaDoorVBQc
namespace Go.Proofs.YtbioiodjdfcooaaDoor.P
open Go.RowKit Go.Proofs.YtbioiodjdfcooaaDoorW.PrintWords Go.Proofs.YtbioiodjdfcooaaDoorW.PrintLast Go.Proofs.YtbioiodjdfcooaaDoorW.PrintMore
set_option linter.unusedVariables false
/-! ### a fresh row filled from the left -/
def fill (Z : List Int) (i : Nat) : List Int := Z.take i ++ List.replicate (Z.length - i) 0
theorem fill_zero (Z : List Int) : fill Z 0 = List.replicate Z.length 0 := by simp [fill]
theorem fill_all (Z : List Int) (i : Nat) (h : Z.length ≤ i) : fill Z i = Z := by
  have e : Z.length - i = 0 := by omega
  simp [fill, List.take_of_length_le h, e]
theorem fill_len (Z : List Int) (i : Nat) (h : i ≤ Z.length) : (fill Z i).length = Z.length := by
  simp [fill]; omega
theorem fill_set (Z : List Int) (i : Nat) (h : i < Z.length) (y : Int) (hy : y = Z[i]) : (fill Z i).set (i : Int).toNat y = fill Z (i + 1) := by
  subst hy
  unfold fill
  rw [Int.toNat_natCast, List.set_append_right _ _ (by simp; omega), List.take_succ_eq_append_getElem h]
  have e : i - (Z.take i).length = 0 := by simp; omega
  have e2 : Z.length - i = (Z.length - (i + 1)) + 1 := by omega
  rw [e, e2, List.replicate_succ, List.set_cons_zero, List.append_assoc]
  rfl
/-- Two rows mixed, as the code mixes them. -/
def mixed (x y : Int) (l m : List Int) : List Int := List.zipWith (fun a b => wrap64 (wrap64 (x * a) + wrap64 (y * b))) l m
def mixedC (x y c e : Int) : Int := wrap64 (wrap64 (x * c) + wrap64 (y * e))
theorem mixed_len (x y : Int) (l m : List Int) (h : l.length = m.length) : (mixed x y l m).length = l.length := by simp [mixed, h]
def fits (l : List Int) (c : Int) : List Int × Int × Int := if sm l c = true then (l, c, 0) else ([], 0, 4)
def factor (x : Int) : Bool := decide (0 ≤ x) && decide (x ≤ 65536)
theorem factor_eq (x : Int) : linear_factor.f x = some (factor x) := by
  unfold linear_factor.f factor
  by_cases h : (0 : Int) ≤ x
  · rw [if_pos h]; simp [h]
  · rw [if_neg h]; simp [h]
def comb (l : List Int) (c x : Int) (m : List Int) (e y : Int) : List Int × Int × Int :=
  if l.length = m.length ∧ l.length ≤ 96 ∧ factor x = true ∧ factor y = true then (if sm l c = true ∧ sm m e = true then fits (mixed x y l m) (mixedC x y c e) else ([], 0, 4)) else ([], 0, 1)
theorem combine_l0 (x y : Int) (l m : List Int) (c e C : Int) (he : l.length = m.length) (hn : l.length ≤ 200) (d : Nat) : ∀ i : Nat, i + d = l.length →
    Ev (fun k => linear_Combine.l0 k x y (l.length : Int) (i : Int) l c m e (fill (mixed x y l m) i) C) (fits (mixed x y l m) C) := by
  have hZ := mixed_len x y l m he
  induction d with
  | zero =>
    intro i hi
    refine Ev.step (f := fun k => (linear_small.f k (mixed x y l m) C).bind fun t => if t = true then some (mixed x y l m, C, 0) else some ([], 0, 4)) (fun k => ?_) (ev_bind (small_ev _ _ (by omega)) ?_)
    · simp only [linear_Combine.l0]; rw [if_neg (by omega), fill_all _ _ (by omega)]
    · unfold fits
      refine ev_ite _ (fun h => ?_) (fun h => ?_)
      · rw [if_pos h]; exact Ev.now _
      · rw [if_neg h]; exact Ev.now _
  | succ d ih =>
    intro i hi
    have hlt : i < l.length := by omega
    have hlm : i < m.length := by omega
    refine Ev.step (f := fun k => linear_Combine.l0 k x y (l.length : Int) ((i + 1 : Nat) : Int) l c m e (fill (mixed x y l m) (i + 1)) C) (fun k => ?_) (ih (i + 1) (by omega))
    simp only [linear_Combine.l0]
    rw [if_pos (by omega), if_pos (by omega), if_pos (by omega), if_pos (by omega), if_pos (by rw [fill_len _ _ (by omega)]; omega), rd_at l i hlt, rd_at m i hlm, wrap_next hlt (by omega),
      fill_set _ i (by omega) _ (by simp [mixed])]
theorem combine_ev (l : List Int) (c x : Int) (m : List Int) (e y : Int) (hn : l.length ≤ 200) (hm : m.length ≤ 200) : Ev (fun k => linear_Combine.f k l c x m e y) (comb l c x m e y) := by
  have hbad : ∀ {b : Bool}, b = true → ¬ (l.length = m.length ∧ l.length ≤ 96 ∧ factor x = true ∧ factor y = true) → Ev (fun k => linear_Combine.j0 k x y b l c m e) (comb l c x m e y) := by
    intro b hb hh
    subst hb
    refine Ev.step (f := fun _ => some ([], 0, 1)) (fun k => ?_) (ev_eq (Ev.now _) ?_)
    · simp only [linear_Combine.j0]; rfl
    · unfold comb; rw [if_neg hh]
  unfold linear_Combine.f
  rw [factor_eq, factor_eq]
  simp only [Option.bind_some]
  refine ev_ite _ (fun h1 => ?_) (fun h1 => hbad rfl (fun h => h1 (by omega)))
  refine ev_ite _ (fun h2 => hbad rfl (fun h => by omega)) (fun h2 => ?_)
  refine ev_ite _ (fun h3 => ?_) (fun h3 => hbad rfl (fun h => h3 h.2.2.1))
  cases h4 : factor y
  · exact hbad rfl (fun h => by rw [h4] at h; exact absurd h.2.2.2 (by simp))
  · have hbad1 : ∀ {b : Bool}, b = true → ¬ (sm l c = true ∧ sm m e = true) → Ev (fun k => linear_Combine.j1 k x y b l c m e) (comb l c x m e y) := by
      intro b hb hh
      subst hb
      refine Ev.step (f := fun _ => some ([], 0, 4)) (fun k => ?_) (ev_eq (Ev.now _) ?_)
      · simp only [linear_Combine.j1]; rfl
      · unfold comb; rw [if_pos ⟨by omega, by omega, h3, h4⟩, if_neg hh]
    refine Ev.step (f := fun k => (linear_small.f k l c).bind fun t => if t = true then ((linear_small.f k m e).bind fun s => linear_Combine.j1 k x y (!s) l c m e) else linear_Combine.j1 k x y true l c m e) (fun k => ?_) (ev_bind (small_ev l c (by omega)) ?_)
    · simp only [linear_Combine.j0]; rfl
    · refine ev_ite _ (fun h5 => ev_bind (small_ev m e (by omega)) ?_) (fun h5 => hbad1 rfl (fun h => h5 h.1))
      cases h6 : sm m e
      · exact hbad1 rfl (fun h => by rw [h6] at h; exact absurd h.2 (by simp))
      · refine Ev.step (f := fun k => linear_Combine.l0 k x y (l.length : Int) 0 l c m e (List.replicate l.length 0) (mixedC x y c e)) (fun k => ?_) ?_
        · simp only [linear_Combine.j1]
          rw [if_neg (by simp), if_pos (by omega), if_pos (by omega), Int.toNat_natCast]; rfl
        · have h := combine_l0 x y l m c e (mixedC x y c e) (by omega) hn l.length 0 (by omega)
          rw [fill_zero, mixed_len _ _ _ _ (by omega)] at h
          refine ev_eq h ?_
          unfold comb
          rw [if_pos ⟨by omega, by omega, h3, h4⟩, if_pos ⟨h5, h6⟩]
theorem mix_l0 (x y : Int) (l m : List Int) (c e C : Int) (he : l.length = m.length) (hn : l.length ≤ 200) (d : Nat) : ∀ i : Nat, i + d = l.length →
    Ev (fun k => familycheckref01_mix.l0 k x y (i : Int) l c m e ((mixed x y l m).take i) C) (mixed x y l m, C) := by
  have hZ := mixed_len x y l m he
  induction d with
  | zero =>
    intro i hi
    refine Ev.step (f := fun _ => some (mixed x y l m, C)) (fun k => ?_) (Ev.now _)
    simp only [familycheckref01_mix.l0]; rw [if_neg (by omega), List.take_of_length_le (by omega)]
  | succ d ih =>
    intro i hi
    have hlt : i < l.length := by omega
    have hlm : i < m.length := by omega
    refine Ev.step (f := fun k => familycheckref01_mix.l0 k x y ((i + 1 : Nat) : Int) l c m e ((mixed x y l m).take (i + 1)) C) (fun k => ?_) (ih (i + 1) (by omega))
    simp only [familycheckref01_mix.l0]
    rw [if_pos (by omega), if_pos (by omega), if_pos (by omega), if_pos (by rw [List.length_take]; omega), rd_at l i hlt, rd_at m i hlm, wrap_next hlt (by omega), List.take_succ_eq_append_getElem (l := mixed x y l m) (i := i) (by omega)]
    simp [mixed]
theorem mix_ev (l : List Int) (c x : Int) (m : List Int) (e y : Int) (he : l.length = m.length) (hn : l.length ≤ 200) : Ev (fun k => familycheckref01_mix.f k l c x m e y) (mixed x y l m, mixedC x y c e) := by
  have h := mix_l0 x y l m c e (mixedC x y c e) he hn l.length 0 (by omega)
  rw [List.take_zero] at h
  exact h
theorem rcombine_ev (l : List Int) (c x : Int) (m : List Int) (e y : Int) (hn : l.length ≤ 200) (hm : m.length ≤ 200) : Ev (fun k => familycheckref01_Combine.f k l c x m e y) (comb l c x m e y) := by
  have hw : ∀ x : Int, familycheckref01_within.f x 0 65536 = some (factor x) := fun x => by rw [rwithin_eq]; rfl
  have hbad : ∀ {b : Bool}, b = true → ¬ (l.length = m.length ∧ l.length ≤ 96 ∧ factor x = true ∧ factor y = true) → Ev (fun k => familycheckref01_Combine.j0 k x y b l c m e) (comb l c x m e y) := by
    intro b hb hh
    subst hb
    refine Ev.step (f := fun _ => some ([], 0, 1)) (fun k => ?_) (ev_eq (Ev.now _) ?_)
    · simp only [familycheckref01_Combine.j0]; rfl
    · unfold comb; rw [if_neg hh]
  unfold familycheckref01_Combine.f
  rw [hw, hw]
  simp only [Option.bind_some]
  refine ev_ite _ (fun h1 => ?_) (fun h1 => hbad rfl (fun h => h1 (by omega)))
  refine ev_ite _ (fun h2 => hbad rfl (fun h => by omega)) (fun h2 => ?_)
  refine ev_ite _ (fun h3 => ?_) (fun h3 => hbad rfl (fun h => h3 h.2.2.1))
  cases h4 : factor y
  · exact hbad rfl (fun h => by rw [h4] at h; exact absurd h.2.2.2 (by simp))
  · have hbad1 : ∀ {b : Bool}, b = true → ¬ (sm l c = true ∧ sm m e = true) → Ev (fun k => familycheckref01_Combine.j1 k x y b l c m e) (comb l c x m e y) := by
      intro b hb hh
      subst hb
      refine Ev.step (f := fun _ => some ([], 0, 4)) (fun k => ?_) (ev_eq (Ev.now _) ?_)
      · simp only [familycheckref01_Combine.j1]; rfl
      · unfold comb; rw [if_pos ⟨by omega, by omega, h3, h4⟩, if_neg hh]
    refine Ev.step (f := fun k => (familycheckref01_Small.f k l c).bind fun t => if t = true then ((familycheckref01_Small.f k m e).bind fun s => familycheckref01_Combine.j1 k x y (!s) l c m e) else familycheckref01_Combine.j1 k x y true l c m e) (fun k => ?_) (ev_bind (rsmall_ev l c (by omega)) ?_)
    · simp only [familycheckref01_Combine.j0]; rfl
    · refine ev_ite _ (fun h5 => ev_bind (rsmall_ev m e (by omega)) ?_) (fun h5 => hbad1 rfl (fun h => h5 h.1))
      cases h6 : sm m e
      · exact hbad1 rfl (fun h => by rw [h6] at h; exact absurd h.2 (by simp))
      · have hZ := mixed_len x y l m (by omega)
        refine Ev.step (f := fun k => (familycheckref01_mix.f k l c x m e y).bind fun b => (familycheckref01_Small.f k b.1 b.2).bind fun t => if t = true then some (b.1, b.2, 0) else some ([], 0, 4)) (fun k => ?_) (ev_bind (mix_ev l c x m e y (by omega) hn) (ev_bind (rsmall_ev (mixed x y l m) (mixedC x y c e) (by omega)) ?_))
        · simp only [familycheckref01_Combine.j1]; rfl
        · have ec : comb l c x m e y = fits (mixed x y l m) (mixedC x y c e) := by unfold comb; rw [if_pos ⟨by omega, by omega, h3, h4⟩, if_pos ⟨h5, h6⟩]
          rw [ec]
          unfold fits
          refine ev_ite _ (fun h => ?_) (fun h => ?_)
          · rw [if_pos h]; exact Ev.now _
          · rw [if_neg h]; exact Ev.now _
theorem comb_len (l : List Int) (c x : Int) (m : List Int) (e y : Int) (hn : l.length ≤ 200) : (comb l c x m e y).1.length ≤ 200 := by
  unfold comb fits
  split
  · rename_i h
    split
    · split
      · rw [mixed_len _ _ _ _ h.1]; exact hn
      · simp
    · simp
  · simp
theorem linearCombines_ev (l : List Int) (c : Int) (m : List Int) (e x y : Int) : Ev (fun k => familychecklaw01_LinearCombines.f k l c m e x y) true := by
  have hend : ∀ {b : Bool}, b = true → Ev (fun k => familychecklaw01_LinearCombines.j0 k b l c m e x y) true := by
    intro b hb
    subst hb
    refine Ev.step (f := fun k => (familychecklaw01_known.f k).bind fun t => some t) (fun k => ?_) known_end
    simp only [familychecklaw01_LinearCombines.j0]; rfl
  unfold familychecklaw01_LinearCombines.f
  rw [long_eq, long_eq]
  simp only [Option.bind_some]
  refine ev_ite _ (fun _ => hend rfl) (fun h1 => ?_)
  simp at h1
  by_cases h3 : (m.length : Int) > 200
  · exact hend (by simpa using h3)
  · rw [decide_eq_false h3]
    have hl := comb_len l c x m e y (by omega)
    refine Ev.step (f := fun k => (linear_Combine.f k l c x m e y).bind fun a => (familycheckref01_Combine.f k l c x m e y).bind fun b => if a.2.2 = b.2.2 then ((familycheckref01_SameRow.f k a.1 a.2.1 b.1 b.2.1).bind fun t => familychecklaw01_LinearCombines.j1 k t l c m e x y l c m e a.1 a.2.1) else familychecklaw01_LinearCombines.j1 k false l c m e x y l c m e a.1 a.2.1) (fun k => ?_) ?_
    · simp only [familychecklaw01_LinearCombines.j0]; rw [copyRow_eq l c (by omega), copyRow_eq m e (by omega)]; rfl
    · refine ev_bind (combine_ev l c x m e y (by omega) (by omega)) (ev_bind (rcombine_ev l c x m e y (by omega) (by omega)) (Ev.congr (fun k => if_pos rfl) (ev_bind (sameRow_self _ _ (by omega)) ?_)))
      obtain ⟨r, hr⟩ := spoil_ev (comb l c x m e y).1 (by omega)
      refine Ev.step (f := fun k => (familychecklaw01_spoil.f k (comb l c x m e y).1).bind fun _ => (familycheckref01_SameRow.f k l c l c).bind fun t => if t = true then ((familycheckref01_SameRow.f k m e m e).bind fun s => if s = true then ((familychecklaw01_known.f k).bind fun t => some t) else some false) else some false) (fun k => ?_) ?_
      · simp only [familychecklaw01_LinearCombines.j1]; rfl
      · exact ev_bind hr (ev_bind (sameRow_self l c (by omega)) (Ev.congr (fun k => if_pos rfl) (ev_bind (sameRow_self m e (by omega)) (Ev.congr (fun k => if_pos rfl) known_end))))
end Go.Proofs.YtbioiodjdfcooaaDoor.P
