import Derived.Test.YtbioiodjdfcooaaDoorVAPx0
import Derived.Test.YtbioiodjdfcooaaDoorVAPx1
import Derived.Test.YtbioiodjdfcooaaDoorVAPx2
import Derived.Test.YtbioiodjdfcooaaDoorVAPx7
import Derived.Test.YtbioiodjdfcooaaDoorVAPx10
import Derived.Test.YtbioiodjdfcooaaDoorVAPx22
import Derived.Test.YtbioiodjdfcooaaDoorVAPx23
-- Written by a program of this session (wip/tools/doprint.sh: the kit's print, with given texts for some functions).
namespace Go.Proofs.YtbioiodjdfcooaaDoor.P
open Go.RowKit Go.Proofs.YtbioiodjdfcooaaDoorW.PrintWords Go.Proofs.YtbioiodjdfcooaaDoorW.PrintLast Go.Proofs.YtbioiodjdfcooaaDoorW.PrintMore
attribute [local go_sem] max2_int min2_int max_two min_two max_three min_three max_four min_four   -- for this text's walks alone
set_option linter.unusedVariables false
set_option linter.unusedSimpArgs false

/-! ### familychecklaw01_LinearNegates: function 8 -/
mutual
def familychecklaw01_LinearNegates.j0 : Nat → List Int → Bool → List Int → Int → Option (Bool)
  | 0, _, _, _, _ => none
  | k + 1, x1, x19, x345000, x345001 => if x19 = true then ((familychecklaw01_known.f k).bind fun t346 => (some t346)) else ((linear_Negate.f k x345000 x345001).bind fun bt347 => ((familycheckref01_Negate.f k x345000 x345001).bind fun bt353 => (if bt347.2.2 = bt353.2.2 then ((familycheckref01_SameRow.f k bt347.1 bt347.2.1 bt353.1 bt353.2.1).bind fun t359 => (familychecklaw01_LinearNegates.j1 k x1 bt347.2.2 (!t359) x345000 x345001 bt347.1 bt347.2.1)) else (familychecklaw01_LinearNegates.j1 k x1 bt347.2.2 true x345000 x345001 bt347.1 bt347.2.1))))
def familychecklaw01_LinearNegates.j1 : Nat → List Int → Int → Bool → List Int → Int → List Int → Int → Option (Bool)
  | 0, _, _, _, _, _, _, _ => none
  | k + 1, x1, x6, x39, x345000, x345001, x353000, x353001 => if x39 = true then (some false) else ((linear_Value.f k x345000 x345001 x1).bind fun bt360 => (if x6 = 0 then (familychecklaw01_LinearNegates.j2 k x1 bt360.1 (bt360.2 != 0) x353000 x353001) else (familychecklaw01_LinearNegates.j2 k x1 bt360.1 true x353000 x353001)))
def familychecklaw01_LinearNegates.j2 : Nat → List Int → Int → Bool → List Int → Int → Option (Bool)
  | 0, _, _, _, _, _ => none
  | k + 1, x1, x9, x51, x353000, x353001 => if x51 = true then ((familychecklaw01_known.f k).bind fun t362 => (some t362)) else ((linear_Value.f k x353000 x353001 x1).bind fun bt363 => (if bt363.2 = 0 then (if ((decide (x9 ≥ 0)) != (decide (bt363.1 ≥ 0))) = true then ((familychecklaw01_known.f k).bind fun t365 => (some t365)) else (some false)) else (some false)))
end
def familychecklaw01_LinearNegates.f (k : Nat) (l0_0 : List Int) (a0_1 : Int) (l1 : List Int) : Option (Bool) := (familychecklaw01_long.f l0_0 a0_1).bind fun t345 => (if t345 = true then (familychecklaw01_LinearNegates.j0 k l1 true l0_0 a0_1) else (familychecklaw01_LinearNegates.j0 k l1 (decide ((l1.length : Int) > 200)) l0_0 a0_1))
set_option maxHeartbeats 8000000 in
set_option maxRecDepth 100000 in
theorem familychecklaw01_LinearNegates.calls (k : Nat) (A0_0 : Option Addr) (c0_0 : Nat) (l0_0 : List Int) (a0_1 : Int) (A1 : Option Addr) (c1 : Nat) (l1 : List Int) (r : Bool) (w : World) (hr0_0 : Kd.C (Kd.int .i64) w A0_0 l0_0.length l0_0) (hc0_0 : l0_0.length ≤ c0_0) (hr1 : Kd.C (Kd.int .i64) w A1 l1.length l1) (hc1 : l1.length ≤ c1) (h : familychecklaw01_LinearNegates.f k l0_0 a0_1 l1 = some r) :
    Calls Tryd.prog 8 #[.agg #[.slice A0_0 l0_0.length c0_0, .int .i64 a0_1], .slice A1 l1.length c1] w fun e w' => e = .returned (.bool r) ∧ Below w.heap.size w w' := by
  have hu33 := Tryd.underlying33
  have HR0_0 := Aside0.mk hr0_0
  have HC0_0 := Aside0.mk hc0_0
  clear hr0_0 hc0_0
  have HR1 := Aside0.mk hr1
  have HC1 := Aside0.mk hc1
  clear hr1 hc1
  have HB := Aside0.mk (Below.refl w.heap.size w)
  have H : ((familychecklaw01_long.f l0_0 a0_1).bind fun t345 => (if t345 = true then (familychecklaw01_LinearNegates.j0 k l1 true l0_0 a0_1) else (familychecklaw01_LinearNegates.j0 k l1 (decide ((l1.length : Int) > 200)) l0_0 a0_1))) = some r := h
  clear h
  have HC3 := Aside0.mk H
  clear H
  go_enter Tryd.func8, Tryd.ntmps8
  go_upto_region 1 with (first | ((with_reducible refine gate_dst (N := 2) rfl ?_); (try (refine gate_guard (by rfl) ?_; dsimp only)); refine box_event ?hg (N := 2) ?hd (cs := #[.slice A0_0 l0_0.length c0_0, .int .i64 a0_1]) (t := 33) ?hr ?_; (case hd => rfl); (case hg => rfl); (case hr => first | (go_simp; done) | (go_simp; rfl)); intro gb344 hg w4 hbox hb; have n0_ := Aside0.mk (below_step (by repeat (first | (with_reducible first | exact HB.out | apply below_alloc | apply pw_below_drewN | apply below_drew1) | exact HB.out)) hb); have n1_ := Aside0.mk (hbox); have n2_ := Aside0.mk ((by rw [hg]; exact (below_size (by repeat (first | (with_reducible first | exact HB.out | apply below_alloc | apply pw_below_drewN | apply below_drew1) | exact HB.out))) : w.heap.size ≤ gb344)); have n3_ := Aside0.mk ((by rw [hg]; exact (below_size (by repeat (first | (with_reducible first | exact HB.out | apply below_alloc | apply pw_below_drewN | apply below_drew1) | exact HB.out))) : w.heap.size ≤ gb344)); clear HB; have HB := n0_; have BK344 := n1_; have GW344 := n2_; have GE344 := n3_; clear n0_ n1_ n2_ n3_; clear hb hbox hg))
  (try simp only [Act.put, List.setIfInBounds_toArray, List.set_cons_zero, List.set_cons_succ])
  go_cut [19] (fun v19 wc => ∃ (kq : Nat) (x19_2 : Bool), v19 = .bool x19_2 ∧ Aside0 (familychecklaw01_LinearNegates.j0 kq l1 x19_2 l0_0 a0_1 = some r) ∧ Aside0 (kq ≤ k) ∧ Aside0 (wc.heap[gb344]? = some (.cells #[(.slice A0_0 l0_0.length c0_0), .int .i64 a0_1] 33 (0, 0))) ∧ Aside0 (Below w.heap.size w wc))
  case first =>
    have H := HC3.out
    clear HC3
    replace H := Option.bind_eq_some_iff.mp H
    obtain ⟨t345, A50, H⟩ := H
    replace H : (if t345 = true then (familychecklaw01_LinearNegates.j0 k l1 true l0_0 a0_1) else (familychecklaw01_LinearNegates.j0 k l1 (decide ((l1.length : Int) > 200)) l0_0 a0_1)) = some r := H
    have A5 := Aside0.mk A50
    clear A50
    by_cases c6 : t345 = true
    · subst c6
      have H1 : (familychecklaw01_LinearNegates.j0 k l1 true l0_0 a0_1) = some r := by rw [if_pos rfl] at H; exact H
      clear H
      have H := H1
      clear H1
      have H' := Aside0.mk H
      clear H
      have hcz7_0 : w4.cell? ⟨gb344, 0, none⟩ = some (.slice A0_0 l0_0.length c0_0) := (blk_cell BK344.out 0).trans rfl
      have hcz7_1 : w4.cell? ⟨gb344, 1, none⟩ = some (.int .i64 a0_1) := (blk_cell BK344.out 1).trans rfl
      have hfz7_0 := blk_frozen BK344.out 0
      have hfz7_1 := blk_frozen BK344.out 1
      go_wp2_with (first | ((with_reducible refine gate_callee (f := 21) rfl ?_); refine goesL_ (some 14) rfl rfl Tryd.func21 (by kernel_rfl) rfl #[.agg #[.slice A0_0 l0_0.length c0_0, .int .i64 a0_1]] rfl (by (try simp only [List.map_toArray, List.map_cons, List.map_nil]); first | done | rfl | (simp only [List.length_drop, List.length_take]; rfl)) ?_; (with_reducible refine (familychecklaw01_long.calls _ _ l0_0 a0_1 true _ ?side1 ?side2 A5.out).mono ?_); (case side1 => repeat (first | exact (Kd.C_below HR0_0.out HB.out) | (with_reducible refine Kd.C_alloc ?_ _) | (with_reducible refine Kd.C_drewN ?_ _) | (with_reducible refine Kd.C_drew ?_))); (case side2 => exact HC0_0.out); rintro e w8 ⟨rfl, hb⟩; refine ⟨_, rfl, ?_⟩; have n0_ := Aside0.mk (blk_below (g := gb344) (o := .cells #[.slice A0_0 l0_0.length c0_0, .int .i64 a0_1] 33 (0, 0)) (by (with_reducible repeat (first | refine blk_drewN ?_ _ | refine blk_drew ?_ | refine blk_alloc ?_ _)); exact BK344.out) hb); have n1_ := Aside0.mk (below_step (by repeat (first | (with_reducible first | exact HB.out | apply below_alloc | apply pw_below_drewN | apply below_drew1 | refine below_set ?_ GE344.out) | exact HB.out)) hb); clear BK344; clear HB; have BK344 := n0_; have HB := n1_; clear n0_ n1_; (try clear hb); (try clear hb2); (try clear hk); (try clear hi)))
      go_meet
      case rel => exact ⟨_, (true), (by first | rfl | (simp; done) | (simp [*]; done)), H', ⟨by first | omega | exact Nat.le_refl _⟩, ⟨by (with_reducible repeat (first | refine blk_drewN ?_ _ | refine blk_drew ?_ | refine blk_alloc ?_ _)); exact BK344.out⟩, ⟨by repeat (first | (with_reducible first | exact HB.out | apply below_alloc | apply pw_below_drewN | apply below_drew1 | refine below_set ?_ GE344.out) | exact HB.out)⟩⟩
    · replace c6 := Bool.eq_false_iff.mpr c6
      subst c6
      have H1 : (familychecklaw01_LinearNegates.j0 k l1 (decide ((l1.length : Int) > 200)) l0_0 a0_1) = some r := by rw [if_neg (show ¬ (false = true) by decide)] at H; exact H
      clear H
      have H := H1
      clear H1
      have H' := Aside0.mk H
      clear H
      have hcz9_0 : w4.cell? ⟨gb344, 0, none⟩ = some (.slice A0_0 l0_0.length c0_0) := (blk_cell BK344.out 0).trans rfl
      have hcz9_1 : w4.cell? ⟨gb344, 1, none⟩ = some (.int .i64 a0_1) := (blk_cell BK344.out 1).trans rfl
      have hfz9_0 := blk_frozen BK344.out 0
      have hfz9_1 := blk_frozen BK344.out 1
      go_wp2_with (first | ((with_reducible refine gate_callee (f := 21) rfl ?_); refine goesL_ (some 14) rfl rfl Tryd.func21 (by kernel_rfl) rfl #[.agg #[.slice A0_0 l0_0.length c0_0, .int .i64 a0_1]] rfl (by (try simp only [List.map_toArray, List.map_cons, List.map_nil]); first | done | rfl | (simp only [List.length_drop, List.length_take]; rfl)) ?_; (with_reducible refine (familychecklaw01_long.calls _ _ l0_0 a0_1 false _ ?side1 ?side2 A5.out).mono ?_); (case side1 => repeat (first | exact (Kd.C_below HR0_0.out HB.out) | (with_reducible refine Kd.C_alloc ?_ _) | (with_reducible refine Kd.C_drewN ?_ _) | (with_reducible refine Kd.C_drew ?_))); (case side2 => exact HC0_0.out); rintro e w10 ⟨rfl, hb⟩; refine ⟨_, rfl, ?_⟩; have n0_ := Aside0.mk (blk_below (g := gb344) (o := .cells #[.slice A0_0 l0_0.length c0_0, .int .i64 a0_1] 33 (0, 0)) (by (with_reducible repeat (first | refine blk_drewN ?_ _ | refine blk_drew ?_ | refine blk_alloc ?_ _)); exact BK344.out) hb); have n1_ := Aside0.mk (below_step (by repeat (first | (with_reducible first | exact HB.out | apply below_alloc | apply pw_below_drewN | apply below_drew1 | refine below_set ?_ GE344.out) | exact HB.out)) hb); clear BK344; clear HB; have BK344 := n0_; have HB := n1_; clear n0_ n1_; (try clear hb); (try clear hb2); (try clear hk); (try clear hi)))
      go_meet
      case rel => exact ⟨_, (decide ((l1.length : Int) > 200)), (by first | rfl | (simp; done) | (simp [*]; done)), H', ⟨by first | omega | exact Nat.le_refl _⟩, ⟨by (with_reducible repeat (first | refine blk_drewN ?_ _ | refine blk_drew ?_ | refine blk_alloc ?_ _)); exact BK344.out⟩, ⟨by repeat (first | (with_reducible first | exact HB.out | apply below_alloc | apply pw_below_drewN | apply below_drew1 | refine below_set ?_ GE344.out) | exact HB.out)⟩⟩
  case rest =>
    clear HC3
    try clear c1
    try clear c2
    try clear p2
    try clear c6
    try clear c8
    try clear hcz7_0
    try clear hcz7_1
    try clear hcz9_0
    try clear hcz9_1
    try clear hfz7_0
    try clear hfz7_1
    try clear hfz9_0
    try clear hfz9_1
    obtain ⟨kq, x19_2, rfl, HA, HJ2, BK344, HB⟩ := hcut
    cases kq with
    | zero => exact absurd HA.out (by simp [familychecklaw01_LinearNegates.j0])
    | succ kj2 =>
      have H := HA.out
      clear HA
      simp only [familychecklaw01_LinearNegates.j0] at H
      by_cases c11 : x19_2 = true
      · subst c11
        have H1 : ((familychecklaw01_known.f kj2).bind fun t346 => (some t346)) = some r := by rw [if_pos rfl] at H; exact H
        clear H
        have H := H1
        clear H1
        replace H := Option.bind_eq_some_iff.mp H
        obtain ⟨t346, A120, H⟩ := H
        replace H : (some t346) = some r := H
        have A12 := Aside0.mk A120
        clear A120
        obtain rfl := Option.some.inj H
        go_wp2_with (first | ((with_reducible refine gate_callee (f := 16) rfl ?_); refine goesL_ (some 20) rfl rfl Tryd.func16 (by kernel_rfl) rfl #[] rfl (by (try simp only [List.map_toArray, List.map_cons, List.map_nil]); first | done | rfl | (simp only [List.length_drop, List.length_take]; rfl)) ?_; (with_reducible refine (familychecklaw01_known.calls kj2  t346 _ A12.out).mono ?_); rintro e w13 ⟨rfl, hb⟩; refine ⟨_, rfl, ?_⟩; have n0_ := Aside0.mk (blk_below (g := gb344) (o := .cells #[.slice A0_0 l0_0.length c0_0, .int .i64 a0_1] 33 (0, 0)) (by (with_reducible repeat (first | refine blk_drewN ?_ _ | refine blk_drew ?_ | refine blk_alloc ?_ _)); exact BK344.out) hb); have n1_ := Aside0.mk (below_step (by repeat (first | (with_reducible first | exact HB.out | apply below_alloc | apply pw_below_drewN | apply below_drew1 | refine below_set ?_ GE344.out) | exact HB.out)) hb); clear BK344; clear HB; have BK344 := n0_; have HB := n1_; clear n0_ n1_; (try clear hb); (try clear hb2); (try clear hk); (try clear hi)))
        go_ret
        exact ⟨by first | rfl | (simp [errW_none, errW_some] <;> rfl) | (simp [*, errW_none, errW_some] <;> rfl), by repeat (first | (with_reducible first | exact HB.out | apply below_alloc | apply pw_below_drewN | apply below_drew1 | refine below_set ?_ GE344.out) | exact HB.out)⟩
      · replace c11 := Bool.eq_false_iff.mpr c11
        subst c11
        have H1 : ((linear_Negate.f kj2 l0_0 a0_1).bind fun bt347 => ((familycheckref01_Negate.f kj2 l0_0 a0_1).bind fun bt353 => (if bt347.2.2 = bt353.2.2 then ((familycheckref01_SameRow.f kj2 bt347.1 bt347.2.1 bt353.1 bt353.2.1).bind fun t359 => (familychecklaw01_LinearNegates.j1 kj2 l1 bt347.2.2 (!t359) l0_0 a0_1 bt347.1 bt347.2.1)) else (familychecklaw01_LinearNegates.j1 kj2 l1 bt347.2.2 true l0_0 a0_1 bt347.1 bt347.2.1)))) = some r := by rw [if_neg (show ¬ (false = true) by decide)] at H; exact H
        clear H
        have H := H1
        clear H1
        replace H := Option.bind_eq_some_iff.mp H
        obtain ⟨⟨t347, t350, t351⟩, A140, H⟩ := H
        replace H : ((familycheckref01_Negate.f kj2 l0_0 a0_1).bind fun bt353 => (if t351 = bt353.2.2 then ((familycheckref01_SameRow.f kj2 t347 t350 bt353.1 bt353.2.1).bind fun t359 => (familychecklaw01_LinearNegates.j1 kj2 l1 t351 (!t359) l0_0 a0_1 t347 t350)) else (familychecklaw01_LinearNegates.j1 kj2 l1 t351 true l0_0 a0_1 t347 t350))) = some r := H
        have A14 := Aside0.mk A140
        clear A140
        replace H := Option.bind_eq_some_iff.mp H
        obtain ⟨⟨t353, t356, t357⟩, A150, H⟩ := H
        replace H : (if t351 = t357 then ((familycheckref01_SameRow.f kj2 t347 t350 t353 t356).bind fun t359 => (familychecklaw01_LinearNegates.j1 kj2 l1 t351 (!t359) l0_0 a0_1 t347 t350)) else (familychecklaw01_LinearNegates.j1 kj2 l1 t351 true l0_0 a0_1 t347 t350)) = some r := H
        have A15 := Aside0.mk A150
        clear A150
        have HC16 := Aside0.mk H
        clear H
        have hcz17_0 : wc.cell? ⟨gb344, 0, none⟩ = some (.slice A0_0 l0_0.length c0_0) := (blk_cell BK344.out 0).trans rfl
        have hcz17_1 : wc.cell? ⟨gb344, 1, none⟩ = some (.int .i64 a0_1) := (blk_cell BK344.out 1).trans rfl
        have hfz17_0 := blk_frozen BK344.out 0
        have hfz17_1 := blk_frozen BK344.out 1
        go_upto_region 5 with (first | ((with_reducible refine gate_callee (f := 33) rfl ?_); refine goesL_ (some 23) rfl rfl Tryd.func33 (by kernel_rfl) rfl #[.agg #[.slice A0_0 l0_0.length c0_0, .int .i64 a0_1]] rfl (by (try simp only [List.map_toArray, List.map_cons, List.map_nil]); first | done | rfl | (simp only [List.length_drop, List.length_take]; rfl)) ?_; (with_reducible refine (linear_Negate.calls kj2 _ _ l0_0 a0_1 t347 t350 t351 _ ?side1 ?side2 A14.out).mono ?_); (case side1 => repeat (first | exact (Kd.C_below HR0_0.out HB.out) | (with_reducible refine Kd.C_alloc ?_ _) | (with_reducible refine Kd.C_drewN ?_ _) | (with_reducible refine Kd.C_drew ?_))); (case side2 => exact HC0_0.out); rintro e w18 ⟨v348, rfl, ho0, hb⟩; refine ⟨_, rfl, ?_⟩; have n0_ := Aside0.mk (Kd.R_lower ho0 (below_size (by repeat (first | (with_reducible first | exact HB.out | apply below_alloc | apply pw_below_drewN | apply below_drew1 | refine below_set ?_ GE344.out) | exact HB.out)))); have n1_ := Aside0.mk (blk_below (g := gb344) (o := .cells #[.slice A0_0 l0_0.length c0_0, .int .i64 a0_1] 33 (0, 0)) (by (with_reducible repeat (first | refine blk_drewN ?_ _ | refine blk_drew ?_ | refine blk_alloc ?_ _)); exact BK344.out) hb); have n2_ := Aside0.mk (below_step (by repeat (first | (with_reducible first | exact HB.out | apply below_alloc | apply pw_below_drewN | apply below_drew1 | refine below_set ?_ GE344.out) | exact HB.out)) hb); clear BK344; clear HB; have HO349 := n0_; have BK344 := n1_; have HB := n2_; clear n0_ n1_ n2_; (try clear hb); (try clear hb2); (try clear hk); (try clear hi); (try clear ho0)) | ((with_reducible refine gate_dst (N := 5) rfl ?_); (try (refine gate_guard (by rfl) ?_; dsimp only)); refine box_event ?hg (N := 5) ?hd (cs := #[.slice none 0 0, .int .i64 0]) (t := 33) ?hr ?_; (case hd => rfl); (case hg => rfl); (case hr => first | (go_simp; done) | (go_simp; rfl)); intro gb352 hg w19 hbox hb; have n0_ := Aside0.mk (Kd.R_below (by (with_reducible repeat (first | apply Kd.R_alloc | apply Kd.R_drewN | apply Kd.R_drew)); exact HO349.out) hb); have n1_ := Aside0.mk (blk_below (g := gb344) (o := .cells #[.slice A0_0 l0_0.length c0_0, .int .i64 a0_1] 33 (0, 0)) (by (with_reducible repeat (first | refine blk_drewN ?_ _ | refine blk_drew ?_ | refine blk_alloc ?_ _)); exact BK344.out) hb); have n2_ := Aside0.mk (below_step (by repeat (first | (with_reducible first | exact HB.out | apply below_alloc | apply pw_below_drewN | apply below_drew1 | refine below_set ?_ GE344.out) | exact HB.out)) hb); have n3_ := Aside0.mk (hbox); have n4_ := Aside0.mk ((by rw [hg]; exact (below_size (by repeat (first | (with_reducible first | exact HB.out | apply below_alloc | apply pw_below_drewN | apply below_drew1 | refine below_set ?_ GE344.out) | exact HB.out))) : w.heap.size ≤ gb352)); have n5_ := Aside0.mk ((by rw [hg]; exact (below_size (by repeat (first | (with_reducible first | exact HB.out | apply below_alloc | apply pw_below_drewN | apply below_drew1 | refine below_set ?_ GE344.out) | exact HB.out))) : w.heap.size ≤ gb352)); have n6_ := Aside0.mk ((by rw [hg]; exact Nat.ne_of_lt (blk_lt (g := gb344) (o := .cells #[.slice A0_0 l0_0.length c0_0, .int .i64 a0_1] 33 (0, 0)) (by (with_reducible repeat (first | refine blk_drewN ?_ _ | refine blk_drew ?_ | refine blk_alloc ?_ _)); exact BK344.out)) : gb344 ≠ gb352)); have n7_ := Aside0.mk ((by rw [hg]; exact Nat.ne_of_gt (blk_lt (g := gb344) (o := .cells #[.slice A0_0 l0_0.length c0_0, .int .i64 a0_1] 33 (0, 0)) (by (with_reducible repeat (first | refine blk_drewN ?_ _ | refine blk_drew ?_ | refine blk_alloc ?_ _)); exact BK344.out)) : gb352 ≠ gb344)); clear HO349; clear BK344; clear HB; have HO349 := n0_; have BK344 := n1_; have HB := n2_; have BK352 := n3_; have GW352 := n4_; have GE352 := n5_; have NB344_352 := n6_; have NB352_344 := n7_; clear n0_ n1_ n2_ n3_ n4_ n5_ n6_ n7_; clear hb hbox hg; obtain ⟨Ao20, co20, eo20⟩ := Kd.R_slice HO349.out; subst eo20; have hnb21 := NB352_344.out; have hnc21 := NB344_352.out; have hcz22_0 : w19.cell? ⟨gb352, 0, none⟩ = some (.slice none 0 0) := (blk_cell BK352.out 0).trans rfl; have hcz22_1 : w19.cell? ⟨gb352, 1, none⟩ = some (.int .i64 0) := (blk_cell BK352.out 1).trans rfl; have hfz22_0 := blk_frozen BK352.out 0; have hfz22_1 := blk_frozen BK352.out 1; have hcz23_0 : w19.cell? ⟨gb344, 0, none⟩ = some (.slice A0_0 l0_0.length c0_0) := (blk_cell BK344.out 0).trans rfl; have hcz23_1 : w19.cell? ⟨gb344, 1, none⟩ = some (.int .i64 a0_1) := (blk_cell BK344.out 1).trans rfl; have hfz23_0 := blk_frozen BK344.out 0; have hfz23_1 := blk_frozen BK344.out 1) | ((with_reducible refine gate_callee (f := 34) rfl ?_); refine goesL_ (some 28) rfl rfl Tryd.func34 (by kernel_rfl) rfl #[.agg #[.slice A0_0 l0_0.length c0_0, .int .i64 a0_1]] rfl (by (try simp only [List.map_toArray, List.map_cons, List.map_nil]); first | done | rfl | (simp only [List.length_drop, List.length_take]; rfl)) ?_; (with_reducible refine (familycheckref01_Negate.calls kj2 _ _ l0_0 a0_1 t353 t356 t357 _ ?side1 ?side2 A15.out).mono ?_); (case side1 => exact Kd.C_below HR0_0.out (by repeat (first | (with_reducible first | exact HB.out | apply below_alloc | apply pw_below_drewN | apply below_drew1 | refine below_set ?_ GE344.out | refine below_set ?_ GE352.out) | exact HB.out))); (case side2 => exact HC0_0.out); rintro e w24 ⟨v354, rfl, ho0, hb⟩; refine ⟨_, rfl, ?_⟩; have n0_ := Aside0.mk (Kd.R_elder' (by (with_reducible repeat (first | apply Kd.R_alloc | apply Kd.R_drewN | apply Kd.R_drew)); exact (Kd.R_mono (Kd.R_far (p := ⟨gb352, 1, none⟩) (Kd.R_far (p := ⟨gb352, 0, none⟩) (Kd.R_types HO349.out BK352.out (by decide)) (fun _ hk => hk.2) (.slice Ao20 t347.length co20)) (fun _ hk => hk.2) (.int .i64 t350)) (fun _ h_ => h_.1))) (Kd.R_base ho0) hb); have n1_ := Aside0.mk (Kd.R_lower (Kd.R_new' ho0 (Kd.R_lt (by (with_reducible repeat (first | apply Kd.R_alloc | apply Kd.R_drewN | apply Kd.R_drew)); exact (Kd.R_mono (Kd.R_far (p := ⟨gb352, 1, none⟩) (Kd.R_far (p := ⟨gb352, 0, none⟩) (Kd.R_types HO349.out BK352.out (by decide)) (fun _ hk => hk.2) (.slice Ao20 t347.length co20)) (fun _ hk => hk.2) (.int .i64 t350)) (fun _ h_ => h_.1))))) (below_size (by repeat (first | (with_reducible first | exact HB.out | apply below_alloc | apply pw_below_drewN | apply below_drew1 | refine below_set ?_ GE344.out | refine below_set ?_ GE352.out) | exact HB.out)))); have n2_ := Aside0.mk (blk_below (g := gb344) (o := .cells #[.slice A0_0 l0_0.length c0_0, .int .i64 a0_1] 33 (0, 0)) (by (with_reducible repeat (first | refine blk_drewN ?_ _ | refine blk_drew ?_ | refine blk_alloc ?_ _)); refine blk_far ?_ NB344_352.out _; (with_reducible repeat (first | refine blk_drewN ?_ _ | refine blk_drew ?_ | refine blk_alloc ?_ _)); refine blk_far ?_ NB344_352.out _; (with_reducible repeat (first | refine blk_drewN ?_ _ | refine blk_drew ?_ | refine blk_alloc ?_ _)); exact BK344.out) hb); have n3_ := Aside0.mk (blk_below (g := gb352) (o := .cells #[.slice Ao20 t347.length co20, .int .i64 t350] 33 (0, 0)) (by (with_reducible repeat (first | refine blk_drewN ?_ _ | refine blk_drew ?_ | refine blk_alloc ?_ _)); refine blk_put (cs := #[.slice Ao20 t347.length co20, .int .i64 0]) ?_ 1 _ rfl; (with_reducible repeat (first | refine blk_drewN ?_ _ | refine blk_drew ?_ | refine blk_alloc ?_ _)); refine blk_put (cs := #[.slice none 0 0, .int .i64 0]) ?_ 0 _ rfl; (with_reducible repeat (first | refine blk_drewN ?_ _ | refine blk_drew ?_ | refine blk_alloc ?_ _)); exact BK352.out) hb); have n4_ := Aside0.mk (below_step (by repeat (first | (with_reducible first | exact HB.out | apply below_alloc | apply pw_below_drewN | apply below_drew1 | refine below_set ?_ GE344.out | refine below_set ?_ GE352.out) | exact HB.out)) hb); clear HO349; clear BK344; clear BK352; clear HB; have HO349 := n0_; have HO355 := n1_; have BK344 := n2_; have BK352 := n3_; have HB := n4_; clear n0_ n1_ n2_ n3_ n4_; (try clear hb); (try clear hb2); (try clear hk); (try clear hi); (try clear ho0)) | ((with_reducible refine gate_dst (N := 7) rfl ?_); (try (refine gate_guard (by rfl) ?_; dsimp only)); refine box_event ?hg (N := 7) ?hd (cs := #[.slice none 0 0, .int .i64 0]) (t := 33) ?hr ?_; (case hd => rfl); (case hg => rfl); (case hr => first | (go_simp; done) | (go_simp; rfl)); intro gb358 hg w25 hbox hb; have n0_ := Aside0.mk (Kd.R_below (by (with_reducible repeat (first | apply Kd.R_alloc | apply Kd.R_drewN | apply Kd.R_drew)); exact HO349.out) hb); have n1_ := Aside0.mk (Kd.R_below (by (with_reducible repeat (first | apply Kd.R_alloc | apply Kd.R_drewN | apply Kd.R_drew)); exact HO355.out) hb); have n2_ := Aside0.mk (blk_below (g := gb344) (o := .cells #[.slice A0_0 l0_0.length c0_0, .int .i64 a0_1] 33 (0, 0)) (by (with_reducible repeat (first | refine blk_drewN ?_ _ | refine blk_drew ?_ | refine blk_alloc ?_ _)); exact BK344.out) hb); have n3_ := Aside0.mk (blk_below (g := gb352) (o := .cells #[.slice Ao20 t347.length co20, .int .i64 t350] 33 (0, 0)) (by (with_reducible repeat (first | refine blk_drewN ?_ _ | refine blk_drew ?_ | refine blk_alloc ?_ _)); exact BK352.out) hb); have n4_ := Aside0.mk (below_step (by repeat (first | (with_reducible first | exact HB.out | apply below_alloc | apply pw_below_drewN | apply below_drew1 | refine below_set ?_ GE344.out | refine below_set ?_ GE352.out) | exact HB.out)) hb); have n5_ := Aside0.mk (hbox); have n6_ := Aside0.mk ((by rw [hg]; exact (below_size (by repeat (first | (with_reducible first | exact HB.out | apply below_alloc | apply pw_below_drewN | apply below_drew1 | refine below_set ?_ GE344.out | refine below_set ?_ GE352.out) | exact HB.out))) : w.heap.size ≤ gb358)); have n7_ := Aside0.mk ((by rw [hg]; exact (below_size (by repeat (first | (with_reducible first | exact HB.out | apply below_alloc | apply pw_below_drewN | apply below_drew1 | refine below_set ?_ GE344.out | refine below_set ?_ GE352.out) | exact HB.out))) : w.heap.size ≤ gb358)); have n8_ := Aside0.mk ((by rw [hg]; exact Nat.ne_of_lt (blk_lt (g := gb344) (o := .cells #[.slice A0_0 l0_0.length c0_0, .int .i64 a0_1] 33 (0, 0)) (by (with_reducible repeat (first | refine blk_drewN ?_ _ | refine blk_drew ?_ | refine blk_alloc ?_ _)); exact BK344.out)) : gb344 ≠ gb358)); have n9_ := Aside0.mk ((by rw [hg]; exact Nat.ne_of_gt (blk_lt (g := gb344) (o := .cells #[.slice A0_0 l0_0.length c0_0, .int .i64 a0_1] 33 (0, 0)) (by (with_reducible repeat (first | refine blk_drewN ?_ _ | refine blk_drew ?_ | refine blk_alloc ?_ _)); exact BK344.out)) : gb358 ≠ gb344)); have n10_ := Aside0.mk ((by rw [hg]; exact Nat.ne_of_lt (blk_lt (g := gb352) (o := .cells #[.slice Ao20 t347.length co20, .int .i64 t350] 33 (0, 0)) (by (with_reducible repeat (first | refine blk_drewN ?_ _ | refine blk_drew ?_ | refine blk_alloc ?_ _)); exact BK352.out)) : gb352 ≠ gb358)); have n11_ := Aside0.mk ((by rw [hg]; exact Nat.ne_of_gt (blk_lt (g := gb352) (o := .cells #[.slice Ao20 t347.length co20, .int .i64 t350] 33 (0, 0)) (by (with_reducible repeat (first | refine blk_drewN ?_ _ | refine blk_drew ?_ | refine blk_alloc ?_ _)); exact BK352.out)) : gb358 ≠ gb352)); clear HO349; clear HO355; clear BK344; clear BK352; clear HB; have HO349 := n0_; have HO355 := n1_; have BK344 := n2_; have BK352 := n3_; have HB := n4_; have BK358 := n5_; have GW358 := n6_; have GE358 := n7_; have NB344_358 := n8_; have NB358_344 := n9_; have NB352_358 := n10_; have NB358_352 := n11_; clear n0_ n1_ n2_ n3_ n4_ n5_ n6_ n7_ n8_ n9_ n10_ n11_; clear hb hbox hg; obtain ⟨Ao26, co26, eo26⟩ := Kd.R_slice HO355.out; subst eo26; have hnb27 := NB358_344.out; have hnc27 := NB344_358.out; have hnb28 := NB358_352.out; have hnc28 := NB352_358.out; have hcz29_0 : w25.cell? ⟨gb358, 0, none⟩ = some (.slice none 0 0) := (blk_cell BK358.out 0).trans rfl; have hcz29_1 : w25.cell? ⟨gb358, 1, none⟩ = some (.int .i64 0) := (blk_cell BK358.out 1).trans rfl; have hfz29_0 := blk_frozen BK358.out 0; have hfz29_1 := blk_frozen BK358.out 1))
        (try simp only [Act.put, List.setIfInBounds_toArray, List.set_cons_zero, List.set_cons_succ])
        go_cut [39] (fun v39 wc => ∃ (kq : Nat) (x39_15 : Bool), v39 = .bool x39_15 ∧ Aside0 (familychecklaw01_LinearNegates.j1 kq l1 t351 x39_15 l0_0 a0_1 t347 t350 = some r) ∧ Aside0 (kq ≤ kj2) ∧ Aside0 (Kd.R (Kd.int .i64) 3 wc w.heap.size (fun k_ => some k_ ≠ ((.slice Ao26 t353.length co26) : Value).ownBlock) (.slice Ao20 t347.length co20) t347) ∧ Aside0 (Kd.R (Kd.int .i64) 3 wc w.heap.size (fun k_ => some k_ ≠ ((.slice Ao20 t347.length co20) : Value).ownBlock) (.slice Ao26 t353.length co26) t353) ∧ Aside0 (wc.heap[gb344]? = some (.cells #[(.slice A0_0 l0_0.length c0_0), .int .i64 a0_1] 33 (0, 0))) ∧ Aside0 (wc.heap[gb352]? = some (.cells #[(.slice Ao20 t347.length co20), .int .i64 t350] 33 (0, 0))) ∧ Aside0 (wc.heap[gb358]? = some (.cells #[(.slice Ao26 t353.length co26), .int .i64 t356] 33 (0, 0))) ∧ Aside0 (Below w.heap.size w wc))
        case first =>
          have H := HC16.out
          clear HC16
          by_cases c30 : t351 = t357
          · rw [if_pos c30] at H
            have c30b0 : (t351 == t357) = true := beq_iff_eq.mpr c30
            have c30b1 : (t351 != t357) = false := bne_eq_false_iff_eq.mpr c30
            clear c30
            (first | rw [c30b0] | (simp only [i64_w, i32_w]; rw [c30b0]) | skip)
            replace H := Option.bind_eq_some_iff.mp H
            obtain ⟨t359, A310, H⟩ := H
            replace H : (familychecklaw01_LinearNegates.j1 kj2 l1 t351 (!t359) l0_0 a0_1 t347 t350) = some r := H
            have A31 := Aside0.mk A310
            clear A310
            have H' := Aside0.mk H
            clear H
            have hnb32 := NB352_344.out
            have hnc32 := NB344_352.out
            have hnb33 := NB352_358.out
            have hnc33 := NB358_352.out
            have hcz34_0 : w25.cell? ⟨gb352, 0, none⟩ = some (.slice Ao20 t347.length co20) := (blk_cell BK352.out 0).trans rfl
            have hcz34_1 : w25.cell? ⟨gb352, 1, none⟩ = some (.int .i64 t350) := (blk_cell BK352.out 1).trans rfl
            have hfz34_0 := blk_frozen BK352.out 0
            have hfz34_1 := blk_frozen BK352.out 1
            have hnb35 := NB358_344.out
            have hnc35 := NB344_358.out
            have hcz36_0 : w25.cell? ⟨gb358, 0, none⟩ = some (.slice none 0 0) := (blk_cell BK358.out 0).trans rfl
            have hcz36_1 : w25.cell? ⟨gb358, 1, none⟩ = some (.int .i64 0) := (blk_cell BK358.out 1).trans rfl
            have hfz36_0 := blk_frozen BK358.out 0
            have hfz36_1 := blk_frozen BK358.out 1
            go_wp2_with (first | (go_at_call 28; (with_reducible refine (familycheckref01_SameRow.calls kj2 _ _ t347 t350 _ _ t353 t356 t359 _ ?side1 ?side2 ?side3 ?side4 A31.out).mono ?_); (case side1 => refine (Kd.R_reads' (e := 3) (base := w.heap.size) (ok := fun k_ => (True ∧ some k_ ≠ (.slice Ao26 t353.length co26 : Value).ownBlock)) (n := t347.length) (c := co20) ?_).2.2; exact (by (with_reducible repeat (first | apply Kd.R_alloc | apply Kd.R_drewN | apply Kd.R_drew)); exact (Kd.R_mono (Kd.R_far (p := ⟨gb358, 1, none⟩) (Kd.R_far (p := ⟨gb358, 0, none⟩) (Kd.R_types HO349.out BK358.out (by decide)) (fun _ hk => hk.2) (.slice Ao26 t353.length co26)) (fun _ hk => hk.2) (.int .i64 t356)) (fun _ h_ => h_.1)))); (case side2 => exact (Kd.R_reads' HO349.out).2.1); (case side3 => refine (Kd.R_reads' (e := 3) (base := w.heap.size) (ok := fun k_ => (True ∧ some k_ ≠ (.slice Ao20 t347.length co20 : Value).ownBlock)) (n := t353.length) (c := co26) ?_).2.2; exact (by (with_reducible repeat (first | apply Kd.R_alloc | apply Kd.R_drewN | apply Kd.R_drew)); exact (Kd.R_mono (Kd.R_far (p := ⟨gb358, 1, none⟩) (Kd.R_far (p := ⟨gb358, 0, none⟩) (Kd.R_types HO355.out BK358.out (by decide)) (fun _ hk => hk.2) (.slice Ao26 t353.length co26)) (fun _ hk => hk.2) (.int .i64 t356)) (fun _ h_ => h_.1)))); (case side4 => exact (Kd.R_reads' HO355.out).2.1); rintro e w37 ⟨rfl, hb⟩; have n0_ := Aside0.mk (Kd.R_below (by (with_reducible repeat (first | apply Kd.R_alloc | apply Kd.R_drewN | apply Kd.R_drew)); exact (Kd.R_mono (Kd.R_far (p := ⟨gb358, 1, none⟩) (Kd.R_far (p := ⟨gb358, 0, none⟩) (Kd.R_types HO349.out BK358.out (by decide)) (fun _ hk => hk.2) (.slice Ao26 t353.length co26)) (fun _ hk => hk.2) (.int .i64 t356)) (fun _ h_ => h_.1))) hb); have n1_ := Aside0.mk (Kd.R_below (by (with_reducible repeat (first | apply Kd.R_alloc | apply Kd.R_drewN | apply Kd.R_drew)); exact (Kd.R_mono (Kd.R_far (p := ⟨gb358, 1, none⟩) (Kd.R_far (p := ⟨gb358, 0, none⟩) (Kd.R_types HO355.out BK358.out (by decide)) (fun _ hk => hk.2) (.slice Ao26 t353.length co26)) (fun _ hk => hk.2) (.int .i64 t356)) (fun _ h_ => h_.1))) hb); have n2_ := Aside0.mk (blk_below (g := gb344) (o := .cells #[.slice A0_0 l0_0.length c0_0, .int .i64 a0_1] 33 (0, 0)) (by (with_reducible repeat (first | refine blk_drewN ?_ _ | refine blk_drew ?_ | refine blk_alloc ?_ _)); refine blk_far ?_ NB344_358.out _; (with_reducible repeat (first | refine blk_drewN ?_ _ | refine blk_drew ?_ | refine blk_alloc ?_ _)); refine blk_far ?_ NB344_358.out _; (with_reducible repeat (first | refine blk_drewN ?_ _ | refine blk_drew ?_ | refine blk_alloc ?_ _)); exact BK344.out) hb); have n3_ := Aside0.mk (blk_below (g := gb352) (o := .cells #[.slice Ao20 t347.length co20, .int .i64 t350] 33 (0, 0)) (by (with_reducible repeat (first | refine blk_drewN ?_ _ | refine blk_drew ?_ | refine blk_alloc ?_ _)); refine blk_far ?_ NB352_358.out _; (with_reducible repeat (first | refine blk_drewN ?_ _ | refine blk_drew ?_ | refine blk_alloc ?_ _)); refine blk_far ?_ NB352_358.out _; (with_reducible repeat (first | refine blk_drewN ?_ _ | refine blk_drew ?_ | refine blk_alloc ?_ _)); exact BK352.out) hb); have n4_ := Aside0.mk (blk_below (g := gb358) (o := .cells #[.slice Ao26 t353.length co26, .int .i64 t356] 33 (0, 0)) (by (with_reducible repeat (first | refine blk_drewN ?_ _ | refine blk_drew ?_ | refine blk_alloc ?_ _)); refine blk_put (cs := #[.slice Ao26 t353.length co26, .int .i64 0]) ?_ 1 _ rfl; (with_reducible repeat (first | refine blk_drewN ?_ _ | refine blk_drew ?_ | refine blk_alloc ?_ _)); refine blk_put (cs := #[.slice none 0 0, .int .i64 0]) ?_ 0 _ rfl; (with_reducible repeat (first | refine blk_drewN ?_ _ | refine blk_drew ?_ | refine blk_alloc ?_ _)); exact BK358.out) hb); have n5_ := Aside0.mk (below_step (by repeat (first | (with_reducible first | exact HB.out | apply below_alloc | apply pw_below_drewN | apply below_drew1 | refine below_set ?_ GE344.out | refine below_set ?_ GE352.out | refine below_set ?_ GE358.out) | exact HB.out)) hb); clear HO349; clear HO355; clear BK344; clear BK352; clear BK358; clear HB; have HO349 := n0_; have HO355 := n1_; have BK344 := n2_; have BK352 := n3_; have BK358 := n4_; have HB := n5_; clear n0_ n1_ n2_ n3_ n4_ n5_; (try clear hb); (try clear hb2); (try clear hk); (try clear hi)))
            go_meet
            case rel => exact ⟨_, (!t359), (by first | rfl | (simp; done) | (simp [*]; done)), H', ⟨by have := HJ2.out; first | omega | exact Nat.le_refl _⟩, ⟨by (with_reducible repeat (first | apply Kd.R_alloc | apply Kd.R_drewN | apply Kd.R_drew)); exact Kd.R_mono HO349.out (fun _ hk => hk.2)⟩, ⟨by (with_reducible repeat (first | apply Kd.R_alloc | apply Kd.R_drewN | apply Kd.R_drew)); exact Kd.R_mono HO355.out (fun _ hk => hk.2)⟩, ⟨by (with_reducible repeat (first | refine blk_drewN ?_ _ | refine blk_drew ?_ | refine blk_alloc ?_ _)); exact BK344.out⟩, ⟨by (with_reducible repeat (first | refine blk_drewN ?_ _ | refine blk_drew ?_ | refine blk_alloc ?_ _)); exact BK352.out⟩, ⟨by (with_reducible repeat (first | refine blk_drewN ?_ _ | refine blk_drew ?_ | refine blk_alloc ?_ _)); exact BK358.out⟩, ⟨by repeat (first | (with_reducible first | exact HB.out | apply below_alloc | apply pw_below_drewN | apply below_drew1 | refine below_set ?_ GE344.out | refine below_set ?_ GE352.out | refine below_set ?_ GE358.out) | exact HB.out)⟩⟩
          · rw [if_neg c30] at H
            have c30b0 : (t351 == t357) = false := beq_eq_false_iff_ne.mpr c30
            have c30b1 : (t351 != t357) = true := bne_iff_ne.mpr c30
            (first | rw [c30b0] | (simp only [i64_w, i32_w]; rw [c30b0]) | skip)
            have H' := Aside0.mk H
            clear H
            go_wp2
            go_meet
            case rel => exact ⟨_, (true), (by first | rfl | (simp; done) | (simp [*]; done)), H', ⟨by have := HJ2.out; first | omega | exact Nat.le_refl _⟩, ⟨by (with_reducible repeat (first | apply Kd.R_alloc | apply Kd.R_drewN | apply Kd.R_drew)); exact Kd.R_mono (Kd.R_far (p := ⟨gb358, 1, none⟩) (Kd.R_far (p := ⟨gb358, 0, none⟩) (Kd.R_types HO349.out BK358.out (by decide)) (fun _ hk => hk.2) (.slice Ao26 t353.length co26)) (fun _ hk => hk.2) (.int .i64 t356)) (fun _ hk => hk.1.2)⟩, ⟨by (with_reducible repeat (first | apply Kd.R_alloc | apply Kd.R_drewN | apply Kd.R_drew)); exact Kd.R_mono (Kd.R_far (p := ⟨gb358, 1, none⟩) (Kd.R_far (p := ⟨gb358, 0, none⟩) (Kd.R_types HO355.out BK358.out (by decide)) (fun _ hk => hk.2) (.slice Ao26 t353.length co26)) (fun _ hk => hk.2) (.int .i64 t356)) (fun _ hk => hk.1.2)⟩, ⟨by (with_reducible repeat (first | refine blk_drewN ?_ _ | refine blk_drew ?_ | refine blk_alloc ?_ _)); refine blk_far ?_ NB344_358.out _; (with_reducible repeat (first | refine blk_drewN ?_ _ | refine blk_drew ?_ | refine blk_alloc ?_ _)); refine blk_far ?_ NB344_358.out _; (with_reducible repeat (first | refine blk_drewN ?_ _ | refine blk_drew ?_ | refine blk_alloc ?_ _)); exact BK344.out⟩, ⟨by (with_reducible repeat (first | refine blk_drewN ?_ _ | refine blk_drew ?_ | refine blk_alloc ?_ _)); refine blk_far ?_ NB352_358.out _; (with_reducible repeat (first | refine blk_drewN ?_ _ | refine blk_drew ?_ | refine blk_alloc ?_ _)); refine blk_far ?_ NB352_358.out _; (with_reducible repeat (first | refine blk_drewN ?_ _ | refine blk_drew ?_ | refine blk_alloc ?_ _)); exact BK352.out⟩, ⟨by (with_reducible repeat (first | refine blk_drewN ?_ _ | refine blk_drew ?_ | refine blk_alloc ?_ _)); refine blk_put (cs := #[.slice Ao26 t353.length co26, .int .i64 0]) ?_ 1 _ rfl; (with_reducible repeat (first | refine blk_drewN ?_ _ | refine blk_drew ?_ | refine blk_alloc ?_ _)); refine blk_put (cs := #[.slice none 0 0, .int .i64 0]) ?_ 0 _ rfl; (with_reducible repeat (first | refine blk_drewN ?_ _ | refine blk_drew ?_ | refine blk_alloc ?_ _)); exact BK358.out⟩, ⟨by repeat (first | (with_reducible first | exact HB.out | apply below_alloc | apply pw_below_drewN | apply below_drew1 | refine below_set ?_ GE344.out | refine below_set ?_ GE352.out | refine below_set ?_ GE358.out) | exact HB.out)⟩⟩
        case rest =>
          clear HC16
          try clear c1
          try clear c2
          try clear p2
          try clear c3
          try clear c6
          try clear c8
          try clear c11
          try clear c16
          try clear c21
          try clear c27
          try clear c28
          try clear c30
          try clear c30b0
          try clear c30b1
          try clear c32
          try clear c33
          try clear c34
          try clear c35
          try clear hcz17_0
          try clear hcz17_1
          try clear hcz22_0
          try clear hcz22_1
          try clear hcz23_0
          try clear hcz23_1
          try clear hcz29_0
          try clear hcz29_1
          try clear hcz34_0
          try clear hcz34_1
          try clear hcz36_0
          try clear hcz36_1
          try clear hcz7_0
          try clear hcz7_1
          try clear hcz9_0
          try clear hcz9_1
          try clear hfz17_0
          try clear hfz17_1
          try clear hfz22_0
          try clear hfz22_1
          try clear hfz23_0
          try clear hfz23_1
          try clear hfz29_0
          try clear hfz29_1
          try clear hfz34_0
          try clear hfz34_1
          try clear hfz36_0
          try clear hfz36_1
          try clear hfz7_0
          try clear hfz7_1
          try clear hfz9_0
          try clear hfz9_1
          try clear p2
          obtain ⟨kq, x39_15, rfl, HA, HJ15, HO_353000, HO_359000, BK344, BK352, BK358, HB⟩ := hcut
          cases kq with
          | zero => exact absurd HA.out (by simp [familychecklaw01_LinearNegates.j1])
          | succ kj15 =>
            have H := HA.out
            clear HA
            simp only [familychecklaw01_LinearNegates.j1] at H
            by_cases c38 : x39_15 = true
            · subst c38
              have H1 : (some false) = some r := by rw [if_pos rfl] at H; exact H
              clear H
              have H := H1
              clear H1
              obtain rfl := Option.some.inj H
              go_wp2
              go_ret
              exact ⟨by first | rfl | (simp [errW_none, errW_some] <;> rfl) | (simp [*, errW_none, errW_some] <;> rfl), by repeat (first | (with_reducible first | exact HB.out | apply below_alloc | apply pw_below_drewN | apply below_drew1 | refine below_set ?_ GE344.out | refine below_set ?_ GE352.out | refine below_set ?_ GE358.out) | exact HB.out)⟩
            · replace c38 := Bool.eq_false_iff.mpr c38
              subst c38
              have H1 : ((linear_Value.f kj15 l0_0 a0_1 l1).bind fun bt360 => (if t351 = 0 then (familychecklaw01_LinearNegates.j2 kj15 l1 bt360.1 (bt360.2 != 0) t347 t350) else (familychecklaw01_LinearNegates.j2 kj15 l1 bt360.1 true t347 t350))) = some r := by rw [if_neg (show ¬ (false = true) by decide)] at H; exact H
              clear H
              have H := H1
              clear H1
              replace H := Option.bind_eq_some_iff.mp H
              obtain ⟨⟨t360, t361⟩, A390, H⟩ := H
              replace H : (if t351 = 0 then (familychecklaw01_LinearNegates.j2 kj15 l1 t360 (t361 != 0) t347 t350) else (familychecklaw01_LinearNegates.j2 kj15 l1 t360 true t347 t350)) = some r := H
              have A39 := Aside0.mk A390
              clear A390
              have HC40 := Aside0.mk H
              clear H
              have hnb41 := NB344_352.out
              have hnc41 := NB352_344.out
              have hnb42 := NB344_358.out
              have hnc42 := NB358_344.out
              have hcz43_0 : wc.cell? ⟨gb344, 0, none⟩ = some (.slice A0_0 l0_0.length c0_0) := (blk_cell BK344.out 0).trans rfl
              have hcz43_1 : wc.cell? ⟨gb344, 1, none⟩ = some (.int .i64 a0_1) := (blk_cell BK344.out 1).trans rfl
              have hfz43_0 := blk_frozen BK344.out 0
              have hfz43_1 := blk_frozen BK344.out 1
              go_upto_region 8 with (first | ((with_reducible refine gate_callee (f := 22) rfl ?_); refine goesL_ (some 43) rfl rfl Tryd.func22 (by kernel_rfl) rfl #[.agg #[.slice A0_0 l0_0.length c0_0, .int .i64 a0_1], .slice A1 l1.length c1] rfl (by (try simp only [List.map_toArray, List.map_cons, List.map_nil]); first | done | rfl | (simp only [List.length_drop, List.length_take]; rfl)) ?_; (with_reducible refine (linear_Value.calls kj15 _ _ l0_0 a0_1 _ _ l1 t360 t361 _ ?side1 ?side2 ?side3 ?side4 A39.out).mono ?_); (case side1 => repeat (first | exact (Kd.C_below HR0_0.out HB.out) | (with_reducible refine Kd.C_alloc ?_ _) | (with_reducible refine Kd.C_drewN ?_ _) | (with_reducible refine Kd.C_drew ?_))); (case side2 => exact HC0_0.out); (case side3 => repeat (first | exact (Kd.C_below HR1.out HB.out) | (with_reducible refine Kd.C_alloc ?_ _) | (with_reducible refine Kd.C_drewN ?_ _) | (with_reducible refine Kd.C_drew ?_))); (case side4 => exact HC1.out); rintro e w44 ⟨rfl, hb⟩; refine ⟨_, rfl, ?_⟩; have n0_ := Aside0.mk (Kd.R_below (by (with_reducible repeat (first | apply Kd.R_alloc | apply Kd.R_drewN | apply Kd.R_drew)); exact HO_353000.out) hb); have n1_ := Aside0.mk (Kd.R_below (by (with_reducible repeat (first | apply Kd.R_alloc | apply Kd.R_drewN | apply Kd.R_drew)); exact HO_359000.out) hb); have n2_ := Aside0.mk (blk_below (g := gb344) (o := .cells #[.slice A0_0 l0_0.length c0_0, .int .i64 a0_1] 33 (0, 0)) (by (with_reducible repeat (first | refine blk_drewN ?_ _ | refine blk_drew ?_ | refine blk_alloc ?_ _)); exact BK344.out) hb); have n3_ := Aside0.mk (blk_below (g := gb352) (o := .cells #[.slice Ao20 t347.length co20, .int .i64 t350] 33 (0, 0)) (by (with_reducible repeat (first | refine blk_drewN ?_ _ | refine blk_drew ?_ | refine blk_alloc ?_ _)); exact BK352.out) hb); have n4_ := Aside0.mk (blk_below (g := gb358) (o := .cells #[.slice Ao26 t353.length co26, .int .i64 t356] 33 (0, 0)) (by (with_reducible repeat (first | refine blk_drewN ?_ _ | refine blk_drew ?_ | refine blk_alloc ?_ _)); exact BK358.out) hb); have n5_ := Aside0.mk (below_step (by repeat (first | (with_reducible first | exact HB.out | apply below_alloc | apply pw_below_drewN | apply below_drew1 | refine below_set ?_ GE344.out | refine below_set ?_ GE352.out | refine below_set ?_ GE358.out) | exact HB.out)) hb); clear HO_353000; clear HO_359000; clear BK344; clear BK352; clear BK358; clear HB; have HO_353000 := n0_; have HO_359000 := n1_; have BK344 := n2_; have BK352 := n3_; have BK358 := n4_; have HB := n5_; clear n0_ n1_ n2_ n3_ n4_ n5_; (try clear hb); (try clear hb2); (try clear hk); (try clear hi)))
              (try simp only [Act.put, List.setIfInBounds_toArray, List.set_cons_zero, List.set_cons_succ])
              go_cut [51] (fun v51 wc => ∃ (kq : Nat) (x51_39 : Bool), v51 = .bool x51_39 ∧ Aside0 (familychecklaw01_LinearNegates.j2 kq l1 t360 x51_39 t347 t350 = some r) ∧ Aside0 (kq ≤ kj15) ∧ Aside0 (Kd.R (Kd.int .i64) 3 wc w.heap.size (fun k_ => some k_ ≠ ((.slice Ao26 t353.length co26) : Value).ownBlock) (.slice Ao20 t347.length co20) t347) ∧ Aside0 (Kd.R (Kd.int .i64) 3 wc w.heap.size (fun k_ => some k_ ≠ ((.slice Ao20 t347.length co20) : Value).ownBlock) (.slice Ao26 t353.length co26) t353) ∧ Aside0 (wc.heap[gb344]? = some (.cells #[(.slice A0_0 l0_0.length c0_0), .int .i64 a0_1] 33 (0, 0))) ∧ Aside0 (wc.heap[gb352]? = some (.cells #[(.slice Ao20 t347.length co20), .int .i64 t350] 33 (0, 0))) ∧ Aside0 (wc.heap[gb358]? = some (.cells #[(.slice Ao26 t353.length co26), .int .i64 t356] 33 (0, 0))) ∧ Aside0 (Below w.heap.size w wc))
              case first =>
                have H := HC40.out
                clear HC40
                by_cases c45 : t351 = 0
                · rw [if_pos c45] at H
                  have c45b0 : (t351 == 0) = true := beq_iff_eq.mpr c45
                  have c45b1 : (t351 != 0) = false := bne_eq_false_iff_eq.mpr c45
                  clear c45
                  (first | rw [c45b0] | (simp only [i64_w, i32_w]; rw [c45b0]) | skip)
                  have H' := Aside0.mk H
                  clear H
                  go_wp2
                  go_meet
                  case rel => exact ⟨_, ((t361 != 0)), (by first | rfl | (simp; done) | (simp [*]; done)), H', ⟨by have := HJ2.out; have := HJ15.out; first | omega | exact Nat.le_refl _⟩, ⟨by (with_reducible repeat (first | apply Kd.R_alloc | apply Kd.R_drewN | apply Kd.R_drew)); exact HO_353000.out⟩, ⟨by (with_reducible repeat (first | apply Kd.R_alloc | apply Kd.R_drewN | apply Kd.R_drew)); exact HO_359000.out⟩, ⟨by (with_reducible repeat (first | refine blk_drewN ?_ _ | refine blk_drew ?_ | refine blk_alloc ?_ _)); exact BK344.out⟩, ⟨by (with_reducible repeat (first | refine blk_drewN ?_ _ | refine blk_drew ?_ | refine blk_alloc ?_ _)); exact BK352.out⟩, ⟨by (with_reducible repeat (first | refine blk_drewN ?_ _ | refine blk_drew ?_ | refine blk_alloc ?_ _)); exact BK358.out⟩, ⟨by repeat (first | (with_reducible first | exact HB.out | apply below_alloc | apply pw_below_drewN | apply below_drew1 | refine below_set ?_ GE344.out | refine below_set ?_ GE352.out | refine below_set ?_ GE358.out) | exact HB.out)⟩⟩
                · rw [if_neg c45] at H
                  have c45b0 : (t351 == 0) = false := beq_eq_false_iff_ne.mpr c45
                  have c45b1 : (t351 != 0) = true := bne_iff_ne.mpr c45
                  (first | rw [c45b0] | (simp only [i64_w, i32_w]; rw [c45b0]) | skip)
                  have H' := Aside0.mk H
                  clear H
                  go_wp2
                  go_meet
                  case rel => exact ⟨_, (true), (by first | rfl | (simp; done) | (simp [*]; done)), H', ⟨by have := HJ2.out; have := HJ15.out; first | omega | exact Nat.le_refl _⟩, ⟨by (with_reducible repeat (first | apply Kd.R_alloc | apply Kd.R_drewN | apply Kd.R_drew)); exact HO_353000.out⟩, ⟨by (with_reducible repeat (first | apply Kd.R_alloc | apply Kd.R_drewN | apply Kd.R_drew)); exact HO_359000.out⟩, ⟨by (with_reducible repeat (first | refine blk_drewN ?_ _ | refine blk_drew ?_ | refine blk_alloc ?_ _)); exact BK344.out⟩, ⟨by (with_reducible repeat (first | refine blk_drewN ?_ _ | refine blk_drew ?_ | refine blk_alloc ?_ _)); exact BK352.out⟩, ⟨by (with_reducible repeat (first | refine blk_drewN ?_ _ | refine blk_drew ?_ | refine blk_alloc ?_ _)); exact BK358.out⟩, ⟨by repeat (first | (with_reducible first | exact HB.out | apply below_alloc | apply pw_below_drewN | apply below_drew1 | refine below_set ?_ GE344.out | refine below_set ?_ GE352.out | refine below_set ?_ GE358.out) | exact HB.out)⟩⟩
              case rest =>
                clear HC40
                try clear c1
                try clear c2
                try clear p2
                try clear c3
                try clear c4
                try clear c6
                try clear c8
                try clear c11
                try clear c16
                try clear c21
                try clear c22
                try clear c27
                try clear c28
                try clear c30
                try clear c30b0
                try clear c30b1
                try clear c32
                try clear c33
                try clear c34
                try clear c35
                try clear c38
                try clear c41
                try clear c42
                try clear c45
                try clear c45b0
                try clear c45b1
                try clear hcz17_0
                try clear hcz17_1
                try clear hcz22_0
                try clear hcz22_1
                try clear hcz23_0
                try clear hcz23_1
                try clear hcz29_0
                try clear hcz29_1
                try clear hcz34_0
                try clear hcz34_1
                try clear hcz36_0
                try clear hcz36_1
                try clear hcz43_0
                try clear hcz43_1
                try clear hcz7_0
                try clear hcz7_1
                try clear hcz9_0
                try clear hcz9_1
                try clear hfz17_0
                try clear hfz17_1
                try clear hfz22_0
                try clear hfz22_1
                try clear hfz23_0
                try clear hfz23_1
                try clear hfz29_0
                try clear hfz29_1
                try clear hfz34_0
                try clear hfz34_1
                try clear hfz36_0
                try clear hfz36_1
                try clear hfz43_0
                try clear hfz43_1
                try clear hfz7_0
                try clear hfz7_1
                try clear hfz9_0
                try clear hfz9_1
                try clear p2
                obtain ⟨kq, x51_39, rfl, HA, HJ39, HO_353000, HO_359000, BK344, BK352, BK358, HB⟩ := hcut
                cases kq with
                | zero => exact absurd HA.out (by simp [familychecklaw01_LinearNegates.j2])
                | succ kj39 =>
                  have H := HA.out
                  clear HA
                  simp only [familychecklaw01_LinearNegates.j2] at H
                  by_cases c46 : x51_39 = true
                  · subst c46
                    have H1 : ((familychecklaw01_known.f kj39).bind fun t362 => (some t362)) = some r := by rw [if_pos rfl] at H; exact H
                    clear H
                    have H := H1
                    clear H1
                    replace H := Option.bind_eq_some_iff.mp H
                    obtain ⟨t362, A470, H⟩ := H
                    replace H : (some t362) = some r := H
                    have A47 := Aside0.mk A470
                    clear A470
                    obtain rfl := Option.some.inj H
                    go_wp2_with (first | ((with_reducible refine gate_callee (f := 16) rfl ?_); refine goesL_ (some 52) rfl rfl Tryd.func16 (by kernel_rfl) rfl #[] rfl (by (try simp only [List.map_toArray, List.map_cons, List.map_nil]); first | done | rfl | (simp only [List.length_drop, List.length_take]; rfl)) ?_; (with_reducible refine (familychecklaw01_known.calls kj39  t362 _ A47.out).mono ?_); rintro e w48 ⟨rfl, hb⟩; refine ⟨_, rfl, ?_⟩; have n0_ := Aside0.mk (Kd.R_below (by (with_reducible repeat (first | apply Kd.R_alloc | apply Kd.R_drewN | apply Kd.R_drew)); exact HO_353000.out) hb); have n1_ := Aside0.mk (Kd.R_below (by (with_reducible repeat (first | apply Kd.R_alloc | apply Kd.R_drewN | apply Kd.R_drew)); exact HO_359000.out) hb); have n2_ := Aside0.mk (blk_below (g := gb344) (o := .cells #[.slice A0_0 l0_0.length c0_0, .int .i64 a0_1] 33 (0, 0)) (by (with_reducible repeat (first | refine blk_drewN ?_ _ | refine blk_drew ?_ | refine blk_alloc ?_ _)); exact BK344.out) hb); have n3_ := Aside0.mk (blk_below (g := gb352) (o := .cells #[.slice Ao20 t347.length co20, .int .i64 t350] 33 (0, 0)) (by (with_reducible repeat (first | refine blk_drewN ?_ _ | refine blk_drew ?_ | refine blk_alloc ?_ _)); exact BK352.out) hb); have n4_ := Aside0.mk (blk_below (g := gb358) (o := .cells #[.slice Ao26 t353.length co26, .int .i64 t356] 33 (0, 0)) (by (with_reducible repeat (first | refine blk_drewN ?_ _ | refine blk_drew ?_ | refine blk_alloc ?_ _)); exact BK358.out) hb); have n5_ := Aside0.mk (below_step (by repeat (first | (with_reducible first | exact HB.out | apply below_alloc | apply pw_below_drewN | apply below_drew1 | refine below_set ?_ GE344.out | refine below_set ?_ GE352.out | refine below_set ?_ GE358.out) | exact HB.out)) hb); clear HO_353000; clear HO_359000; clear BK344; clear BK352; clear BK358; clear HB; have HO_353000 := n0_; have HO_359000 := n1_; have BK344 := n2_; have BK352 := n3_; have BK358 := n4_; have HB := n5_; clear n0_ n1_ n2_ n3_ n4_ n5_; (try clear hb); (try clear hb2); (try clear hk); (try clear hi)))
                    go_ret
                    exact ⟨by first | rfl | (simp [errW_none, errW_some] <;> rfl) | (simp [*, errW_none, errW_some] <;> rfl), by repeat (first | (with_reducible first | exact HB.out | apply below_alloc | apply pw_below_drewN | apply below_drew1 | refine below_set ?_ GE344.out | refine below_set ?_ GE352.out | refine below_set ?_ GE358.out) | exact HB.out)⟩
                  · replace c46 := Bool.eq_false_iff.mpr c46
                    subst c46
                    have H1 : ((linear_Value.f kj39 t347 t350 l1).bind fun bt363 => (if bt363.2 = 0 then (if ((decide (t360 ≥ 0)) != (decide (bt363.1 ≥ 0))) = true then ((familychecklaw01_known.f kj39).bind fun t365 => (some t365)) else (some false)) else (some false))) = some r := by rw [if_neg (show ¬ (false = true) by decide)] at H; exact H
                    clear H
                    have H := H1
                    clear H1
                    replace H := Option.bind_eq_some_iff.mp H
                    obtain ⟨⟨t363, t364⟩, A490, H⟩ := H
                    replace H : (if t364 = 0 then (if ((decide (t360 ≥ 0)) != (decide (t363 ≥ 0))) = true then ((familychecklaw01_known.f kj39).bind fun t365 => (some t365)) else (some false)) else (some false)) = some r := H
                    have A49 := Aside0.mk A490
                    clear A490
                    by_cases c50 : t364 = 0
                    · rw [if_pos c50] at H
                      have c50b0 : (t364 == 0) = true := beq_iff_eq.mpr c50
                      have c50b1 : (t364 != 0) = false := bne_eq_false_iff_eq.mpr c50
                      clear c50
                      by_cases c51 : ((decide (t360 ≥ 0)) != (decide (t363 ≥ 0))) = true
                      · rw [if_pos c51] at H
                        have c51b0 : ((decide (t360 ≥ 0)) != (decide (t363 ≥ 0))) = true := c51
                        (try (have c51b1 : decide ((decide (t360 ≥ 0)) = (decide (t363 ≥ 0))) = false := by simpa using c51))
                        (try (have c51b2 : ((decide (t360 ≥ 0)) == (decide (t363 ≥ 0))) = false := by simpa using c51))
                        (try (have c51b3 : ¬ ((decide (t360 ≥ 0)) = (decide (t363 ≥ 0))) := by simpa using c51))
                        clear c51
                        replace H := Option.bind_eq_some_iff.mp H
                        obtain ⟨t365, A520, H⟩ := H
                        replace H : (some t365) = some r := H
                        have A52 := Aside0.mk A520
                        clear A520
                        obtain rfl := Option.some.inj H
                        have hnb53 := NB352_344.out
                        have hnc53 := NB344_352.out
                        have hnb54 := NB352_358.out
                        have hnc54 := NB358_352.out
                        have hcz55_0 : wc.cell? ⟨gb352, 0, none⟩ = some (.slice Ao20 t347.length co20) := (blk_cell BK352.out 0).trans rfl
                        have hcz55_1 : wc.cell? ⟨gb352, 1, none⟩ = some (.int .i64 t350) := (blk_cell BK352.out 1).trans rfl
                        have hfz55_0 := blk_frozen BK352.out 0
                        have hfz55_1 := blk_frozen BK352.out 1
                        go_wp2_with (first | ((with_reducible refine gate_callee (f := 22) rfl ?_); refine goesL_ (some 56) rfl rfl Tryd.func22 (by kernel_rfl) rfl #[.agg #[.slice Ao20 t347.length co20, .int .i64 t350], .slice A1 l1.length c1] rfl (by (try simp only [List.map_toArray, List.map_cons, List.map_nil]); first | done | rfl | (simp only [List.length_drop, List.length_take]; rfl)) ?_; (with_reducible refine (linear_Value.calls kj39 _ _ t347 t350 _ _ l1 t363 t364 _ ?side1 ?side2 ?side3 ?side4 A49.out).mono ?_); (case side1 => repeat (first | exact (Kd.R_reads' HO_353000.out).2.2 | (with_reducible refine Kd.C_alloc ?_ _) | (with_reducible refine Kd.C_drewN ?_ _) | (with_reducible refine Kd.C_drew ?_))); (case side2 => exact (Kd.R_reads' HO_353000.out).2.1); (case side3 => repeat (first | exact (Kd.C_below HR1.out HB.out) | (with_reducible refine Kd.C_alloc ?_ _) | (with_reducible refine Kd.C_drewN ?_ _) | (with_reducible refine Kd.C_drew ?_))); (case side4 => exact HC1.out); rintro e w56 ⟨rfl, hb⟩; refine ⟨_, rfl, ?_⟩; have n0_ := Aside0.mk (Kd.R_below (by (with_reducible repeat (first | apply Kd.R_alloc | apply Kd.R_drewN | apply Kd.R_drew)); exact HO_353000.out) hb); have n1_ := Aside0.mk (Kd.R_below (by (with_reducible repeat (first | apply Kd.R_alloc | apply Kd.R_drewN | apply Kd.R_drew)); exact HO_359000.out) hb); have n2_ := Aside0.mk (blk_below (g := gb344) (o := .cells #[.slice A0_0 l0_0.length c0_0, .int .i64 a0_1] 33 (0, 0)) (by (with_reducible repeat (first | refine blk_drewN ?_ _ | refine blk_drew ?_ | refine blk_alloc ?_ _)); exact BK344.out) hb); have n3_ := Aside0.mk (blk_below (g := gb352) (o := .cells #[.slice Ao20 t347.length co20, .int .i64 t350] 33 (0, 0)) (by (with_reducible repeat (first | refine blk_drewN ?_ _ | refine blk_drew ?_ | refine blk_alloc ?_ _)); exact BK352.out) hb); have n4_ := Aside0.mk (blk_below (g := gb358) (o := .cells #[.slice Ao26 t353.length co26, .int .i64 t356] 33 (0, 0)) (by (with_reducible repeat (first | refine blk_drewN ?_ _ | refine blk_drew ?_ | refine blk_alloc ?_ _)); exact BK358.out) hb); have n5_ := Aside0.mk (below_step (by repeat (first | (with_reducible first | exact HB.out | apply below_alloc | apply pw_below_drewN | apply below_drew1 | refine below_set ?_ GE344.out | refine below_set ?_ GE352.out | refine below_set ?_ GE358.out) | exact HB.out)) hb); clear HO_353000; clear HO_359000; clear BK344; clear BK352; clear BK358; clear HB; have HO_353000 := n0_; have HO_359000 := n1_; have BK344 := n2_; have BK352 := n3_; have BK358 := n4_; have HB := n5_; clear n0_ n1_ n2_ n3_ n4_ n5_; (try clear hb); (try clear hb2); (try clear hk); (try clear hi)) | (go_at_call 16; (with_reducible refine (familychecklaw01_known.calls kj39  t365 _ A52.out).mono ?_); rintro e w57 ⟨rfl, hb⟩; have n0_ := Aside0.mk (Kd.R_below (by (with_reducible repeat (first | apply Kd.R_alloc | apply Kd.R_drewN | apply Kd.R_drew)); exact HO_353000.out) hb); have n1_ := Aside0.mk (Kd.R_below (by (with_reducible repeat (first | apply Kd.R_alloc | apply Kd.R_drewN | apply Kd.R_drew)); exact HO_359000.out) hb); have n2_ := Aside0.mk (blk_below (g := gb344) (o := .cells #[.slice A0_0 l0_0.length c0_0, .int .i64 a0_1] 33 (0, 0)) (by (with_reducible repeat (first | refine blk_drewN ?_ _ | refine blk_drew ?_ | refine blk_alloc ?_ _)); exact BK344.out) hb); have n3_ := Aside0.mk (blk_below (g := gb352) (o := .cells #[.slice Ao20 t347.length co20, .int .i64 t350] 33 (0, 0)) (by (with_reducible repeat (first | refine blk_drewN ?_ _ | refine blk_drew ?_ | refine blk_alloc ?_ _)); exact BK352.out) hb); have n4_ := Aside0.mk (blk_below (g := gb358) (o := .cells #[.slice Ao26 t353.length co26, .int .i64 t356] 33 (0, 0)) (by (with_reducible repeat (first | refine blk_drewN ?_ _ | refine blk_drew ?_ | refine blk_alloc ?_ _)); exact BK358.out) hb); have n5_ := Aside0.mk (below_step (by repeat (first | (with_reducible first | exact HB.out | apply below_alloc | apply pw_below_drewN | apply below_drew1 | refine below_set ?_ GE344.out | refine below_set ?_ GE352.out | refine below_set ?_ GE358.out) | exact HB.out)) hb); clear HO_353000; clear HO_359000; clear BK344; clear BK352; clear BK358; clear HB; have HO_353000 := n0_; have HO_359000 := n1_; have BK344 := n2_; have BK352 := n3_; have BK358 := n4_; have HB := n5_; clear n0_ n1_ n2_ n3_ n4_ n5_; (try clear hb); (try clear hb2); (try clear hk); (try clear hi)))
                        go_ret
                        exact ⟨by first | rfl | (simp [errW_none, errW_some] <;> rfl) | (simp [*, errW_none, errW_some] <;> rfl), by repeat (first | (with_reducible first | exact HB.out | apply below_alloc | apply pw_below_drewN | apply below_drew1 | refine below_set ?_ GE344.out | refine below_set ?_ GE352.out | refine below_set ?_ GE358.out) | exact HB.out)⟩
                      · rw [if_neg c51] at H
                        have c51b0 : ((decide (t360 ≥ 0)) != (decide (t363 ≥ 0))) = false := by simpa using c51
                        (try (have c51b1 : decide ((decide (t360 ≥ 0)) = (decide (t363 ≥ 0))) = true := by simpa using c51))
                        (try (have c51b2 : ((decide (t360 ≥ 0)) == (decide (t363 ≥ 0))) = true := by simpa using c51))
                        clear c51
                        obtain rfl := Option.some.inj H
                        have hnb58 := NB352_344.out
                        have hnc58 := NB344_352.out
                        have hnb59 := NB352_358.out
                        have hnc59 := NB358_352.out
                        have hcz60_0 : wc.cell? ⟨gb352, 0, none⟩ = some (.slice Ao20 t347.length co20) := (blk_cell BK352.out 0).trans rfl
                        have hcz60_1 : wc.cell? ⟨gb352, 1, none⟩ = some (.int .i64 t350) := (blk_cell BK352.out 1).trans rfl
                        have hfz60_0 := blk_frozen BK352.out 0
                        have hfz60_1 := blk_frozen BK352.out 1
                        go_wp2_with (first | ((with_reducible refine gate_callee (f := 22) rfl ?_); refine goesL_ (some 56) rfl rfl Tryd.func22 (by kernel_rfl) rfl #[.agg #[.slice Ao20 t347.length co20, .int .i64 t350], .slice A1 l1.length c1] rfl (by (try simp only [List.map_toArray, List.map_cons, List.map_nil]); first | done | rfl | (simp only [List.length_drop, List.length_take]; rfl)) ?_; (with_reducible refine (linear_Value.calls kj39 _ _ t347 t350 _ _ l1 t363 t364 _ ?side1 ?side2 ?side3 ?side4 A49.out).mono ?_); (case side1 => repeat (first | exact (Kd.R_reads' HO_353000.out).2.2 | (with_reducible refine Kd.C_alloc ?_ _) | (with_reducible refine Kd.C_drewN ?_ _) | (with_reducible refine Kd.C_drew ?_))); (case side2 => exact (Kd.R_reads' HO_353000.out).2.1); (case side3 => repeat (first | exact (Kd.C_below HR1.out HB.out) | (with_reducible refine Kd.C_alloc ?_ _) | (with_reducible refine Kd.C_drewN ?_ _) | (with_reducible refine Kd.C_drew ?_))); (case side4 => exact HC1.out); rintro e w61 ⟨rfl, hb⟩; refine ⟨_, rfl, ?_⟩; have n0_ := Aside0.mk (Kd.R_below (by (with_reducible repeat (first | apply Kd.R_alloc | apply Kd.R_drewN | apply Kd.R_drew)); exact HO_353000.out) hb); have n1_ := Aside0.mk (Kd.R_below (by (with_reducible repeat (first | apply Kd.R_alloc | apply Kd.R_drewN | apply Kd.R_drew)); exact HO_359000.out) hb); have n2_ := Aside0.mk (blk_below (g := gb344) (o := .cells #[.slice A0_0 l0_0.length c0_0, .int .i64 a0_1] 33 (0, 0)) (by (with_reducible repeat (first | refine blk_drewN ?_ _ | refine blk_drew ?_ | refine blk_alloc ?_ _)); exact BK344.out) hb); have n3_ := Aside0.mk (blk_below (g := gb352) (o := .cells #[.slice Ao20 t347.length co20, .int .i64 t350] 33 (0, 0)) (by (with_reducible repeat (first | refine blk_drewN ?_ _ | refine blk_drew ?_ | refine blk_alloc ?_ _)); exact BK352.out) hb); have n4_ := Aside0.mk (blk_below (g := gb358) (o := .cells #[.slice Ao26 t353.length co26, .int .i64 t356] 33 (0, 0)) (by (with_reducible repeat (first | refine blk_drewN ?_ _ | refine blk_drew ?_ | refine blk_alloc ?_ _)); exact BK358.out) hb); have n5_ := Aside0.mk (below_step (by repeat (first | (with_reducible first | exact HB.out | apply below_alloc | apply pw_below_drewN | apply below_drew1 | refine below_set ?_ GE344.out | refine below_set ?_ GE352.out | refine below_set ?_ GE358.out) | exact HB.out)) hb); clear HO_353000; clear HO_359000; clear BK344; clear BK352; clear BK358; clear HB; have HO_353000 := n0_; have HO_359000 := n1_; have BK344 := n2_; have BK352 := n3_; have BK358 := n4_; have HB := n5_; clear n0_ n1_ n2_ n3_ n4_ n5_; (try clear hb); (try clear hb2); (try clear hk); (try clear hi)))
                        go_ret
                        exact ⟨by first | rfl | (simp [errW_none, errW_some] <;> rfl) | (simp [*, errW_none, errW_some] <;> rfl), by repeat (first | (with_reducible first | exact HB.out | apply below_alloc | apply pw_below_drewN | apply below_drew1 | refine below_set ?_ GE344.out | refine below_set ?_ GE352.out | refine below_set ?_ GE358.out) | exact HB.out)⟩
                    · rw [if_neg c50] at H
                      have c50b0 : (t364 == 0) = false := beq_eq_false_iff_ne.mpr c50
                      have c50b1 : (t364 != 0) = true := bne_iff_ne.mpr c50
                      obtain rfl := Option.some.inj H
                      have hnb62 := NB352_344.out
                      have hnc62 := NB344_352.out
                      have hnb63 := NB352_358.out
                      have hnc63 := NB358_352.out
                      have hcz64_0 : wc.cell? ⟨gb352, 0, none⟩ = some (.slice Ao20 t347.length co20) := (blk_cell BK352.out 0).trans rfl
                      have hcz64_1 : wc.cell? ⟨gb352, 1, none⟩ = some (.int .i64 t350) := (blk_cell BK352.out 1).trans rfl
                      have hfz64_0 := blk_frozen BK352.out 0
                      have hfz64_1 := blk_frozen BK352.out 1
                      go_wp2_with (first | ((with_reducible refine gate_callee (f := 22) rfl ?_); refine goesL_ (some 56) rfl rfl Tryd.func22 (by kernel_rfl) rfl #[.agg #[.slice Ao20 t347.length co20, .int .i64 t350], .slice A1 l1.length c1] rfl (by (try simp only [List.map_toArray, List.map_cons, List.map_nil]); first | done | rfl | (simp only [List.length_drop, List.length_take]; rfl)) ?_; (with_reducible refine (linear_Value.calls kj39 _ _ t347 t350 _ _ l1 t363 t364 _ ?side1 ?side2 ?side3 ?side4 A49.out).mono ?_); (case side1 => repeat (first | exact (Kd.R_reads' HO_353000.out).2.2 | (with_reducible refine Kd.C_alloc ?_ _) | (with_reducible refine Kd.C_drewN ?_ _) | (with_reducible refine Kd.C_drew ?_))); (case side2 => exact (Kd.R_reads' HO_353000.out).2.1); (case side3 => repeat (first | exact (Kd.C_below HR1.out HB.out) | (with_reducible refine Kd.C_alloc ?_ _) | (with_reducible refine Kd.C_drewN ?_ _) | (with_reducible refine Kd.C_drew ?_))); (case side4 => exact HC1.out); rintro e w65 ⟨rfl, hb⟩; refine ⟨_, rfl, ?_⟩; have n0_ := Aside0.mk (Kd.R_below (by (with_reducible repeat (first | apply Kd.R_alloc | apply Kd.R_drewN | apply Kd.R_drew)); exact HO_353000.out) hb); have n1_ := Aside0.mk (Kd.R_below (by (with_reducible repeat (first | apply Kd.R_alloc | apply Kd.R_drewN | apply Kd.R_drew)); exact HO_359000.out) hb); have n2_ := Aside0.mk (blk_below (g := gb344) (o := .cells #[.slice A0_0 l0_0.length c0_0, .int .i64 a0_1] 33 (0, 0)) (by (with_reducible repeat (first | refine blk_drewN ?_ _ | refine blk_drew ?_ | refine blk_alloc ?_ _)); exact BK344.out) hb); have n3_ := Aside0.mk (blk_below (g := gb352) (o := .cells #[.slice Ao20 t347.length co20, .int .i64 t350] 33 (0, 0)) (by (with_reducible repeat (first | refine blk_drewN ?_ _ | refine blk_drew ?_ | refine blk_alloc ?_ _)); exact BK352.out) hb); have n4_ := Aside0.mk (blk_below (g := gb358) (o := .cells #[.slice Ao26 t353.length co26, .int .i64 t356] 33 (0, 0)) (by (with_reducible repeat (first | refine blk_drewN ?_ _ | refine blk_drew ?_ | refine blk_alloc ?_ _)); exact BK358.out) hb); have n5_ := Aside0.mk (below_step (by repeat (first | (with_reducible first | exact HB.out | apply below_alloc | apply pw_below_drewN | apply below_drew1 | refine below_set ?_ GE344.out | refine below_set ?_ GE352.out | refine below_set ?_ GE358.out) | exact HB.out)) hb); clear HO_353000; clear HO_359000; clear BK344; clear BK352; clear BK358; clear HB; have HO_353000 := n0_; have HO_359000 := n1_; have BK344 := n2_; have BK352 := n3_; have BK358 := n4_; have HB := n5_; clear n0_ n1_ n2_ n3_ n4_ n5_; (try clear hb); (try clear hb2); (try clear hk); (try clear hi)))
                      go_ret
                      exact ⟨by first | rfl | (simp [errW_none, errW_some] <;> rfl) | (simp [*, errW_none, errW_some] <;> rfl), by repeat (first | (with_reducible first | exact HB.out | apply below_alloc | apply pw_below_drewN | apply below_drew1 | refine below_set ?_ GE344.out | refine below_set ?_ GE352.out | refine below_set ?_ GE358.out) | exact HB.out)⟩

end Go.Proofs.YtbioiodjdfcooaaDoor.P
