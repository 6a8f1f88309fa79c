import Derived.Test.YtbioiodjdfcooaaDoorVBPx0
import Derived.Test.YtbioiodjdfcooaaDoorVBPx1
import Derived.Test.YtbioiodjdfcooaaDoorVBPx7
import Derived.Test.YtbioiodjdfcooaaDoorVBPx10
import Derived.Test.YtbioiodjdfcooaaDoorVBPx18
import Derived.Test.YtbioiodjdfcooaaDoorVBPx28
import Derived.Test.YtbioiodjdfcooaaDoorVBPx30
-- Written by a program of this session (wip/tools/doprint.sh: the kit's print, with given texts for some functions).
namespace Go.Proofs.YtbioiodjdfcooaaDoor.P
open Go.RowKit Go.Proofs.YtbioiodjdfcooaaDoorW.PrintWords Go.Proofs.YtbioiodjdfcooaaDoorW.PrintLast Go.Proofs.YtbioiodjdfcooaaDoorW.PrintMore
attribute [local go_sem] max2_int min2_int max_two min_two max_three min_three max_four min_four   -- for this text's walks alone
set_option linter.unusedVariables false
set_option linter.unusedSimpArgs false

/-! ### familychecklaw01_LinearCombines: function 10 -/
mutual
def familychecklaw01_LinearCombines.j0 : Nat → Bool → List Int → Int → List Int → Int → Int → Int → Option (Bool)
  | 0, _, _, _, _, _, _, _ => none
  | k + 1, x17, x426000, x426001, x426002, x426003, x426004, x426005 => if x17 = true then ((familychecklaw01_known.f k).bind fun t428 => (some t428)) else ((familycheckref01_CopyRow.f x426000 x426001).bind fun bt429 => ((familycheckref01_CopyRow.f x426002 x426003).bind fun bt433 => ((linear_Combine.f k bt429.1 bt429.2 x426004 bt433.1 bt433.2 x426005).bind fun bt439 => ((familycheckref01_Combine.f k x426000 x426001 x426004 x426002 x426003 x426005).bind fun bt445 => (if bt439.2.2 = bt445.2.2 then ((familycheckref01_SameRow.f k bt439.1 bt439.2.1 bt445.1 bt445.2.1).bind fun t451 => (familychecklaw01_LinearCombines.j1 k t451 x426000 x426001 x426002 x426003 x426004 x426005 bt429.1 bt429.2 bt433.1 bt433.2 bt439.1 bt439.2.1)) else (familychecklaw01_LinearCombines.j1 k false x426000 x426001 x426002 x426003 x426004 x426005 bt429.1 bt429.2 bt433.1 bt433.2 bt439.1 bt439.2.1))))))
def familychecklaw01_LinearCombines.j1 : Nat → Bool → List Int → Int → List Int → Int → Int → Int → List Int → Int → List Int → Int → List Int → Int → Option (Bool)
  | 0, _, _, _, _, _, _, _, _, _, _, _, _, _ => none
  | k + 1, x9, x426000, x426001, x426002, x426003, x426004, x426005, x438000, x438001, x439000, x439001, x445000, x445001 => (familychecklaw01_spoil.f k x445000).bind fun t452 => (if x9 = true then ((familycheckref01_SameRow.f k x438000 x438001 x426000 x426001).bind fun t453 => (if t453 = true then ((familycheckref01_SameRow.f k x439000 x439001 x426002 x426003).bind fun t454 => (if t454 = true then ((familychecklaw01_known.f k).bind fun t455 => (some t455)) else (some false))) else (some false))) else (some false))
end
def familychecklaw01_LinearCombines.f (k : Nat) (l0_0 : List Int) (a0_1 : Int) (l0_2 : List Int) (a0_3 : Int) (a0_4 : Int) (a0_5 : Int) : Option (Bool) := (familychecklaw01_long.f l0_0 a0_1).bind fun t426 => (if t426 = true then (familychecklaw01_LinearCombines.j0 k true l0_0 a0_1 l0_2 a0_3 a0_4 a0_5) else ((familychecklaw01_long.f l0_2 a0_3).bind fun t427 => (familychecklaw01_LinearCombines.j0 k t427 l0_0 a0_1 l0_2 a0_3 a0_4 a0_5)))
def familychecklaw01_LinearCombines.T3 : Bool × List (List Nat × List Nat) := (true, [([], []), ([0], [0]), ([1], [1]), ([], []), ([3], [3]), ([4, 2], [4]), ([], []), ([], []), ([6, 2, 5, 0, 1, 2, 6, 7], [2, 6]), ([7, 5, 8, 0, 1, 2, 3, 4, 5, 6, 7, 8], [5, 7])])
def familychecklaw01_LinearCombines.B3 : List Nat := [0, 1, 3, 0, 8, 31, 0, 0, 255, 511]
theorem familychecklaw01_LinearCombines.tab3 : rtab .any (opsOf Tryd.f10 3) = familychecklaw01_LinearCombines.T3 := by kernel_rfl
theorem familychecklaw01_LinearCombines.bits3 : waitsOk familychecklaw01_LinearCombines.T3.2 familychecklaw01_LinearCombines.B3 = true := by kernel_rfl
set_option maxHeartbeats 8000000 in
set_option maxRecDepth 100000 in
theorem familychecklaw01_LinearCombines.calls (k : Nat) (A0_0 : Option Addr) (c0_0 : Nat) (l0_0 : List Int) (a0_1 : Int) (A0_2 : Option Addr) (c0_2 : Nat) (l0_2 : List Int) (a0_3 : Int) (a0_4 : Int) (a0_5 : Int) (r : Bool) (w : World) (hr0_0 : Kd.C (Kd.int .i64) w A0_0 l0_0.length l0_0) (hc0_0 : l0_0.length ≤ c0_0) (hr0_2 : Kd.C (Kd.int .i64) w A0_2 l0_2.length l0_2) (hc0_2 : l0_2.length ≤ c0_2) (h : familychecklaw01_LinearCombines.f k l0_0 a0_1 l0_2 a0_3 a0_4 a0_5 = some r) :
    Calls Tryd.prog 10 #[.agg #[.slice A0_0 l0_0.length c0_0, .int .i64 a0_1, .slice A0_2 l0_2.length c0_2, .int .i64 a0_3, .int .i64 a0_4, .int .i64 a0_5]] w fun e w' => e = .returned (.bool r) ∧ Below w.heap.size w w' := by
  have hu48 := Tryd.underlying48
  have hu33 := Tryd.underlying33
  have HR0_0 := Aside0.mk hr0_0
  have HC0_0 := Aside0.mk hc0_0
  clear hr0_0 hc0_0
  have HR0_2 := Aside0.mk hr0_2
  have HC0_2 := Aside0.mk hc0_2
  clear hr0_2 hc0_2
  have HB := Aside0.mk (Below.refl w.heap.size w)
  have H : ((familychecklaw01_long.f l0_0 a0_1).bind fun t426 => (if t426 = true then (familychecklaw01_LinearCombines.j0 k true l0_0 a0_1 l0_2 a0_3 a0_4 a0_5) else ((familychecklaw01_long.f l0_2 a0_3).bind fun t427 => (familychecklaw01_LinearCombines.j0 k t427 l0_0 a0_1 l0_2 a0_3 a0_4 a0_5)))) = some r := h
  clear h
  have HC2 := Aside0.mk H
  clear H
  go_enter Tryd.func10, Tryd.ntmps10
  go_upto_region 1 with (first | ((with_reducible refine gate_dst (N := 1) rfl ?_); refine box_event ?hg (N := 1) ?hd (cs := #[.slice A0_0 l0_0.length c0_0, .int .i64 a0_1, .slice A0_2 l0_2.length c0_2, .int .i64 a0_3, .int .i64 a0_4, .int .i64 a0_5]) (t := 48) ?hr ?_; (case hd => rfl); (case hg => rfl); (case hr => first | (go_simp; done) | (go_simp; rfl)); intro gb425 hg w3 hbox hb; have n0_ := Aside0.mk (below_step (by repeat (first | (with_reducible first | exact HB.out | apply below_alloc | apply pw_below_drewN | apply below_drew1) | exact HB.out)) hb); have n1_ := Aside0.mk (hbox); have n2_ := Aside0.mk ((by rw [hg]; exact (below_size (by repeat (first | (with_reducible first | exact HB.out | apply below_alloc | apply pw_below_drewN | apply below_drew1) | exact HB.out))) : w.heap.size ≤ gb425)); have n3_ := Aside0.mk ((by rw [hg]; exact (below_size (by repeat (first | (with_reducible first | exact HB.out | apply below_alloc | apply pw_below_drewN | apply below_drew1) | exact HB.out))) : w.heap.size ≤ gb425)); clear HB; have HB := n0_; have BK425 := n1_; have GW425 := n2_; have GE425 := n3_; clear n0_ n1_ n2_ n3_; clear hb hbox hg))
  (try simp only [Act.put, List.setIfInBounds_toArray, List.set_cons_zero, List.set_cons_succ])
  go_cut [17] (fun v17 wc => ∃ (kq : Nat) (x17_1 : Bool), v17 = .bool x17_1 ∧ Aside0 (familychecklaw01_LinearCombines.j0 kq x17_1 l0_0 a0_1 l0_2 a0_3 a0_4 a0_5 = some r) ∧ Aside0 (kq ≤ k) ∧ Aside0 (wc.heap[gb425]? = some (.cells #[(.slice A0_0 l0_0.length c0_0), .int .i64 a0_1, (.slice A0_2 l0_2.length c0_2), .int .i64 a0_3, .int .i64 a0_4, .int .i64 a0_5] 48 (0, 0))) ∧ Aside0 (Below w.heap.size w wc))
  case first =>
    have H := HC2.out
    clear HC2
    replace H := Option.bind_eq_some_iff.mp H
    obtain ⟨t426, A40, H⟩ := H
    replace H : (if t426 = true then (familychecklaw01_LinearCombines.j0 k true l0_0 a0_1 l0_2 a0_3 a0_4 a0_5) else ((familychecklaw01_long.f l0_2 a0_3).bind fun t427 => (familychecklaw01_LinearCombines.j0 k t427 l0_0 a0_1 l0_2 a0_3 a0_4 a0_5))) = some r := H
    have A4 := Aside0.mk A40
    clear A40
    by_cases c5 : t426 = true
    · subst c5
      have H1 : (familychecklaw01_LinearCombines.j0 k true l0_0 a0_1 l0_2 a0_3 a0_4 a0_5) = some r := by rw [if_pos rfl] at H; exact H
      clear H
      have H := H1
      clear H1
      have H' := Aside0.mk H
      clear H
      have hcz6_0 : w3.cell? ⟨gb425, 0, none⟩ = some (.slice A0_0 l0_0.length c0_0) := (blk_cell BK425.out 0).trans rfl
      have hcz6_1 : w3.cell? ⟨gb425, 1, none⟩ = some (.int .i64 a0_1) := (blk_cell BK425.out 1).trans rfl
      have hcz6_2 : w3.cell? ⟨gb425, 2, none⟩ = some (.slice A0_2 l0_2.length c0_2) := (blk_cell BK425.out 2).trans rfl
      have hcz6_3 : w3.cell? ⟨gb425, 3, none⟩ = some (.int .i64 a0_3) := (blk_cell BK425.out 3).trans rfl
      have hcz6_4 : w3.cell? ⟨gb425, 4, none⟩ = some (.int .i64 a0_4) := (blk_cell BK425.out 4).trans rfl
      have hcz6_5 : w3.cell? ⟨gb425, 5, none⟩ = some (.int .i64 a0_5) := (blk_cell BK425.out 5).trans rfl
      have hfz6_0 := blk_frozen BK425.out 0
      have hfz6_1 := blk_frozen BK425.out 1
      have hfz6_2 := blk_frozen BK425.out 2
      have hfz6_3 := blk_frozen BK425.out 3
      have hfz6_4 := blk_frozen BK425.out 4
      have hfz6_5 := blk_frozen BK425.out 5
      go_wp2_with (first | ((with_reducible refine gate_callee (f := 21) rfl ?_); refine goesL_ (some 12) rfl rfl Tryd.func21 (by kernel_rfl) rfl #[.agg #[.slice A0_0 l0_0.length c0_0, .int .i64 a0_1]] rfl (by (try simp only [List.map_toArray, List.map_cons, List.map_nil]); first | done | rfl | (simp only [List.length_drop, List.length_take]; rfl)) ?_; (with_reducible refine (familychecklaw01_long.calls _ _ l0_0 a0_1 true _ ?side1 ?side2 A4.out).mono ?_); (case side1 => repeat (first | exact (Kd.C_below HR0_0.out HB.out) | (with_reducible refine Kd.C_alloc ?_ _) | (with_reducible refine Kd.C_drewN ?_ _) | (with_reducible refine Kd.C_drew ?_))); (case side2 => exact HC0_0.out); rintro e w7 ⟨rfl, hb⟩; refine ⟨_, rfl, ?_⟩; have n0_ := Aside0.mk (blk_below (g := gb425) (o := .cells #[.slice A0_0 l0_0.length c0_0, .int .i64 a0_1, .slice A0_2 l0_2.length c0_2, .int .i64 a0_3, .int .i64 a0_4, .int .i64 a0_5] 48 (0, 0)) (by (with_reducible repeat (first | refine blk_drewN ?_ _ | refine blk_drew ?_ | refine blk_alloc ?_ _)); exact BK425.out) hb); have n1_ := Aside0.mk (below_step (by repeat (first | (with_reducible first | exact HB.out | apply below_alloc | apply pw_below_drewN | apply below_drew1 | refine below_set ?_ GE425.out) | exact HB.out)) hb); clear BK425; clear HB; have BK425 := n0_; have HB := n1_; clear n0_ n1_; (try clear hb); (try clear hb2); (try clear hk); (try clear hi)))
      go_meet
      case rel => exact ⟨_, (true), (by first | rfl | (simp; done) | (simp [*]; done)), H', ⟨by first | omega | exact Nat.le_refl _⟩, ⟨by (with_reducible repeat (first | refine blk_drewN ?_ _ | refine blk_drew ?_ | refine blk_alloc ?_ _)); exact BK425.out⟩, ⟨by repeat (first | (with_reducible first | exact HB.out | apply below_alloc | apply pw_below_drewN | apply below_drew1 | refine below_set ?_ GE425.out) | exact HB.out)⟩⟩
    · replace c5 := Bool.eq_false_iff.mpr c5
      subst c5
      have H1 : ((familychecklaw01_long.f l0_2 a0_3).bind fun t427 => (familychecklaw01_LinearCombines.j0 k t427 l0_0 a0_1 l0_2 a0_3 a0_4 a0_5)) = some r := by rw [if_neg (show ¬ (false = true) by decide)] at H; exact H
      clear H
      have H := H1
      clear H1
      replace H := Option.bind_eq_some_iff.mp H
      obtain ⟨t427, A80, H⟩ := H
      replace H : (familychecklaw01_LinearCombines.j0 k t427 l0_0 a0_1 l0_2 a0_3 a0_4 a0_5) = some r := H
      have A8 := Aside0.mk A80
      clear A80
      have H' := Aside0.mk H
      clear H
      have hcz9_0 : w3.cell? ⟨gb425, 0, none⟩ = some (.slice A0_0 l0_0.length c0_0) := (blk_cell BK425.out 0).trans rfl
      have hcz9_1 : w3.cell? ⟨gb425, 1, none⟩ = some (.int .i64 a0_1) := (blk_cell BK425.out 1).trans rfl
      have hcz9_2 : w3.cell? ⟨gb425, 2, none⟩ = some (.slice A0_2 l0_2.length c0_2) := (blk_cell BK425.out 2).trans rfl
      have hcz9_3 : w3.cell? ⟨gb425, 3, none⟩ = some (.int .i64 a0_3) := (blk_cell BK425.out 3).trans rfl
      have hcz9_4 : w3.cell? ⟨gb425, 4, none⟩ = some (.int .i64 a0_4) := (blk_cell BK425.out 4).trans rfl
      have hcz9_5 : w3.cell? ⟨gb425, 5, none⟩ = some (.int .i64 a0_5) := (blk_cell BK425.out 5).trans rfl
      have hfz9_0 := blk_frozen BK425.out 0
      have hfz9_1 := blk_frozen BK425.out 1
      have hfz9_2 := blk_frozen BK425.out 2
      have hfz9_3 := blk_frozen BK425.out 3
      have hfz9_4 := blk_frozen BK425.out 4
      have hfz9_5 := blk_frozen BK425.out 5
      go_wp2_with (first | ((with_reducible refine gate_callee (f := 21) rfl ?_); refine goesL_ (some 12) rfl rfl Tryd.func21 (by kernel_rfl) rfl #[.agg #[.slice A0_0 l0_0.length c0_0, .int .i64 a0_1]] rfl (by (try simp only [List.map_toArray, List.map_cons, List.map_nil]); first | done | rfl | (simp only [List.length_drop, List.length_take]; rfl)) ?_; (with_reducible refine (familychecklaw01_long.calls _ _ l0_0 a0_1 false _ ?side1 ?side2 A4.out).mono ?_); (case side1 => repeat (first | exact (Kd.C_below HR0_0.out HB.out) | (with_reducible refine Kd.C_alloc ?_ _) | (with_reducible refine Kd.C_drewN ?_ _) | (with_reducible refine Kd.C_drew ?_))); (case side2 => exact HC0_0.out); rintro e w10 ⟨rfl, hb⟩; refine ⟨_, rfl, ?_⟩; have n0_ := Aside0.mk (blk_below (g := gb425) (o := .cells #[.slice A0_0 l0_0.length c0_0, .int .i64 a0_1, .slice A0_2 l0_2.length c0_2, .int .i64 a0_3, .int .i64 a0_4, .int .i64 a0_5] 48 (0, 0)) (by (with_reducible repeat (first | refine blk_drewN ?_ _ | refine blk_drew ?_ | refine blk_alloc ?_ _)); exact BK425.out) hb); have n1_ := Aside0.mk (below_step (by repeat (first | (with_reducible first | exact HB.out | apply below_alloc | apply pw_below_drewN | apply below_drew1 | refine below_set ?_ GE425.out) | exact HB.out)) hb); clear BK425; clear HB; have BK425 := n0_; have HB := n1_; clear n0_ n1_; (try clear hb); (try clear hb2); (try clear hk); (try clear hi); have hcz11_0 : w10.cell? ⟨gb425, 0, none⟩ = some (.slice A0_0 l0_0.length c0_0) := (blk_cell BK425.out 0).trans rfl; have hcz11_1 : w10.cell? ⟨gb425, 1, none⟩ = some (.int .i64 a0_1) := (blk_cell BK425.out 1).trans rfl; have hcz11_2 : w10.cell? ⟨gb425, 2, none⟩ = some (.slice A0_2 l0_2.length c0_2) := (blk_cell BK425.out 2).trans rfl; have hcz11_3 : w10.cell? ⟨gb425, 3, none⟩ = some (.int .i64 a0_3) := (blk_cell BK425.out 3).trans rfl; have hcz11_4 : w10.cell? ⟨gb425, 4, none⟩ = some (.int .i64 a0_4) := (blk_cell BK425.out 4).trans rfl; have hcz11_5 : w10.cell? ⟨gb425, 5, none⟩ = some (.int .i64 a0_5) := (blk_cell BK425.out 5).trans rfl; have hfz11_0 := blk_frozen BK425.out 0; have hfz11_1 := blk_frozen BK425.out 1; have hfz11_2 := blk_frozen BK425.out 2; have hfz11_3 := blk_frozen BK425.out 3; have hfz11_4 := blk_frozen BK425.out 4; have hfz11_5 := blk_frozen BK425.out 5) | (go_at_call 21; (with_reducible refine (familychecklaw01_long.calls _ _ l0_2 a0_3 t427 _ ?side1 ?side2 A8.out).mono ?_); (case side1 => repeat (first | exact (Kd.C_below HR0_2.out HB.out) | (with_reducible refine Kd.C_alloc ?_ _) | (with_reducible refine Kd.C_drewN ?_ _) | (with_reducible refine Kd.C_drew ?_))); (case side2 => exact HC0_2.out); rintro e w12 ⟨rfl, hb⟩; have n0_ := Aside0.mk (blk_below (g := gb425) (o := .cells #[.slice A0_0 l0_0.length c0_0, .int .i64 a0_1, .slice A0_2 l0_2.length c0_2, .int .i64 a0_3, .int .i64 a0_4, .int .i64 a0_5] 48 (0, 0)) (by (with_reducible repeat (first | refine blk_drewN ?_ _ | refine blk_drew ?_ | refine blk_alloc ?_ _)); exact BK425.out) hb); have n1_ := Aside0.mk (below_step (by repeat (first | (with_reducible first | exact HB.out | apply below_alloc | apply pw_below_drewN | apply below_drew1 | refine below_set ?_ GE425.out) | exact HB.out)) hb); clear BK425; clear HB; have BK425 := n0_; have HB := n1_; clear n0_ n1_; (try clear hb); (try clear hb2); (try clear hk); (try clear hi)))
      go_meet
      case rel => exact ⟨_, (t427), (by first | rfl | (simp; done) | (simp [*]; done)), H', ⟨by first | omega | exact Nat.le_refl _⟩, ⟨by (with_reducible repeat (first | refine blk_drewN ?_ _ | refine blk_drew ?_ | refine blk_alloc ?_ _)); exact BK425.out⟩, ⟨by repeat (first | (with_reducible first | exact HB.out | apply below_alloc | apply pw_below_drewN | apply below_drew1 | refine below_set ?_ GE425.out) | exact HB.out)⟩⟩
  case rest =>
    clear HC2
    try clear c1
    try clear c2
    try clear p2
    try clear c5
    try clear c10
    try clear hcz11_0
    try clear hcz11_1
    try clear hcz11_2
    try clear hcz11_3
    try clear hcz11_4
    try clear hcz11_5
    try clear hcz6_0
    try clear hcz6_1
    try clear hcz6_2
    try clear hcz6_3
    try clear hcz6_4
    try clear hcz6_5
    try clear hcz9_0
    try clear hcz9_1
    try clear hcz9_2
    try clear hcz9_3
    try clear hcz9_4
    try clear hcz9_5
    try clear hfz11_0
    try clear hfz11_1
    try clear hfz11_2
    try clear hfz11_3
    try clear hfz11_4
    try clear hfz11_5
    try clear hfz6_0
    try clear hfz6_1
    try clear hfz6_2
    try clear hfz6_3
    try clear hfz6_4
    try clear hfz6_5
    try clear hfz9_0
    try clear hfz9_1
    try clear hfz9_2
    try clear hfz9_3
    try clear hfz9_4
    try clear hfz9_5
    obtain ⟨kq, x17_1, rfl, HA, HJ1, BK425, HB⟩ := hcut
    cases kq with
    | zero => exact absurd HA.out (by simp [familychecklaw01_LinearCombines.j0])
    | succ kj1 =>
      have H := HA.out
      clear HA
      simp only [familychecklaw01_LinearCombines.j0] at H
      by_cases c13 : x17_1 = true
      · subst c13
        have H1 : ((familychecklaw01_known.f kj1).bind fun t428 => (some t428)) = some r := by rw [if_pos rfl] at H; exact H
        clear H
        have H := H1
        clear H1
        replace H := Option.bind_eq_some_iff.mp H
        obtain ⟨t428, A140, H⟩ := H
        replace H : (some t428) = some r := H
        have A14 := Aside0.mk A140
        clear A140
        obtain rfl := Option.some.inj H
        go_wp2_with (first | ((with_reducible refine gate_callee (f := 16) rfl ?_); refine goesL_ (some 18) rfl rfl Tryd.func16 (by kernel_rfl) rfl #[] rfl (by (try simp only [List.map_toArray, List.map_cons, List.map_nil]); first | done | rfl | (simp only [List.length_drop, List.length_take]; rfl)) ?_; (with_reducible refine (familychecklaw01_known.calls kj1  t428 _ A14.out).mono ?_); rintro e w15 ⟨rfl, hb⟩; refine ⟨_, rfl, ?_⟩; have n0_ := Aside0.mk (blk_below (g := gb425) (o := .cells #[.slice A0_0 l0_0.length c0_0, .int .i64 a0_1, .slice A0_2 l0_2.length c0_2, .int .i64 a0_3, .int .i64 a0_4, .int .i64 a0_5] 48 (0, 0)) (by (with_reducible repeat (first | refine blk_drewN ?_ _ | refine blk_drew ?_ | refine blk_alloc ?_ _)); exact BK425.out) hb); have n1_ := Aside0.mk (below_step (by repeat (first | (with_reducible first | exact HB.out | apply below_alloc | apply pw_below_drewN | apply below_drew1 | refine below_set ?_ GE425.out) | exact HB.out)) hb); clear BK425; clear HB; have BK425 := n0_; have HB := n1_; clear n0_ n1_; (try clear hb); (try clear hb2); (try clear hk); (try clear hi)))
        go_ret
        exact ⟨by first | rfl | (simp [errW_none, errW_some] <;> rfl) | (simp [*, errW_none, errW_some] <;> rfl), by repeat (first | (with_reducible first | exact HB.out | apply below_alloc | apply pw_below_drewN | apply below_drew1 | refine below_set ?_ GE425.out) | exact HB.out)⟩
      · replace c13 := Bool.eq_false_iff.mpr c13
        subst c13
        have H1 : ((familycheckref01_CopyRow.f l0_0 a0_1).bind fun bt429 => ((familycheckref01_CopyRow.f l0_2 a0_3).bind fun bt433 => ((linear_Combine.f kj1 bt429.1 bt429.2 a0_4 bt433.1 bt433.2 a0_5).bind fun bt439 => ((familycheckref01_Combine.f kj1 l0_0 a0_1 a0_4 l0_2 a0_3 a0_5).bind fun bt445 => (if bt439.2.2 = bt445.2.2 then ((familycheckref01_SameRow.f kj1 bt439.1 bt439.2.1 bt445.1 bt445.2.1).bind fun t451 => (familychecklaw01_LinearCombines.j1 kj1 t451 l0_0 a0_1 l0_2 a0_3 a0_4 a0_5 bt429.1 bt429.2 bt433.1 bt433.2 bt439.1 bt439.2.1)) else (familychecklaw01_LinearCombines.j1 kj1 false l0_0 a0_1 l0_2 a0_3 a0_4 a0_5 bt429.1 bt429.2 bt433.1 bt433.2 bt439.1 bt439.2.1)))))) = some r := by rw [if_neg (show ¬ (false = true) by decide)] at H; exact H
        clear H
        have H := H1
        clear H1
        replace H := Option.bind_eq_some_iff.mp H
        obtain ⟨⟨t429, t432⟩, A160, H⟩ := H
        replace H : ((familycheckref01_CopyRow.f l0_2 a0_3).bind fun bt433 => ((linear_Combine.f kj1 t429 t432 a0_4 bt433.1 bt433.2 a0_5).bind fun bt439 => ((familycheckref01_Combine.f kj1 l0_0 a0_1 a0_4 l0_2 a0_3 a0_5).bind fun bt445 => (if bt439.2.2 = bt445.2.2 then ((familycheckref01_SameRow.f kj1 bt439.1 bt439.2.1 bt445.1 bt445.2.1).bind fun t451 => (familychecklaw01_LinearCombines.j1 kj1 t451 l0_0 a0_1 l0_2 a0_3 a0_4 a0_5 t429 t432 bt433.1 bt433.2 bt439.1 bt439.2.1)) else (familychecklaw01_LinearCombines.j1 kj1 false l0_0 a0_1 l0_2 a0_3 a0_4 a0_5 t429 t432 bt433.1 bt433.2 bt439.1 bt439.2.1))))) = some r := H
        have A16 := Aside0.mk A160
        clear A160
        replace H := Option.bind_eq_some_iff.mp H
        obtain ⟨⟨t433, t436⟩, A170, H⟩ := H
        replace H : ((linear_Combine.f kj1 t429 t432 a0_4 t433 t436 a0_5).bind fun bt439 => ((familycheckref01_Combine.f kj1 l0_0 a0_1 a0_4 l0_2 a0_3 a0_5).bind fun bt445 => (if bt439.2.2 = bt445.2.2 then ((familycheckref01_SameRow.f kj1 bt439.1 bt439.2.1 bt445.1 bt445.2.1).bind fun t451 => (familychecklaw01_LinearCombines.j1 kj1 t451 l0_0 a0_1 l0_2 a0_3 a0_4 a0_5 t429 t432 t433 t436 bt439.1 bt439.2.1)) else (familychecklaw01_LinearCombines.j1 kj1 false l0_0 a0_1 l0_2 a0_3 a0_4 a0_5 t429 t432 t433 t436 bt439.1 bt439.2.1)))) = some r := H
        have A17 := Aside0.mk A170
        clear A170
        replace H := Option.bind_eq_some_iff.mp H
        obtain ⟨⟨t439, t442, t443⟩, A180, H⟩ := H
        replace H : ((familycheckref01_Combine.f kj1 l0_0 a0_1 a0_4 l0_2 a0_3 a0_5).bind fun bt445 => (if t443 = bt445.2.2 then ((familycheckref01_SameRow.f kj1 t439 t442 bt445.1 bt445.2.1).bind fun t451 => (familychecklaw01_LinearCombines.j1 kj1 t451 l0_0 a0_1 l0_2 a0_3 a0_4 a0_5 t429 t432 t433 t436 t439 t442)) else (familychecklaw01_LinearCombines.j1 kj1 false l0_0 a0_1 l0_2 a0_3 a0_4 a0_5 t429 t432 t433 t436 t439 t442))) = some r := H
        have A18 := Aside0.mk A180
        clear A180
        replace H := Option.bind_eq_some_iff.mp H
        obtain ⟨⟨t445, t448, t449⟩, A190, H⟩ := H
        replace H : (if t443 = t449 then ((familycheckref01_SameRow.f kj1 t439 t442 t445 t448).bind fun t451 => (familychecklaw01_LinearCombines.j1 kj1 t451 l0_0 a0_1 l0_2 a0_3 a0_4 a0_5 t429 t432 t433 t436 t439 t442)) else (familychecklaw01_LinearCombines.j1 kj1 false l0_0 a0_1 l0_2 a0_3 a0_4 a0_5 t429 t432 t433 t436 t439 t442)) = some r := H
        have A19 := Aside0.mk A190
        clear A190
        have HC20 := Aside0.mk H
        clear H
        try go_wp2
        have n0_ := Aside0.mk (blk_drew BK425.out)
        have n1_ := Aside0.mk (below_drew1 HB.out)
        clear BK425
        clear HB
        have BK425 := n0_
        have HB := n1_
        clear n0_ n1_
        refine start_ (n := 10) (S := fun w' => w'.cell? ⟨gb425, 0, none⟩ = some (.slice A0_0 l0_0.length c0_0) ∧ w'.cell? ⟨gb425, 1, none⟩ = some (.int .i64 a0_1) ∧ w'.cell? ⟨gb425, 2, none⟩ = some (.slice A0_2 l0_2.length c0_2) ∧ w'.cell? ⟨gb425, 3, none⟩ = some (.int .i64 a0_3) ∧ w'.cell? ⟨gb425, 4, none⟩ = some (.int .i64 a0_4) ∧ w'.cell? ⟨gb425, 5, none⟩ = some (.int .i64 a0_5)) (ds := []) #[false, false, false, false, false, false, false, false, false, false] (by kernel_rfl) rfl rfl ⟨(blk_cell BK425.out 0).trans rfl, (blk_cell BK425.out 1).trans rfl, (blk_cell BK425.out 2).trans rfl, (blk_cell BK425.out 3).trans rfl, (blk_cell BK425.out 4).trans rfl, (blk_cell BK425.out 5).trans rfl⟩ (fun hHeld => ?_); refine with_tabW familychecklaw01_LinearCombines.tab3 familychecklaw01_LinearCombines.bits3 (fun HT_ HW_ => ?_)
        generalize wc.drew = w21 at BK425 HB hHeld ⊢
        refine pure_ (i := 0) (N := some 19) (v := ?_) (a' := ?_) #[true, false, false, false, false, false, false, false, false, false] rfl rfl (any_of HT_.out (by kernel_rfl)) (fun _ _ _ h => h) (Or.inl ⟨by rfl, ?_⟩) ?_ ?_
        rotate_left
        · intro w'
          go_simp
          with_reducible rfl
        rotate_left
        · simp only [Act.put, List.setIfInBounds_toArray, List.set_cons_zero, List.set_cons_succ, i64_w, i32_w]
          rfl
        refine pure_ (i := 3) (N := some 22) (v := ?_) (a' := ?_) #[true, false, false, true, false, false, false, false, false, false] rfl rfl (any_of HT_.out (by kernel_rfl)) (fun _ _ _ h => h) (Or.inl ⟨by rfl, ?_⟩) ?_ ?_
        rotate_left
        · intro w'
          go_simp
          with_reducible rfl
        rotate_left
        · simp only [Act.put, List.setIfInBounds_toArray, List.set_cons_zero, List.set_cons_succ, i64_w, i32_w]
          rfl
        refine take_ (i := 1) (N := some 20) (v := ?_) (a' := ?_) #[true, true, false, true, false, false, false, false, false, false] rfl rfl (take_ofW HT_.out HW_.out (by kernel_rfl)) (fun _ _ _ h => h) (Or.inl ⟨by rfl, ?_⟩) hHeld ?_ ?_
        rotate_left
        · rintro w' ⟨s0, s1, s2, s3, s4, s5⟩
          go_simp
          with_reducible rfl
        rotate_left
        · simp only [Act.put, List.setIfInBounds_toArray, List.set_cons_zero, List.set_cons_succ, i64_w, i32_w]
          rfl
        refine take_ (i := 4) (N := some 23) (v := ?_) (a' := ?_) #[true, true, false, true, true, false, false, false, false, false] rfl rfl (take_ofW HT_.out HW_.out (by kernel_rfl)) (fun _ _ _ h => h) (Or.inl ⟨by rfl, ?_⟩) hHeld ?_ ?_
        rotate_left
        · rintro w' ⟨s0, s1, s2, s3, s4, s5⟩
          go_simp
          with_reducible rfl
        rotate_left
        · simp only [Act.put, List.setIfInBounds_toArray, List.set_cons_zero, List.set_cons_succ, i64_w, i32_w]
          rfl
        refine join_ (σ := Value × Value × Nat × Nat) 2 #[true, true, true, true, true, true, true, true, false, false] (fun s_ => [(21, .agg #[s_.1, .int .i64 t432]), (24, .agg #[s_.2.1, .int .i64 t436]), (3, .pointer (some ⟨s_.2.2.1, 0, none⟩)), (4, .pointer (some ⟨s_.2.2.2, 0, none⟩))]) (fun s_ w' => (w'.cell? ⟨gb425, 0, none⟩ = some (.slice A0_0 l0_0.length c0_0) ∧ w'.cell? ⟨gb425, 1, none⟩ = some (.int .i64 a0_1) ∧ w'.cell? ⟨gb425, 2, none⟩ = some (.slice A0_2 l0_2.length c0_2) ∧ w'.cell? ⟨gb425, 3, none⟩ = some (.int .i64 a0_3) ∧ w'.cell? ⟨gb425, 4, none⟩ = some (.int .i64 a0_4) ∧ w'.cell? ⟨gb425, 5, none⟩ = some (.int .i64 a0_5)) ∧ (Kd.R (Kd.int .i64) 3 w' w.heap.size (fun k_ => some k_ ≠ (s_.2.1 : Value).ownBlock) s_.1 t429) ∧ (Kd.R (Kd.int .i64) 3 w' w.heap.size (fun k_ => some k_ ≠ (s_.1 : Value).ownBlock) s_.2.1 t433) ∧ (w'.heap[gb425]? = some (.cells #[.slice A0_0 l0_0.length c0_0, .int .i64 a0_1, .slice A0_2 l0_2.length c0_2, .int .i64 a0_3, .int .i64 a0_4, .int .i64 a0_5] 48 (0, 0))) ∧ (w'.heap[s_.2.2.1]? = some (.cells #[.slice none 0 0, .int .i64 0] 33 (0, 0))) ∧ (w'.heap[s_.2.2.2]? = some (.cells #[.slice none 0 0, .int .i64 0] 33 (0, 0))) ∧ (w.heap.size ≤ s_.2.2.1) ∧ (w.heap.size ≤ s_.2.2.1) ∧ (gb425 ≠ s_.2.2.1) ∧ (s_.2.2.1 ≠ gb425) ∧ (s_.2.2.2 ≠ s_.2.2.1) ∧ (s_.2.2.1 ≠ s_.2.2.2) ∧ (w.heap.size ≤ s_.2.2.2) ∧ (w.heap.size ≤ s_.2.2.2) ∧ (gb425 ≠ s_.2.2.2) ∧ (s_.2.2.2 ≠ gb425) ∧ (Below w.heap.size w w')) ?_ ?_
        rotate_left
        · intro hJ2_5_6_7
          refine join_ (σ := Value × Value × Nat) 3 #[true, true, true, true, true, true, true, false, false, false] (fun s_ => [(21, .agg #[s_.1, .int .i64 t432]), (24, .agg #[s_.2.1, .int .i64 t436]), (3, .pointer (some ⟨s_.2.2, 0, none⟩))]) (fun s_ w' => (w'.cell? ⟨gb425, 0, none⟩ = some (.slice A0_0 l0_0.length c0_0) ∧ w'.cell? ⟨gb425, 1, none⟩ = some (.int .i64 a0_1) ∧ w'.cell? ⟨gb425, 2, none⟩ = some (.slice A0_2 l0_2.length c0_2) ∧ w'.cell? ⟨gb425, 3, none⟩ = some (.int .i64 a0_3) ∧ w'.cell? ⟨gb425, 4, none⟩ = some (.int .i64 a0_4) ∧ w'.cell? ⟨gb425, 5, none⟩ = some (.int .i64 a0_5)) ∧ (Kd.R (Kd.int .i64) 3 w' w.heap.size (fun k_ => some k_ ≠ (s_.2.1 : Value).ownBlock) s_.1 t429) ∧ (Kd.R (Kd.int .i64) 3 w' w.heap.size (fun k_ => some k_ ≠ (s_.1 : Value).ownBlock) s_.2.1 t433) ∧ (w'.heap[gb425]? = some (.cells #[.slice A0_0 l0_0.length c0_0, .int .i64 a0_1, .slice A0_2 l0_2.length c0_2, .int .i64 a0_3, .int .i64 a0_4, .int .i64 a0_5] 48 (0, 0))) ∧ (w'.heap[s_.2.2]? = some (.cells #[.slice none 0 0, .int .i64 0] 33 (0, 0))) ∧ (w.heap.size ≤ s_.2.2) ∧ (w.heap.size ≤ s_.2.2) ∧ (gb425 ≠ s_.2.2) ∧ (s_.2.2 ≠ gb425) ∧ (Below w.heap.size w w')) ?_ ?_
          rotate_left
          · intro hJ2_5_6
            refine join_ (σ := Value × Value × Nat) 3 #[true, true, true, true, true, true, false, true, false, false] (fun s_ => [(21, .agg #[s_.1, .int .i64 t432]), (24, .agg #[s_.2.1, .int .i64 t436]), (4, .pointer (some ⟨s_.2.2, 0, none⟩))]) (fun s_ w' => (w'.cell? ⟨gb425, 0, none⟩ = some (.slice A0_0 l0_0.length c0_0) ∧ w'.cell? ⟨gb425, 1, none⟩ = some (.int .i64 a0_1) ∧ w'.cell? ⟨gb425, 2, none⟩ = some (.slice A0_2 l0_2.length c0_2) ∧ w'.cell? ⟨gb425, 3, none⟩ = some (.int .i64 a0_3) ∧ w'.cell? ⟨gb425, 4, none⟩ = some (.int .i64 a0_4) ∧ w'.cell? ⟨gb425, 5, none⟩ = some (.int .i64 a0_5)) ∧ (Kd.R (Kd.int .i64) 3 w' w.heap.size (fun k_ => some k_ ≠ (s_.2.1 : Value).ownBlock) s_.1 t429) ∧ (Kd.R (Kd.int .i64) 3 w' w.heap.size (fun k_ => some k_ ≠ (s_.1 : Value).ownBlock) s_.2.1 t433) ∧ (w'.heap[gb425]? = some (.cells #[.slice A0_0 l0_0.length c0_0, .int .i64 a0_1, .slice A0_2 l0_2.length c0_2, .int .i64 a0_3, .int .i64 a0_4, .int .i64 a0_5] 48 (0, 0))) ∧ (w'.heap[s_.2.2]? = some (.cells #[.slice none 0 0, .int .i64 0] 33 (0, 0))) ∧ (w.heap.size ≤ s_.2.2) ∧ (w.heap.size ≤ s_.2.2) ∧ (gb425 ≠ s_.2.2) ∧ (s_.2.2 ≠ gb425) ∧ (Below w.heap.size w w')) ?_ ?_
            rotate_left
            · intro hJ2_5_7
              refine join_ (σ := Value × Nat × Nat) 3 #[true, true, true, true, true, false, true, true, false, false] (fun s_ => [(21, .agg #[s_.1, .int .i64 t432]), (3, .pointer (some ⟨s_.2.1, 0, none⟩)), (4, .pointer (some ⟨s_.2.2, 0, none⟩))]) (fun s_ w' => (w'.cell? ⟨gb425, 0, none⟩ = some (.slice A0_0 l0_0.length c0_0) ∧ w'.cell? ⟨gb425, 1, none⟩ = some (.int .i64 a0_1) ∧ w'.cell? ⟨gb425, 2, none⟩ = some (.slice A0_2 l0_2.length c0_2) ∧ w'.cell? ⟨gb425, 3, none⟩ = some (.int .i64 a0_3) ∧ w'.cell? ⟨gb425, 4, none⟩ = some (.int .i64 a0_4) ∧ w'.cell? ⟨gb425, 5, none⟩ = some (.int .i64 a0_5)) ∧ (Kd.R (Kd.int .i64) 3 w' w.heap.size (fun _ => True) s_.1 t429) ∧ (w'.heap[gb425]? = some (.cells #[.slice A0_0 l0_0.length c0_0, .int .i64 a0_1, .slice A0_2 l0_2.length c0_2, .int .i64 a0_3, .int .i64 a0_4, .int .i64 a0_5] 48 (0, 0))) ∧ (w'.heap[s_.2.1]? = some (.cells #[.slice none 0 0, .int .i64 0] 33 (0, 0))) ∧ (w'.heap[s_.2.2]? = some (.cells #[.slice none 0 0, .int .i64 0] 33 (0, 0))) ∧ (w.heap.size ≤ s_.2.1) ∧ (w.heap.size ≤ s_.2.1) ∧ (gb425 ≠ s_.2.1) ∧ (s_.2.1 ≠ gb425) ∧ (s_.2.2 ≠ s_.2.1) ∧ (s_.2.1 ≠ s_.2.2) ∧ (w.heap.size ≤ s_.2.2) ∧ (w.heap.size ≤ s_.2.2) ∧ (gb425 ≠ s_.2.2) ∧ (s_.2.2 ≠ gb425) ∧ (Below w.heap.size w w')) ?_ ?_
              rotate_left
              · intro hJ2_6_7
                refine join_ (σ := Value × Value) 4 #[true, true, true, true, true, true, false, false, false, false] (fun s_ => [(21, .agg #[s_.1, .int .i64 t432]), (24, .agg #[s_.2, .int .i64 t436])]) (fun s_ w' => (w'.cell? ⟨gb425, 0, none⟩ = some (.slice A0_0 l0_0.length c0_0) ∧ w'.cell? ⟨gb425, 1, none⟩ = some (.int .i64 a0_1) ∧ w'.cell? ⟨gb425, 2, none⟩ = some (.slice A0_2 l0_2.length c0_2) ∧ w'.cell? ⟨gb425, 3, none⟩ = some (.int .i64 a0_3) ∧ w'.cell? ⟨gb425, 4, none⟩ = some (.int .i64 a0_4) ∧ w'.cell? ⟨gb425, 5, none⟩ = some (.int .i64 a0_5)) ∧ (Kd.R (Kd.int .i64) 3 w' w.heap.size (fun k_ => some k_ ≠ (s_.2 : Value).ownBlock) s_.1 t429) ∧ (Kd.R (Kd.int .i64) 3 w' w.heap.size (fun k_ => some k_ ≠ (s_.1 : Value).ownBlock) s_.2 t433) ∧ (w'.heap[gb425]? = some (.cells #[.slice A0_0 l0_0.length c0_0, .int .i64 a0_1, .slice A0_2 l0_2.length c0_2, .int .i64 a0_3, .int .i64 a0_4, .int .i64 a0_5] 48 (0, 0))) ∧ (Below w.heap.size w w')) ?_ ?_
                rotate_left
                · intro hJ2_5
                  refine join_ (σ := Value × Nat) 4 #[true, true, true, true, true, false, true, false, false, false] (fun s_ => [(21, .agg #[s_.1, .int .i64 t432]), (3, .pointer (some ⟨s_.2, 0, none⟩))]) (fun s_ w' => (w'.cell? ⟨gb425, 0, none⟩ = some (.slice A0_0 l0_0.length c0_0) ∧ w'.cell? ⟨gb425, 1, none⟩ = some (.int .i64 a0_1) ∧ w'.cell? ⟨gb425, 2, none⟩ = some (.slice A0_2 l0_2.length c0_2) ∧ w'.cell? ⟨gb425, 3, none⟩ = some (.int .i64 a0_3) ∧ w'.cell? ⟨gb425, 4, none⟩ = some (.int .i64 a0_4) ∧ w'.cell? ⟨gb425, 5, none⟩ = some (.int .i64 a0_5)) ∧ (Kd.R (Kd.int .i64) 3 w' w.heap.size (fun _ => True) s_.1 t429) ∧ (w'.heap[gb425]? = some (.cells #[.slice A0_0 l0_0.length c0_0, .int .i64 a0_1, .slice A0_2 l0_2.length c0_2, .int .i64 a0_3, .int .i64 a0_4, .int .i64 a0_5] 48 (0, 0))) ∧ (w'.heap[s_.2]? = some (.cells #[.slice none 0 0, .int .i64 0] 33 (0, 0))) ∧ (w.heap.size ≤ s_.2) ∧ (w.heap.size ≤ s_.2) ∧ (gb425 ≠ s_.2) ∧ (s_.2 ≠ gb425) ∧ (Below w.heap.size w w')) ?_ ?_
                  rotate_left
                  · intro hJ2_6
                    refine join_ (σ := Value × Nat) 4 #[true, true, true, true, true, false, false, true, false, false] (fun s_ => [(21, .agg #[s_.1, .int .i64 t432]), (4, .pointer (some ⟨s_.2, 0, none⟩))]) (fun s_ w' => (w'.cell? ⟨gb425, 0, none⟩ = some (.slice A0_0 l0_0.length c0_0) ∧ w'.cell? ⟨gb425, 1, none⟩ = some (.int .i64 a0_1) ∧ w'.cell? ⟨gb425, 2, none⟩ = some (.slice A0_2 l0_2.length c0_2) ∧ w'.cell? ⟨gb425, 3, none⟩ = some (.int .i64 a0_3) ∧ w'.cell? ⟨gb425, 4, none⟩ = some (.int .i64 a0_4) ∧ w'.cell? ⟨gb425, 5, none⟩ = some (.int .i64 a0_5)) ∧ (Kd.R (Kd.int .i64) 3 w' w.heap.size (fun _ => True) s_.1 t429) ∧ (w'.heap[gb425]? = some (.cells #[.slice A0_0 l0_0.length c0_0, .int .i64 a0_1, .slice A0_2 l0_2.length c0_2, .int .i64 a0_3, .int .i64 a0_4, .int .i64 a0_5] 48 (0, 0))) ∧ (w'.heap[s_.2]? = some (.cells #[.slice none 0 0, .int .i64 0] 33 (0, 0))) ∧ (w.heap.size ≤ s_.2) ∧ (w.heap.size ≤ s_.2) ∧ (gb425 ≠ s_.2) ∧ (s_.2 ≠ gb425) ∧ (Below w.heap.size w w')) ?_ ?_
                    rotate_left
                    · intro hJ2_7
                      refine join_ (σ := Nat × Nat) 4 #[true, true, false, true, true, false, true, true, false, false] (fun s_ => [(3, .pointer (some ⟨s_.1, 0, none⟩)), (4, .pointer (some ⟨s_.2, 0, none⟩))]) (fun s_ w' => (w'.cell? ⟨gb425, 0, none⟩ = some (.slice A0_0 l0_0.length c0_0) ∧ w'.cell? ⟨gb425, 1, none⟩ = some (.int .i64 a0_1) ∧ w'.cell? ⟨gb425, 2, none⟩ = some (.slice A0_2 l0_2.length c0_2) ∧ w'.cell? ⟨gb425, 3, none⟩ = some (.int .i64 a0_3) ∧ w'.cell? ⟨gb425, 4, none⟩ = some (.int .i64 a0_4) ∧ w'.cell? ⟨gb425, 5, none⟩ = some (.int .i64 a0_5)) ∧ (w'.heap[gb425]? = some (.cells #[.slice A0_0 l0_0.length c0_0, .int .i64 a0_1, .slice A0_2 l0_2.length c0_2, .int .i64 a0_3, .int .i64 a0_4, .int .i64 a0_5] 48 (0, 0))) ∧ (w'.heap[s_.1]? = some (.cells #[.slice none 0 0, .int .i64 0] 33 (0, 0))) ∧ (w'.heap[s_.2]? = some (.cells #[.slice none 0 0, .int .i64 0] 33 (0, 0))) ∧ (w.heap.size ≤ s_.1) ∧ (w.heap.size ≤ s_.1) ∧ (gb425 ≠ s_.1) ∧ (s_.1 ≠ gb425) ∧ (s_.2 ≠ s_.1) ∧ (s_.1 ≠ s_.2) ∧ (w.heap.size ≤ s_.2) ∧ (w.heap.size ≤ s_.2) ∧ (gb425 ≠ s_.2) ∧ (s_.2 ≠ gb425) ∧ (Below w.heap.size w w')) ?_ ?_
                      rotate_left
                      · intro hJ6_7
                        refine join_ (σ := Value) 5 #[true, true, true, true, true, false, false, false, false, false] (fun s_ => [(21, .agg #[s_, .int .i64 t432])]) (fun s_ w' => (w'.cell? ⟨gb425, 0, none⟩ = some (.slice A0_0 l0_0.length c0_0) ∧ w'.cell? ⟨gb425, 1, none⟩ = some (.int .i64 a0_1) ∧ w'.cell? ⟨gb425, 2, none⟩ = some (.slice A0_2 l0_2.length c0_2) ∧ w'.cell? ⟨gb425, 3, none⟩ = some (.int .i64 a0_3) ∧ w'.cell? ⟨gb425, 4, none⟩ = some (.int .i64 a0_4) ∧ w'.cell? ⟨gb425, 5, none⟩ = some (.int .i64 a0_5)) ∧ (Kd.R (Kd.int .i64) 3 w' w.heap.size (fun _ => True) s_ t429) ∧ (w'.heap[gb425]? = some (.cells #[.slice A0_0 l0_0.length c0_0, .int .i64 a0_1, .slice A0_2 l0_2.length c0_2, .int .i64 a0_3, .int .i64 a0_4, .int .i64 a0_5] 48 (0, 0))) ∧ (Below w.heap.size w w')) ?_ ?_
                        rotate_left
                        · intro hJ2
                          refine join_ (σ := Nat) 5 #[true, true, false, true, true, false, true, false, false, false] (fun s_ => [(3, .pointer (some ⟨s_, 0, none⟩))]) (fun s_ w' => (w'.cell? ⟨gb425, 0, none⟩ = some (.slice A0_0 l0_0.length c0_0) ∧ w'.cell? ⟨gb425, 1, none⟩ = some (.int .i64 a0_1) ∧ w'.cell? ⟨gb425, 2, none⟩ = some (.slice A0_2 l0_2.length c0_2) ∧ w'.cell? ⟨gb425, 3, none⟩ = some (.int .i64 a0_3) ∧ w'.cell? ⟨gb425, 4, none⟩ = some (.int .i64 a0_4) ∧ w'.cell? ⟨gb425, 5, none⟩ = some (.int .i64 a0_5)) ∧ (w'.heap[gb425]? = some (.cells #[.slice A0_0 l0_0.length c0_0, .int .i64 a0_1, .slice A0_2 l0_2.length c0_2, .int .i64 a0_3, .int .i64 a0_4, .int .i64 a0_5] 48 (0, 0))) ∧ (w'.heap[s_]? = some (.cells #[.slice none 0 0, .int .i64 0] 33 (0, 0))) ∧ (w.heap.size ≤ s_) ∧ (w.heap.size ≤ s_) ∧ (gb425 ≠ s_) ∧ (s_ ≠ gb425) ∧ (Below w.heap.size w w')) ?_ ?_
                          rotate_left
                          · intro hJ6
                            refine join_ (σ := Nat) 5 #[true, true, false, true, true, false, false, true, false, false] (fun s_ => [(4, .pointer (some ⟨s_, 0, none⟩))]) (fun s_ w' => (w'.cell? ⟨gb425, 0, none⟩ = some (.slice A0_0 l0_0.length c0_0) ∧ w'.cell? ⟨gb425, 1, none⟩ = some (.int .i64 a0_1) ∧ w'.cell? ⟨gb425, 2, none⟩ = some (.slice A0_2 l0_2.length c0_2) ∧ w'.cell? ⟨gb425, 3, none⟩ = some (.int .i64 a0_3) ∧ w'.cell? ⟨gb425, 4, none⟩ = some (.int .i64 a0_4) ∧ w'.cell? ⟨gb425, 5, none⟩ = some (.int .i64 a0_5)) ∧ (w'.heap[gb425]? = some (.cells #[.slice A0_0 l0_0.length c0_0, .int .i64 a0_1, .slice A0_2 l0_2.length c0_2, .int .i64 a0_3, .int .i64 a0_4, .int .i64 a0_5] 48 (0, 0))) ∧ (w'.heap[s_]? = some (.cells #[.slice none 0 0, .int .i64 0] 33 (0, 0))) ∧ (w.heap.size ≤ s_) ∧ (w.heap.size ≤ s_) ∧ (gb425 ≠ s_) ∧ (s_ ≠ gb425) ∧ (Below w.heap.size w w')) ?_ ?_
                            rotate_left
                            · intro hJ7
                              refine three_ (i := 2) (j := 6) (k := 7) (Ni := some 21) (Nj := some 3) (Nk := some 4) #[true, true, true, true, true, false, false, false, false, false] #[true, true, false, true, true, false, true, false, false, false] #[true, true, false, true, true, false, false, true, false, false] rfl rfl rfl rfl rfl rfl (three_of HT_.out (by kernel_rfl)) (by decide) (by decide) (by decide) (fun K hK => ?_) (fun K hK => ?_) (fun K hK => ?_)
                              · skip
                                refine goes_ Tryd.func26 (by kernel_rfl) rfl #[.agg #[.slice A0_0 l0_0.length c0_0, .int .i64 a0_1]] (by rfl) rfl rfl (by (try simp only [List.map_toArray, List.map_cons, List.map_nil]); first | done | rfl | (simp only [List.length_drop, List.length_take]; rfl)) ?_
                                with_reducible refine (familycheckref01_CopyRow.calls _ _ l0_0 a0_1 t429 t432 _ ?side1 ?side2 A16.out).mono ?_
                                (case side1 => repeat (first | exact (Kd.C_below HR0_0.out HB.out) | (with_reducible refine Kd.C_alloc ?_ _) | (with_reducible refine Kd.C_drewN ?_ _) | (with_reducible refine Kd.C_drew ?_)))
                                (case side2 => exact HC0_0.out)
                                rintro e w22 ⟨v430, rfl, ho0, hb⟩
                                refine ⟨_, rfl, ?_⟩
                                have n0_ := Aside0.mk (Kd.R_lower ho0 (below_size (by repeat (first | (with_reducible first | exact HB.out | apply below_alloc | apply pw_below_drewN | apply below_drew1 | refine below_set ?_ GE425.out) | exact HB.out))))
                                have n1_ := Aside0.mk (blk_below (g := gb425) (o := .cells #[.slice A0_0 l0_0.length c0_0, .int .i64 a0_1, .slice A0_2 l0_2.length c0_2, .int .i64 a0_3, .int .i64 a0_4, .int .i64 a0_5] 48 (0, 0)) (by (with_reducible repeat (first | refine blk_drewN ?_ _ | refine blk_drew ?_ | refine blk_alloc ?_ _)); exact BK425.out) hb)
                                have n2_ := Aside0.mk (below_step (by repeat (first | (with_reducible first | exact HB.out | apply below_alloc | apply pw_below_drewN | apply below_drew1 | refine below_set ?_ GE425.out) | exact HB.out)) hb)
                                clear BK425
                                clear HB
                                have HO431 := n0_
                                have BK425 := n1_
                                have HB := n2_
                                clear n0_ n1_ n2_
                                (try clear hb)
                                (try clear hb2)
                                (try clear hk)
                                (try clear hi)
                                (try clear ho0)
                                refine hK.out _ _ ⟨(blk_cell BK425.out 0).trans rfl, (blk_cell BK425.out 1).trans rfl, (blk_cell BK425.out 2).trans rfl, (blk_cell BK425.out 3).trans rfl, (blk_cell BK425.out 4).trans rfl, (blk_cell BK425.out 5).trans rfl⟩ (fun hHeld => ?_)
                                clear hK K
                                refine norm_ (a' := ?_) ?_ ?_
                                rotate_left
                                · show Act.put _ (some 21) _ = _
                                  simp only [Act.put, List.setIfInBounds_toArray, List.set_cons_zero, List.set_cons_succ, i64_w, i32_w]
                                  rfl
                                exact norm_ (by first | (simp only [putAll, Act.put, List.setIfInBounds_toArray, List.set_cons_zero, List.set_cons_succ]; done) | (simp only [putAll, Act.put, List.setIfInBounds_toArray, List.set_cons_zero, List.set_cons_succ]; rfl)) (hJ2 (v430) _ ⟨hHeld, (by (with_reducible repeat (first | apply Kd.R_alloc | apply Kd.R_drewN | apply Kd.R_drew)); exact HO431.out), (by (with_reducible repeat (first | refine blk_drewN ?_ _ | refine blk_drew ?_ | refine blk_alloc ?_ _)); exact BK425.out), (by repeat (first | (with_reducible first | exact HB.out | apply below_alloc | apply pw_below_drewN | apply below_drew1 | refine below_set ?_ GE425.out) | exact HB.out))⟩)
                              · skip
                                refine box_step ?hg (N := 3) ?hd (cs := #[.slice none 0 0, .int .i64 0]) (t := 33) ?hr ?_; (case hd => rfl); (case hg => rfl); (case hr => first | (go_simp; done) | (go_simp; rfl))
                                intro gb437 hg w22 hbox hb
                                have n0_ := Aside0.mk (blk_below (g := gb425) (o := .cells #[.slice A0_0 l0_0.length c0_0, .int .i64 a0_1, .slice A0_2 l0_2.length c0_2, .int .i64 a0_3, .int .i64 a0_4, .int .i64 a0_5] 48 (0, 0)) (by (with_reducible repeat (first | refine blk_drewN ?_ _ | refine blk_drew ?_ | refine blk_alloc ?_ _)); exact BK425.out) hb)
                                have n1_ := Aside0.mk (below_step (by repeat (first | (with_reducible first | exact HB.out | apply below_alloc | apply pw_below_drewN | apply below_drew1 | refine below_set ?_ GE425.out) | exact HB.out)) hb)
                                have n2_ := Aside0.mk (hbox)
                                have n3_ := Aside0.mk ((by rw [hg]; exact (below_size (by repeat (first | (with_reducible first | exact HB.out | apply below_alloc | apply pw_below_drewN | apply below_drew1 | refine below_set ?_ GE425.out) | exact HB.out))) : w.heap.size ≤ gb437))
                                have n4_ := Aside0.mk ((by rw [hg]; exact (below_size (by repeat (first | (with_reducible first | exact HB.out | apply below_alloc | apply pw_below_drewN | apply below_drew1 | refine below_set ?_ GE425.out) | exact HB.out))) : w.heap.size ≤ gb437))
                                have n5_ := Aside0.mk ((by rw [hg]; exact Nat.ne_of_lt (blk_lt (g := gb425) (o := .cells #[.slice A0_0 l0_0.length c0_0, .int .i64 a0_1, .slice A0_2 l0_2.length c0_2, .int .i64 a0_3, .int .i64 a0_4, .int .i64 a0_5] 48 (0, 0)) (by (with_reducible repeat (first | refine blk_drewN ?_ _ | refine blk_drew ?_ | refine blk_alloc ?_ _)); exact BK425.out)) : gb425 ≠ gb437))
                                have n6_ := Aside0.mk ((by rw [hg]; exact Nat.ne_of_gt (blk_lt (g := gb425) (o := .cells #[.slice A0_0 l0_0.length c0_0, .int .i64 a0_1, .slice A0_2 l0_2.length c0_2, .int .i64 a0_3, .int .i64 a0_4, .int .i64 a0_5] 48 (0, 0)) (by (with_reducible repeat (first | refine blk_drewN ?_ _ | refine blk_drew ?_ | refine blk_alloc ?_ _)); exact BK425.out)) : gb437 ≠ gb425))
                                clear BK425
                                clear HB
                                have BK425 := n0_
                                have HB := n1_
                                have BK437 := n2_
                                have GW437 := n3_
                                have GE437 := n4_
                                have NB425_437 := n5_
                                have NB437_425 := n6_
                                clear n0_ n1_ n2_ n3_ n4_ n5_ n6_
                                clear hb hbox hg
                                refine hK.out _ _ ⟨(blk_cell BK425.out 0).trans rfl, (blk_cell BK425.out 1).trans rfl, (blk_cell BK425.out 2).trans rfl, (blk_cell BK425.out 3).trans rfl, (blk_cell BK425.out 4).trans rfl, (blk_cell BK425.out 5).trans rfl⟩ (fun hHeld => ?_)
                                clear hK K
                                refine norm_ (a' := ?_) ?_ ?_
                                rotate_left
                                · show Act.put _ (some 3) _ = _
                                  simp only [Act.put, List.setIfInBounds_toArray, List.set_cons_zero, List.set_cons_succ, i64_w, i32_w]
                                  rfl
                                exact norm_ (by first | (simp only [putAll, Act.put, List.setIfInBounds_toArray, List.set_cons_zero, List.set_cons_succ]; done) | (simp only [putAll, Act.put, List.setIfInBounds_toArray, List.set_cons_zero, List.set_cons_succ]; rfl)) (hJ6 (gb437) _ ⟨hHeld, (by (with_reducible repeat (first | refine blk_drewN ?_ _ | refine blk_drew ?_ | refine blk_alloc ?_ _)); exact BK425.out), (by (with_reducible repeat (first | refine blk_drewN ?_ _ | refine blk_drew ?_ | refine blk_alloc ?_ _)); exact BK437.out), GW437.out, GE437.out, NB425_437.out, NB437_425.out, (by repeat (first | (with_reducible first | exact HB.out | apply below_alloc | apply pw_below_drewN | apply below_drew1 | refine below_set ?_ GE425.out | refine below_set ?_ GE437.out) | exact HB.out))⟩)
                              · skip
                                refine box_step ?hg (N := 4) ?hd (cs := #[.slice none 0 0, .int .i64 0]) (t := 33) ?hr ?_; (case hd => rfl); (case hg => rfl); (case hr => first | (go_simp; done) | (go_simp; rfl))
                                intro gb438 hg w22 hbox hb
                                have n0_ := Aside0.mk (blk_below (g := gb425) (o := .cells #[.slice A0_0 l0_0.length c0_0, .int .i64 a0_1, .slice A0_2 l0_2.length c0_2, .int .i64 a0_3, .int .i64 a0_4, .int .i64 a0_5] 48 (0, 0)) (by (with_reducible repeat (first | refine blk_drewN ?_ _ | refine blk_drew ?_ | refine blk_alloc ?_ _)); exact BK425.out) hb)
                                have n1_ := Aside0.mk (below_step (by repeat (first | (with_reducible first | exact HB.out | apply below_alloc | apply pw_below_drewN | apply below_drew1 | refine below_set ?_ GE425.out) | exact HB.out)) hb)
                                have n2_ := Aside0.mk (hbox)
                                have n3_ := Aside0.mk ((by rw [hg]; exact (below_size (by repeat (first | (with_reducible first | exact HB.out | apply below_alloc | apply pw_below_drewN | apply below_drew1 | refine below_set ?_ GE425.out) | exact HB.out))) : w.heap.size ≤ gb438))
                                have n4_ := Aside0.mk ((by rw [hg]; exact (below_size (by repeat (first | (with_reducible first | exact HB.out | apply below_alloc | apply pw_below_drewN | apply below_drew1 | refine below_set ?_ GE425.out) | exact HB.out))) : w.heap.size ≤ gb438))
                                have n5_ := Aside0.mk ((by rw [hg]; exact Nat.ne_of_lt (blk_lt (g := gb425) (o := .cells #[.slice A0_0 l0_0.length c0_0, .int .i64 a0_1, .slice A0_2 l0_2.length c0_2, .int .i64 a0_3, .int .i64 a0_4, .int .i64 a0_5] 48 (0, 0)) (by (with_reducible repeat (first | refine blk_drewN ?_ _ | refine blk_drew ?_ | refine blk_alloc ?_ _)); exact BK425.out)) : gb425 ≠ gb438))
                                have n6_ := Aside0.mk ((by rw [hg]; exact Nat.ne_of_gt (blk_lt (g := gb425) (o := .cells #[.slice A0_0 l0_0.length c0_0, .int .i64 a0_1, .slice A0_2 l0_2.length c0_2, .int .i64 a0_3, .int .i64 a0_4, .int .i64 a0_5] 48 (0, 0)) (by (with_reducible repeat (first | refine blk_drewN ?_ _ | refine blk_drew ?_ | refine blk_alloc ?_ _)); exact BK425.out)) : gb438 ≠ gb425))
                                clear BK425
                                clear HB
                                have BK425 := n0_
                                have HB := n1_
                                have BK438 := n2_
                                have GW438 := n3_
                                have GE438 := n4_
                                have NB425_438 := n5_
                                have NB438_425 := n6_
                                clear n0_ n1_ n2_ n3_ n4_ n5_ n6_
                                clear hb hbox hg
                                refine hK.out _ _ ⟨(blk_cell BK425.out 0).trans rfl, (blk_cell BK425.out 1).trans rfl, (blk_cell BK425.out 2).trans rfl, (blk_cell BK425.out 3).trans rfl, (blk_cell BK425.out 4).trans rfl, (blk_cell BK425.out 5).trans rfl⟩ (fun hHeld => ?_)
                                clear hK K
                                refine norm_ (a' := ?_) ?_ ?_
                                rotate_left
                                · show Act.put _ (some 4) _ = _
                                  simp only [Act.put, List.setIfInBounds_toArray, List.set_cons_zero, List.set_cons_succ, i64_w, i32_w]
                                  rfl
                                exact norm_ (by first | (simp only [putAll, Act.put, List.setIfInBounds_toArray, List.set_cons_zero, List.set_cons_succ]; done) | (simp only [putAll, Act.put, List.setIfInBounds_toArray, List.set_cons_zero, List.set_cons_succ]; rfl)) (hJ7 (gb438) _ ⟨hHeld, (by (with_reducible repeat (first | refine blk_drewN ?_ _ | refine blk_drew ?_ | refine blk_alloc ?_ _)); exact BK425.out), (by (with_reducible repeat (first | refine blk_drewN ?_ _ | refine blk_drew ?_ | refine blk_alloc ?_ _)); exact BK438.out), GW438.out, GE438.out, NB425_438.out, NB438_425.out, (by repeat (first | (with_reducible first | exact HB.out | apply below_alloc | apply pw_below_drewN | apply below_drew1 | refine below_set ?_ GE425.out | refine below_set ?_ GE438.out) | exact HB.out))⟩)
                            · skip
                              rintro gb438 w23 ⟨hS_, h0_, h1_, h2_, h3_, h4_, h5_, h6_⟩
                              have n0_ : Aside0 (w23.heap[gb425]? = some (.cells #[.slice A0_0 l0_0.length c0_0, .int .i64 a0_1, .slice A0_2 l0_2.length c0_2, .int .i64 a0_3, .int .i64 a0_4, .int .i64 a0_5] 48 (0, 0))) := ⟨h0_⟩
                              have n1_ : Aside0 (w23.heap[gb438]? = some (.cells #[.slice none 0 0, .int .i64 0] 33 (0, 0))) := ⟨h1_⟩
                              have n2_ : Aside0 (w.heap.size ≤ gb438) := ⟨h2_⟩
                              have n3_ : Aside0 (w.heap.size ≤ gb438) := ⟨h3_⟩
                              have n4_ : Aside0 (gb425 ≠ gb438) := ⟨h4_⟩
                              have n5_ : Aside0 (gb438 ≠ gb425) := ⟨h5_⟩
                              have n6_ : Aside0 (Below w.heap.size w w23) := ⟨h6_⟩
                              clear BK425
                              clear HB
                              clear h0_ h1_ h2_ h3_ h4_ h5_ h6_
                              have BK425 := n0_
                              have BK438 := n1_
                              have GW438 := n2_
                              have GE438 := n3_
                              have NB425_438 := n4_
                              have NB438_425 := n5_
                              have HB := n6_
                              clear n0_ n1_ n2_ n3_ n4_ n5_ n6_
                              have hHeld : w23.cell? ⟨gb425, 0, none⟩ = some (.slice A0_0 l0_0.length c0_0) ∧ w23.cell? ⟨gb425, 1, none⟩ = some (.int .i64 a0_1) ∧ w23.cell? ⟨gb425, 2, none⟩ = some (.slice A0_2 l0_2.length c0_2) ∧ w23.cell? ⟨gb425, 3, none⟩ = some (.int .i64 a0_3) ∧ w23.cell? ⟨gb425, 4, none⟩ = some (.int .i64 a0_4) ∧ w23.cell? ⟨gb425, 5, none⟩ = some (.int .i64 a0_5) := hS_
                              refine norm_ (a' := ?_) ?_ ?_
                              rotate_left
                              · simp only [putAll, Act.put, List.setIfInBounds_toArray, List.set_cons_zero, List.set_cons_succ]
                                rfl
                              refine two_ (i := 2) (j := 6) (Ni := some 21) (Nj := some 3) #[true, true, true, true, true, false, false, true, false, false] #[true, true, false, true, true, false, true, true, false, false] rfl rfl rfl rfl (two_of HT_.out (by kernel_rfl)) (by decide) (by decide) (fun K hK => ?_) (fun K hK => ?_)
                              · skip
                                refine goes_ Tryd.func26 (by kernel_rfl) rfl #[.agg #[.slice A0_0 l0_0.length c0_0, .int .i64 a0_1]] (by rfl) rfl rfl (by (try simp only [List.map_toArray, List.map_cons, List.map_nil]); first | done | rfl | (simp only [List.length_drop, List.length_take]; rfl)) ?_
                                with_reducible refine (familycheckref01_CopyRow.calls _ _ l0_0 a0_1 t429 t432 _ ?side1 ?side2 A16.out).mono ?_
                                (case side1 => repeat (first | exact (Kd.C_below HR0_0.out HB.out) | (with_reducible refine Kd.C_alloc ?_ _) | (with_reducible refine Kd.C_drewN ?_ _) | (with_reducible refine Kd.C_drew ?_)))
                                (case side2 => exact HC0_0.out)
                                rintro e w24 ⟨v430, rfl, ho0, hb⟩
                                refine ⟨_, rfl, ?_⟩
                                have n0_ := Aside0.mk (Kd.R_lower ho0 (below_size (by repeat (first | (with_reducible first | exact HB.out | apply below_alloc | apply pw_below_drewN | apply below_drew1 | refine below_set ?_ GE425.out | refine below_set ?_ GE438.out) | exact HB.out))))
                                have n1_ := Aside0.mk (blk_below (g := gb425) (o := .cells #[.slice A0_0 l0_0.length c0_0, .int .i64 a0_1, .slice A0_2 l0_2.length c0_2, .int .i64 a0_3, .int .i64 a0_4, .int .i64 a0_5] 48 (0, 0)) (by (with_reducible repeat (first | refine blk_drewN ?_ _ | refine blk_drew ?_ | refine blk_alloc ?_ _)); exact BK425.out) hb)
                                have n2_ := Aside0.mk (blk_below (g := gb438) (o := .cells #[.slice none 0 0, .int .i64 0] 33 (0, 0)) (by (with_reducible repeat (first | refine blk_drewN ?_ _ | refine blk_drew ?_ | refine blk_alloc ?_ _)); exact BK438.out) hb)
                                have n3_ := Aside0.mk (below_step (by repeat (first | (with_reducible first | exact HB.out | apply below_alloc | apply pw_below_drewN | apply below_drew1 | refine below_set ?_ GE425.out | refine below_set ?_ GE438.out) | exact HB.out)) hb)
                                clear BK425
                                clear BK438
                                clear HB
                                have HO431 := n0_
                                have BK425 := n1_
                                have BK438 := n2_
                                have HB := n3_
                                clear n0_ n1_ n2_ n3_
                                (try clear hb)
                                (try clear hb2)
                                (try clear hk)
                                (try clear hi)
                                (try clear ho0)
                                refine hK.out _ _ ⟨(blk_cell BK425.out 0).trans rfl, (blk_cell BK425.out 1).trans rfl, (blk_cell BK425.out 2).trans rfl, (blk_cell BK425.out 3).trans rfl, (blk_cell BK425.out 4).trans rfl, (blk_cell BK425.out 5).trans rfl⟩ (fun hHeld => ?_)
                                clear hK K
                                refine norm_ (a' := ?_) ?_ ?_
                                rotate_left
                                · show Act.put _ (some 21) _ = _
                                  simp only [Act.put, List.setIfInBounds_toArray, List.set_cons_zero, List.set_cons_succ, i64_w, i32_w]
                                  rfl
                                exact norm_ (by first | (simp only [putAll, Act.put, List.setIfInBounds_toArray, List.set_cons_zero, List.set_cons_succ]; done) | (simp only [putAll, Act.put, List.setIfInBounds_toArray, List.set_cons_zero, List.set_cons_succ]; rfl)) (hJ2_7 (v430, gb438) _ ⟨hHeld, (by (with_reducible repeat (first | apply Kd.R_alloc | apply Kd.R_drewN | apply Kd.R_drew)); exact HO431.out), (by (with_reducible repeat (first | refine blk_drewN ?_ _ | refine blk_drew ?_ | refine blk_alloc ?_ _)); exact BK425.out), (by (with_reducible repeat (first | refine blk_drewN ?_ _ | refine blk_drew ?_ | refine blk_alloc ?_ _)); exact BK438.out), GW438.out, GE438.out, NB425_438.out, NB438_425.out, (by repeat (first | (with_reducible first | exact HB.out | apply below_alloc | apply pw_below_drewN | apply below_drew1 | refine below_set ?_ GE425.out | refine below_set ?_ GE438.out) | exact HB.out))⟩)
                              · skip
                                refine box_step ?hg (N := 3) ?hd (cs := #[.slice none 0 0, .int .i64 0]) (t := 33) ?hr ?_; (case hd => rfl); (case hg => rfl); (case hr => first | (go_simp; done) | (go_simp; rfl))
                                intro gb437 hg w24 hbox hb
                                have n0_ := Aside0.mk (blk_below (g := gb425) (o := .cells #[.slice A0_0 l0_0.length c0_0, .int .i64 a0_1, .slice A0_2 l0_2.length c0_2, .int .i64 a0_3, .int .i64 a0_4, .int .i64 a0_5] 48 (0, 0)) (by (with_reducible repeat (first | refine blk_drewN ?_ _ | refine blk_drew ?_ | refine blk_alloc ?_ _)); exact BK425.out) hb)
                                have n1_ := Aside0.mk (blk_below (g := gb438) (o := .cells #[.slice none 0 0, .int .i64 0] 33 (0, 0)) (by (with_reducible repeat (first | refine blk_drewN ?_ _ | refine blk_drew ?_ | refine blk_alloc ?_ _)); exact BK438.out) hb)
                                have n2_ := Aside0.mk (below_step (by repeat (first | (with_reducible first | exact HB.out | apply below_alloc | apply pw_below_drewN | apply below_drew1 | refine below_set ?_ GE425.out | refine below_set ?_ GE438.out) | exact HB.out)) hb)
                                have n3_ := Aside0.mk (hbox)
                                have n4_ := Aside0.mk ((by rw [hg]; exact (below_size (by repeat (first | (with_reducible first | exact HB.out | apply below_alloc | apply pw_below_drewN | apply below_drew1 | refine below_set ?_ GE425.out | refine below_set ?_ GE438.out) | exact HB.out))) : w.heap.size ≤ gb437))
                                have n5_ := Aside0.mk ((by rw [hg]; exact (below_size (by repeat (first | (with_reducible first | exact HB.out | apply below_alloc | apply pw_below_drewN | apply below_drew1 | refine below_set ?_ GE425.out | refine below_set ?_ GE438.out) | exact HB.out))) : w.heap.size ≤ gb437))
                                have n6_ := Aside0.mk ((by rw [hg]; exact Nat.ne_of_lt (blk_lt (g := gb425) (o := .cells #[.slice A0_0 l0_0.length c0_0, .int .i64 a0_1, .slice A0_2 l0_2.length c0_2, .int .i64 a0_3, .int .i64 a0_4, .int .i64 a0_5] 48 (0, 0)) (by (with_reducible repeat (first | refine blk_drewN ?_ _ | refine blk_drew ?_ | refine blk_alloc ?_ _)); exact BK425.out)) : gb425 ≠ gb437))
                                have n7_ := Aside0.mk ((by rw [hg]; exact Nat.ne_of_gt (blk_lt (g := gb425) (o := .cells #[.slice A0_0 l0_0.length c0_0, .int .i64 a0_1, .slice A0_2 l0_2.length c0_2, .int .i64 a0_3, .int .i64 a0_4, .int .i64 a0_5] 48 (0, 0)) (by (with_reducible repeat (first | refine blk_drewN ?_ _ | refine blk_drew ?_ | refine blk_alloc ?_ _)); exact BK425.out)) : gb437 ≠ gb425))
                                have n8_ := Aside0.mk ((by rw [hg]; exact Nat.ne_of_lt (blk_lt (g := gb438) (o := .cells #[.slice none 0 0, .int .i64 0] 33 (0, 0)) (by (with_reducible repeat (first | refine blk_drewN ?_ _ | refine blk_drew ?_ | refine blk_alloc ?_ _)); exact BK438.out)) : gb438 ≠ gb437))
                                have n9_ := Aside0.mk ((by rw [hg]; exact Nat.ne_of_gt (blk_lt (g := gb438) (o := .cells #[.slice none 0 0, .int .i64 0] 33 (0, 0)) (by (with_reducible repeat (first | refine blk_drewN ?_ _ | refine blk_drew ?_ | refine blk_alloc ?_ _)); exact BK438.out)) : gb437 ≠ gb438))
                                clear BK425
                                clear BK438
                                clear HB
                                have BK425 := n0_
                                have BK438 := n1_
                                have HB := n2_
                                have BK437 := n3_
                                have GW437 := n4_
                                have GE437 := n5_
                                have NB425_437 := n6_
                                have NB437_425 := n7_
                                have NB438_437 := n8_
                                have NB437_438 := n9_
                                clear n0_ n1_ n2_ n3_ n4_ n5_ n6_ n7_ n8_ n9_
                                clear hb hbox hg
                                refine hK.out _ _ ⟨(blk_cell BK425.out 0).trans rfl, (blk_cell BK425.out 1).trans rfl, (blk_cell BK425.out 2).trans rfl, (blk_cell BK425.out 3).trans rfl, (blk_cell BK425.out 4).trans rfl, (blk_cell BK425.out 5).trans rfl⟩ (fun hHeld => ?_)
                                clear hK K
                                refine norm_ (a' := ?_) ?_ ?_
                                rotate_left
                                · show Act.put _ (some 3) _ = _
                                  simp only [Act.put, List.setIfInBounds_toArray, List.set_cons_zero, List.set_cons_succ, i64_w, i32_w]
                                  rfl
                                exact norm_ (by first | (simp only [putAll, Act.put, List.setIfInBounds_toArray, List.set_cons_zero, List.set_cons_succ]; done) | (simp only [putAll, Act.put, List.setIfInBounds_toArray, List.set_cons_zero, List.set_cons_succ]; rfl)) (hJ6_7 (gb437, gb438) _ ⟨hHeld, (by (with_reducible repeat (first | refine blk_drewN ?_ _ | refine blk_drew ?_ | refine blk_alloc ?_ _)); exact BK425.out), (by (with_reducible repeat (first | refine blk_drewN ?_ _ | refine blk_drew ?_ | refine blk_alloc ?_ _)); exact BK437.out), (by (with_reducible repeat (first | refine blk_drewN ?_ _ | refine blk_drew ?_ | refine blk_alloc ?_ _)); exact BK438.out), GW437.out, GE437.out, NB425_437.out, NB437_425.out, NB438_437.out, NB437_438.out, GW438.out, GE438.out, NB425_438.out, NB438_425.out, (by repeat (first | (with_reducible first | exact HB.out | apply below_alloc | apply pw_below_drewN | apply below_drew1 | refine below_set ?_ GE425.out | refine below_set ?_ GE438.out | refine below_set ?_ GE437.out) | exact HB.out))⟩)
                          · skip
                            rintro gb437 w23 ⟨hS_, h0_, h1_, h2_, h3_, h4_, h5_, h6_⟩
                            have n0_ : Aside0 (w23.heap[gb425]? = some (.cells #[.slice A0_0 l0_0.length c0_0, .int .i64 a0_1, .slice A0_2 l0_2.length c0_2, .int .i64 a0_3, .int .i64 a0_4, .int .i64 a0_5] 48 (0, 0))) := ⟨h0_⟩
                            have n1_ : Aside0 (w23.heap[gb437]? = some (.cells #[.slice none 0 0, .int .i64 0] 33 (0, 0))) := ⟨h1_⟩
                            have n2_ : Aside0 (w.heap.size ≤ gb437) := ⟨h2_⟩
                            have n3_ : Aside0 (w.heap.size ≤ gb437) := ⟨h3_⟩
                            have n4_ : Aside0 (gb425 ≠ gb437) := ⟨h4_⟩
                            have n5_ : Aside0 (gb437 ≠ gb425) := ⟨h5_⟩
                            have n6_ : Aside0 (Below w.heap.size w w23) := ⟨h6_⟩
                            clear BK425
                            clear HB
                            clear h0_ h1_ h2_ h3_ h4_ h5_ h6_
                            have BK425 := n0_
                            have BK437 := n1_
                            have GW437 := n2_
                            have GE437 := n3_
                            have NB425_437 := n4_
                            have NB437_425 := n5_
                            have HB := n6_
                            clear n0_ n1_ n2_ n3_ n4_ n5_ n6_
                            have hHeld : w23.cell? ⟨gb425, 0, none⟩ = some (.slice A0_0 l0_0.length c0_0) ∧ w23.cell? ⟨gb425, 1, none⟩ = some (.int .i64 a0_1) ∧ w23.cell? ⟨gb425, 2, none⟩ = some (.slice A0_2 l0_2.length c0_2) ∧ w23.cell? ⟨gb425, 3, none⟩ = some (.int .i64 a0_3) ∧ w23.cell? ⟨gb425, 4, none⟩ = some (.int .i64 a0_4) ∧ w23.cell? ⟨gb425, 5, none⟩ = some (.int .i64 a0_5) := hS_
                            refine norm_ (a' := ?_) ?_ ?_
                            rotate_left
                            · simp only [putAll, Act.put, List.setIfInBounds_toArray, List.set_cons_zero, List.set_cons_succ]
                              rfl
                            refine two_ (i := 2) (j := 7) (Ni := some 21) (Nj := some 4) #[true, true, true, true, true, false, true, false, false, false] #[true, true, false, true, true, false, true, true, false, false] rfl rfl rfl rfl (two_of HT_.out (by kernel_rfl)) (by decide) (by decide) (fun K hK => ?_) (fun K hK => ?_)
                            · skip
                              refine goes_ Tryd.func26 (by kernel_rfl) rfl #[.agg #[.slice A0_0 l0_0.length c0_0, .int .i64 a0_1]] (by rfl) rfl rfl (by (try simp only [List.map_toArray, List.map_cons, List.map_nil]); first | done | rfl | (simp only [List.length_drop, List.length_take]; rfl)) ?_
                              with_reducible refine (familycheckref01_CopyRow.calls _ _ l0_0 a0_1 t429 t432 _ ?side1 ?side2 A16.out).mono ?_
                              (case side1 => repeat (first | exact (Kd.C_below HR0_0.out HB.out) | (with_reducible refine Kd.C_alloc ?_ _) | (with_reducible refine Kd.C_drewN ?_ _) | (with_reducible refine Kd.C_drew ?_)))
                              (case side2 => exact HC0_0.out)
                              rintro e w24 ⟨v430, rfl, ho0, hb⟩
                              refine ⟨_, rfl, ?_⟩
                              have n0_ := Aside0.mk (Kd.R_lower ho0 (below_size (by repeat (first | (with_reducible first | exact HB.out | apply below_alloc | apply pw_below_drewN | apply below_drew1 | refine below_set ?_ GE425.out | refine below_set ?_ GE437.out) | exact HB.out))))
                              have n1_ := Aside0.mk (blk_below (g := gb425) (o := .cells #[.slice A0_0 l0_0.length c0_0, .int .i64 a0_1, .slice A0_2 l0_2.length c0_2, .int .i64 a0_3, .int .i64 a0_4, .int .i64 a0_5] 48 (0, 0)) (by (with_reducible repeat (first | refine blk_drewN ?_ _ | refine blk_drew ?_ | refine blk_alloc ?_ _)); exact BK425.out) hb)
                              have n2_ := Aside0.mk (blk_below (g := gb437) (o := .cells #[.slice none 0 0, .int .i64 0] 33 (0, 0)) (by (with_reducible repeat (first | refine blk_drewN ?_ _ | refine blk_drew ?_ | refine blk_alloc ?_ _)); exact BK437.out) hb)
                              have n3_ := Aside0.mk (below_step (by repeat (first | (with_reducible first | exact HB.out | apply below_alloc | apply pw_below_drewN | apply below_drew1 | refine below_set ?_ GE425.out | refine below_set ?_ GE437.out) | exact HB.out)) hb)
                              clear BK425
                              clear BK437
                              clear HB
                              have HO431 := n0_
                              have BK425 := n1_
                              have BK437 := n2_
                              have HB := n3_
                              clear n0_ n1_ n2_ n3_
                              (try clear hb)
                              (try clear hb2)
                              (try clear hk)
                              (try clear hi)
                              (try clear ho0)
                              refine hK.out _ _ ⟨(blk_cell BK425.out 0).trans rfl, (blk_cell BK425.out 1).trans rfl, (blk_cell BK425.out 2).trans rfl, (blk_cell BK425.out 3).trans rfl, (blk_cell BK425.out 4).trans rfl, (blk_cell BK425.out 5).trans rfl⟩ (fun hHeld => ?_)
                              clear hK K
                              refine norm_ (a' := ?_) ?_ ?_
                              rotate_left
                              · show Act.put _ (some 21) _ = _
                                simp only [Act.put, List.setIfInBounds_toArray, List.set_cons_zero, List.set_cons_succ, i64_w, i32_w]
                                rfl
                              exact norm_ (by first | (simp only [putAll, Act.put, List.setIfInBounds_toArray, List.set_cons_zero, List.set_cons_succ]; done) | (simp only [putAll, Act.put, List.setIfInBounds_toArray, List.set_cons_zero, List.set_cons_succ]; rfl)) (hJ2_6 (v430, gb437) _ ⟨hHeld, (by (with_reducible repeat (first | apply Kd.R_alloc | apply Kd.R_drewN | apply Kd.R_drew)); exact HO431.out), (by (with_reducible repeat (first | refine blk_drewN ?_ _ | refine blk_drew ?_ | refine blk_alloc ?_ _)); exact BK425.out), (by (with_reducible repeat (first | refine blk_drewN ?_ _ | refine blk_drew ?_ | refine blk_alloc ?_ _)); exact BK437.out), GW437.out, GE437.out, NB425_437.out, NB437_425.out, (by repeat (first | (with_reducible first | exact HB.out | apply below_alloc | apply pw_below_drewN | apply below_drew1 | refine below_set ?_ GE425.out | refine below_set ?_ GE437.out) | exact HB.out))⟩)
                            · skip
                              refine box_step ?hg (N := 4) ?hd (cs := #[.slice none 0 0, .int .i64 0]) (t := 33) ?hr ?_; (case hd => rfl); (case hg => rfl); (case hr => first | (go_simp; done) | (go_simp; rfl))
                              intro gb438 hg w24 hbox hb
                              have n0_ := Aside0.mk (blk_below (g := gb425) (o := .cells #[.slice A0_0 l0_0.length c0_0, .int .i64 a0_1, .slice A0_2 l0_2.length c0_2, .int .i64 a0_3, .int .i64 a0_4, .int .i64 a0_5] 48 (0, 0)) (by (with_reducible repeat (first | refine blk_drewN ?_ _ | refine blk_drew ?_ | refine blk_alloc ?_ _)); exact BK425.out) hb)
                              have n1_ := Aside0.mk (blk_below (g := gb437) (o := .cells #[.slice none 0 0, .int .i64 0] 33 (0, 0)) (by (with_reducible repeat (first | refine blk_drewN ?_ _ | refine blk_drew ?_ | refine blk_alloc ?_ _)); exact BK437.out) hb)
                              have n2_ := Aside0.mk (below_step (by repeat (first | (with_reducible first | exact HB.out | apply below_alloc | apply pw_below_drewN | apply below_drew1 | refine below_set ?_ GE425.out | refine below_set ?_ GE437.out) | exact HB.out)) hb)
                              have n3_ := Aside0.mk (hbox)
                              have n4_ := Aside0.mk ((by rw [hg]; exact (below_size (by repeat (first | (with_reducible first | exact HB.out | apply below_alloc | apply pw_below_drewN | apply below_drew1 | refine below_set ?_ GE425.out | refine below_set ?_ GE437.out) | exact HB.out))) : w.heap.size ≤ gb438))
                              have n5_ := Aside0.mk ((by rw [hg]; exact (below_size (by repeat (first | (with_reducible first | exact HB.out | apply below_alloc | apply pw_below_drewN | apply below_drew1 | refine below_set ?_ GE425.out | refine below_set ?_ GE437.out) | exact HB.out))) : w.heap.size ≤ gb438))
                              have n6_ := Aside0.mk ((by rw [hg]; exact Nat.ne_of_lt (blk_lt (g := gb425) (o := .cells #[.slice A0_0 l0_0.length c0_0, .int .i64 a0_1, .slice A0_2 l0_2.length c0_2, .int .i64 a0_3, .int .i64 a0_4, .int .i64 a0_5] 48 (0, 0)) (by (with_reducible repeat (first | refine blk_drewN ?_ _ | refine blk_drew ?_ | refine blk_alloc ?_ _)); exact BK425.out)) : gb425 ≠ gb438))
                              have n7_ := Aside0.mk ((by rw [hg]; exact Nat.ne_of_gt (blk_lt (g := gb425) (o := .cells #[.slice A0_0 l0_0.length c0_0, .int .i64 a0_1, .slice A0_2 l0_2.length c0_2, .int .i64 a0_3, .int .i64 a0_4, .int .i64 a0_5] 48 (0, 0)) (by (with_reducible repeat (first | refine blk_drewN ?_ _ | refine blk_drew ?_ | refine blk_alloc ?_ _)); exact BK425.out)) : gb438 ≠ gb425))
                              have n8_ := Aside0.mk ((by rw [hg]; exact Nat.ne_of_lt (blk_lt (g := gb437) (o := .cells #[.slice none 0 0, .int .i64 0] 33 (0, 0)) (by (with_reducible repeat (first | refine blk_drewN ?_ _ | refine blk_drew ?_ | refine blk_alloc ?_ _)); exact BK437.out)) : gb437 ≠ gb438))
                              have n9_ := Aside0.mk ((by rw [hg]; exact Nat.ne_of_gt (blk_lt (g := gb437) (o := .cells #[.slice none 0 0, .int .i64 0] 33 (0, 0)) (by (with_reducible repeat (first | refine blk_drewN ?_ _ | refine blk_drew ?_ | refine blk_alloc ?_ _)); exact BK437.out)) : gb438 ≠ gb437))
                              clear BK425
                              clear BK437
                              clear HB
                              have BK425 := n0_
                              have BK437 := n1_
                              have HB := n2_
                              have BK438 := n3_
                              have GW438 := n4_
                              have GE438 := n5_
                              have NB425_438 := n6_
                              have NB438_425 := n7_
                              have NB437_438 := n8_
                              have NB438_437 := n9_
                              clear n0_ n1_ n2_ n3_ n4_ n5_ n6_ n7_ n8_ n9_
                              clear hb hbox hg
                              refine hK.out _ _ ⟨(blk_cell BK425.out 0).trans rfl, (blk_cell BK425.out 1).trans rfl, (blk_cell BK425.out 2).trans rfl, (blk_cell BK425.out 3).trans rfl, (blk_cell BK425.out 4).trans rfl, (blk_cell BK425.out 5).trans rfl⟩ (fun hHeld => ?_)
                              clear hK K
                              refine norm_ (a' := ?_) ?_ ?_
                              rotate_left
                              · show Act.put _ (some 4) _ = _
                                simp only [Act.put, List.setIfInBounds_toArray, List.set_cons_zero, List.set_cons_succ, i64_w, i32_w]
                                rfl
                              exact norm_ (by first | (simp only [putAll, Act.put, List.setIfInBounds_toArray, List.set_cons_zero, List.set_cons_succ]; done) | (simp only [putAll, Act.put, List.setIfInBounds_toArray, List.set_cons_zero, List.set_cons_succ]; rfl)) (hJ6_7 (gb437, gb438) _ ⟨hHeld, (by (with_reducible repeat (first | refine blk_drewN ?_ _ | refine blk_drew ?_ | refine blk_alloc ?_ _)); exact BK425.out), (by (with_reducible repeat (first | refine blk_drewN ?_ _ | refine blk_drew ?_ | refine blk_alloc ?_ _)); exact BK437.out), (by (with_reducible repeat (first | refine blk_drewN ?_ _ | refine blk_drew ?_ | refine blk_alloc ?_ _)); exact BK438.out), GW437.out, GE437.out, NB425_437.out, NB437_425.out, NB438_437.out, NB437_438.out, GW438.out, GE438.out, NB425_438.out, NB438_425.out, (by repeat (first | (with_reducible first | exact HB.out | apply below_alloc | apply pw_below_drewN | apply below_drew1 | refine below_set ?_ GE425.out | refine below_set ?_ GE437.out | refine below_set ?_ GE438.out) | exact HB.out))⟩)
                        · skip
                          rintro v430 w23 ⟨hS_, h0_, h1_, h2_⟩
                          have n0_ : Aside0 (Kd.R (Kd.int .i64) 3 w23 w.heap.size (fun _ => True) v430 t429) := ⟨h0_⟩
                          have n1_ : Aside0 (w23.heap[gb425]? = some (.cells #[.slice A0_0 l0_0.length c0_0, .int .i64 a0_1, .slice A0_2 l0_2.length c0_2, .int .i64 a0_3, .int .i64 a0_4, .int .i64 a0_5] 48 (0, 0))) := ⟨h1_⟩
                          have n2_ : Aside0 (Below w.heap.size w w23) := ⟨h2_⟩
                          clear BK425
                          clear HB
                          clear h0_ h1_ h2_
                          have HO431 := n0_
                          have BK425 := n1_
                          have HB := n2_
                          clear n0_ n1_ n2_
                          have hHeld : w23.cell? ⟨gb425, 0, none⟩ = some (.slice A0_0 l0_0.length c0_0) ∧ w23.cell? ⟨gb425, 1, none⟩ = some (.int .i64 a0_1) ∧ w23.cell? ⟨gb425, 2, none⟩ = some (.slice A0_2 l0_2.length c0_2) ∧ w23.cell? ⟨gb425, 3, none⟩ = some (.int .i64 a0_3) ∧ w23.cell? ⟨gb425, 4, none⟩ = some (.int .i64 a0_4) ∧ w23.cell? ⟨gb425, 5, none⟩ = some (.int .i64 a0_5) := hS_
                          refine norm_ (a' := ?_) ?_ ?_
                          rotate_left
                          · simp only [putAll, Act.put, List.setIfInBounds_toArray, List.set_cons_zero, List.set_cons_succ]
                            rfl
                          refine three_ (i := 5) (j := 6) (k := 7) (Ni := some 24) (Nj := some 3) (Nk := some 4) #[true, true, true, true, true, true, false, false, false, false] #[true, true, true, true, true, false, true, false, false, false] #[true, true, true, true, true, false, false, true, false, false] rfl rfl rfl rfl rfl rfl (three_of HT_.out (by kernel_rfl)) (by decide) (by decide) (by decide) (fun K hK => ?_) (fun K hK => ?_) (fun K hK => ?_)
                          · skip
                            refine goes_ Tryd.func26 (by kernel_rfl) rfl #[.agg #[.slice A0_2 l0_2.length c0_2, .int .i64 a0_3]] (by rfl) rfl rfl (by (try simp only [List.map_toArray, List.map_cons, List.map_nil]); first | done | rfl | (simp only [List.length_drop, List.length_take]; rfl)) ?_
                            with_reducible refine (familycheckref01_CopyRow.calls _ _ l0_2 a0_3 t433 t436 _ ?side1 ?side2 A17.out).mono ?_
                            (case side1 => repeat (first | exact (Kd.C_below HR0_2.out HB.out) | (with_reducible refine Kd.C_alloc ?_ _) | (with_reducible refine Kd.C_drewN ?_ _) | (with_reducible refine Kd.C_drew ?_)))
                            (case side2 => exact HC0_2.out)
                            rintro e w24 ⟨v434, rfl, ho0, hb⟩
                            refine ⟨_, rfl, ?_⟩
                            have n0_ := Aside0.mk (Kd.R_elder' (by (with_reducible repeat (first | apply Kd.R_alloc | apply Kd.R_drewN | apply Kd.R_drew)); exact HO431.out) (Kd.R_base ho0) hb)
                            have n1_ := Aside0.mk (Kd.R_lower (Kd.R_new' ho0 (Kd.R_lt (by (with_reducible repeat (first | apply Kd.R_alloc | apply Kd.R_drewN | apply Kd.R_drew)); exact HO431.out))) (below_size (by repeat (first | (with_reducible first | exact HB.out | apply below_alloc | apply pw_below_drewN | apply below_drew1 | refine below_set ?_ GE425.out) | exact HB.out))))
                            have n2_ := Aside0.mk (blk_below (g := gb425) (o := .cells #[.slice A0_0 l0_0.length c0_0, .int .i64 a0_1, .slice A0_2 l0_2.length c0_2, .int .i64 a0_3, .int .i64 a0_4, .int .i64 a0_5] 48 (0, 0)) (by (with_reducible repeat (first | refine blk_drewN ?_ _ | refine blk_drew ?_ | refine blk_alloc ?_ _)); exact BK425.out) hb)
                            have n3_ := Aside0.mk (below_step (by repeat (first | (with_reducible first | exact HB.out | apply below_alloc | apply pw_below_drewN | apply below_drew1 | refine below_set ?_ GE425.out) | exact HB.out)) hb)
                            clear HO431
                            clear BK425
                            clear HB
                            have HO431 := n0_
                            have HO435 := n1_
                            have BK425 := n2_
                            have HB := n3_
                            clear n0_ n1_ n2_ n3_
                            (try clear hb)
                            (try clear hb2)
                            (try clear hk)
                            (try clear hi)
                            (try clear ho0)
                            refine hK.out _ _ ⟨(blk_cell BK425.out 0).trans rfl, (blk_cell BK425.out 1).trans rfl, (blk_cell BK425.out 2).trans rfl, (blk_cell BK425.out 3).trans rfl, (blk_cell BK425.out 4).trans rfl, (blk_cell BK425.out 5).trans rfl⟩ (fun hHeld => ?_)
                            clear hK K
                            refine norm_ (a' := ?_) ?_ ?_
                            rotate_left
                            · show Act.put _ (some 24) _ = _
                              simp only [Act.put, List.setIfInBounds_toArray, List.set_cons_zero, List.set_cons_succ, i64_w, i32_w]
                              rfl
                            exact norm_ (by first | (simp only [putAll, Act.put, List.setIfInBounds_toArray, List.set_cons_zero, List.set_cons_succ]; done) | (simp only [putAll, Act.put, List.setIfInBounds_toArray, List.set_cons_zero, List.set_cons_succ]; rfl)) (hJ2_5 (v430, v434) _ ⟨hHeld, (by (with_reducible repeat (first | apply Kd.R_alloc | apply Kd.R_drewN | apply Kd.R_drew)); exact Kd.R_mono HO431.out (fun _ hk => hk.2)), (by (with_reducible repeat (first | apply Kd.R_alloc | apply Kd.R_drewN | apply Kd.R_drew)); exact Kd.R_mono HO435.out (fun _ hk => hk.2)), (by (with_reducible repeat (first | refine blk_drewN ?_ _ | refine blk_drew ?_ | refine blk_alloc ?_ _)); exact BK425.out), (by repeat (first | (with_reducible first | exact HB.out | apply below_alloc | apply pw_below_drewN | apply below_drew1 | refine below_set ?_ GE425.out) | exact HB.out))⟩)
                          · skip
                            refine box_step ?hg (N := 3) ?hd (cs := #[.slice none 0 0, .int .i64 0]) (t := 33) ?hr ?_; (case hd => rfl); (case hg => rfl); (case hr => first | (go_simp; done) | (go_simp; rfl))
                            intro gb437 hg w24 hbox hb
                            have n0_ := Aside0.mk (Kd.R_below (by (with_reducible repeat (first | apply Kd.R_alloc | apply Kd.R_drewN | apply Kd.R_drew)); exact HO431.out) hb)
                            have n1_ := Aside0.mk (blk_below (g := gb425) (o := .cells #[.slice A0_0 l0_0.length c0_0, .int .i64 a0_1, .slice A0_2 l0_2.length c0_2, .int .i64 a0_3, .int .i64 a0_4, .int .i64 a0_5] 48 (0, 0)) (by (with_reducible repeat (first | refine blk_drewN ?_ _ | refine blk_drew ?_ | refine blk_alloc ?_ _)); exact BK425.out) hb)
                            have n2_ := Aside0.mk (below_step (by repeat (first | (with_reducible first | exact HB.out | apply below_alloc | apply pw_below_drewN | apply below_drew1 | refine below_set ?_ GE425.out) | exact HB.out)) hb)
                            have n3_ := Aside0.mk (hbox)
                            have n4_ := Aside0.mk ((by rw [hg]; exact (below_size (by repeat (first | (with_reducible first | exact HB.out | apply below_alloc | apply pw_below_drewN | apply below_drew1 | refine below_set ?_ GE425.out) | exact HB.out))) : w.heap.size ≤ gb437))
                            have n5_ := Aside0.mk ((by rw [hg]; exact (below_size (by repeat (first | (with_reducible first | exact HB.out | apply below_alloc | apply pw_below_drewN | apply below_drew1 | refine below_set ?_ GE425.out) | exact HB.out))) : w.heap.size ≤ gb437))
                            have n6_ := Aside0.mk ((by rw [hg]; exact Nat.ne_of_lt (blk_lt (g := gb425) (o := .cells #[.slice A0_0 l0_0.length c0_0, .int .i64 a0_1, .slice A0_2 l0_2.length c0_2, .int .i64 a0_3, .int .i64 a0_4, .int .i64 a0_5] 48 (0, 0)) (by (with_reducible repeat (first | refine blk_drewN ?_ _ | refine blk_drew ?_ | refine blk_alloc ?_ _)); exact BK425.out)) : gb425 ≠ gb437))
                            have n7_ := Aside0.mk ((by rw [hg]; exact Nat.ne_of_gt (blk_lt (g := gb425) (o := .cells #[.slice A0_0 l0_0.length c0_0, .int .i64 a0_1, .slice A0_2 l0_2.length c0_2, .int .i64 a0_3, .int .i64 a0_4, .int .i64 a0_5] 48 (0, 0)) (by (with_reducible repeat (first | refine blk_drewN ?_ _ | refine blk_drew ?_ | refine blk_alloc ?_ _)); exact BK425.out)) : gb437 ≠ gb425))
                            clear HO431
                            clear BK425
                            clear HB
                            have HO431 := n0_
                            have BK425 := n1_
                            have HB := n2_
                            have BK437 := n3_
                            have GW437 := n4_
                            have GE437 := n5_
                            have NB425_437 := n6_
                            have NB437_425 := n7_
                            clear n0_ n1_ n2_ n3_ n4_ n5_ n6_ n7_
                            clear hb hbox hg
                            refine hK.out _ _ ⟨(blk_cell BK425.out 0).trans rfl, (blk_cell BK425.out 1).trans rfl, (blk_cell BK425.out 2).trans rfl, (blk_cell BK425.out 3).trans rfl, (blk_cell BK425.out 4).trans rfl, (blk_cell BK425.out 5).trans rfl⟩ (fun hHeld => ?_)
                            clear hK K
                            refine norm_ (a' := ?_) ?_ ?_
                            rotate_left
                            · show Act.put _ (some 3) _ = _
                              simp only [Act.put, List.setIfInBounds_toArray, List.set_cons_zero, List.set_cons_succ, i64_w, i32_w]
                              rfl
                            exact norm_ (by first | (simp only [putAll, Act.put, List.setIfInBounds_toArray, List.set_cons_zero, List.set_cons_succ]; done) | (simp only [putAll, Act.put, List.setIfInBounds_toArray, List.set_cons_zero, List.set_cons_succ]; rfl)) (hJ2_6 (v430, gb437) _ ⟨hHeld, (by (with_reducible repeat (first | apply Kd.R_alloc | apply Kd.R_drewN | apply Kd.R_drew)); exact HO431.out), (by (with_reducible repeat (first | refine blk_drewN ?_ _ | refine blk_drew ?_ | refine blk_alloc ?_ _)); exact BK425.out), (by (with_reducible repeat (first | refine blk_drewN ?_ _ | refine blk_drew ?_ | refine blk_alloc ?_ _)); exact BK437.out), GW437.out, GE437.out, NB425_437.out, NB437_425.out, (by repeat (first | (with_reducible first | exact HB.out | apply below_alloc | apply pw_below_drewN | apply below_drew1 | refine below_set ?_ GE425.out | refine below_set ?_ GE437.out) | exact HB.out))⟩)
                          · skip
                            refine box_step ?hg (N := 4) ?hd (cs := #[.slice none 0 0, .int .i64 0]) (t := 33) ?hr ?_; (case hd => rfl); (case hg => rfl); (case hr => first | (go_simp; done) | (go_simp; rfl))
                            intro gb438 hg w24 hbox hb
                            have n0_ := Aside0.mk (Kd.R_below (by (with_reducible repeat (first | apply Kd.R_alloc | apply Kd.R_drewN | apply Kd.R_drew)); exact HO431.out) hb)
                            have n1_ := Aside0.mk (blk_below (g := gb425) (o := .cells #[.slice A0_0 l0_0.length c0_0, .int .i64 a0_1, .slice A0_2 l0_2.length c0_2, .int .i64 a0_3, .int .i64 a0_4, .int .i64 a0_5] 48 (0, 0)) (by (with_reducible repeat (first | refine blk_drewN ?_ _ | refine blk_drew ?_ | refine blk_alloc ?_ _)); exact BK425.out) hb)
                            have n2_ := Aside0.mk (below_step (by repeat (first | (with_reducible first | exact HB.out | apply below_alloc | apply pw_below_drewN | apply below_drew1 | refine below_set ?_ GE425.out) | exact HB.out)) hb)
                            have n3_ := Aside0.mk (hbox)
                            have n4_ := Aside0.mk ((by rw [hg]; exact (below_size (by repeat (first | (with_reducible first | exact HB.out | apply below_alloc | apply pw_below_drewN | apply below_drew1 | refine below_set ?_ GE425.out) | exact HB.out))) : w.heap.size ≤ gb438))
                            have n5_ := Aside0.mk ((by rw [hg]; exact (below_size (by repeat (first | (with_reducible first | exact HB.out | apply below_alloc | apply pw_below_drewN | apply below_drew1 | refine below_set ?_ GE425.out) | exact HB.out))) : w.heap.size ≤ gb438))
                            have n6_ := Aside0.mk ((by rw [hg]; exact Nat.ne_of_lt (blk_lt (g := gb425) (o := .cells #[.slice A0_0 l0_0.length c0_0, .int .i64 a0_1, .slice A0_2 l0_2.length c0_2, .int .i64 a0_3, .int .i64 a0_4, .int .i64 a0_5] 48 (0, 0)) (by (with_reducible repeat (first | refine blk_drewN ?_ _ | refine blk_drew ?_ | refine blk_alloc ?_ _)); exact BK425.out)) : gb425 ≠ gb438))
                            have n7_ := Aside0.mk ((by rw [hg]; exact Nat.ne_of_gt (blk_lt (g := gb425) (o := .cells #[.slice A0_0 l0_0.length c0_0, .int .i64 a0_1, .slice A0_2 l0_2.length c0_2, .int .i64 a0_3, .int .i64 a0_4, .int .i64 a0_5] 48 (0, 0)) (by (with_reducible repeat (first | refine blk_drewN ?_ _ | refine blk_drew ?_ | refine blk_alloc ?_ _)); exact BK425.out)) : gb438 ≠ gb425))
                            clear HO431
                            clear BK425
                            clear HB
                            have HO431 := n0_
                            have BK425 := n1_
                            have HB := n2_
                            have BK438 := n3_
                            have GW438 := n4_
                            have GE438 := n5_
                            have NB425_438 := n6_
                            have NB438_425 := n7_
                            clear n0_ n1_ n2_ n3_ n4_ n5_ n6_ n7_
                            clear hb hbox hg
                            refine hK.out _ _ ⟨(blk_cell BK425.out 0).trans rfl, (blk_cell BK425.out 1).trans rfl, (blk_cell BK425.out 2).trans rfl, (blk_cell BK425.out 3).trans rfl, (blk_cell BK425.out 4).trans rfl, (blk_cell BK425.out 5).trans rfl⟩ (fun hHeld => ?_)
                            clear hK K
                            refine norm_ (a' := ?_) ?_ ?_
                            rotate_left
                            · show Act.put _ (some 4) _ = _
                              simp only [Act.put, List.setIfInBounds_toArray, List.set_cons_zero, List.set_cons_succ, i64_w, i32_w]
                              rfl
                            exact norm_ (by first | (simp only [putAll, Act.put, List.setIfInBounds_toArray, List.set_cons_zero, List.set_cons_succ]; done) | (simp only [putAll, Act.put, List.setIfInBounds_toArray, List.set_cons_zero, List.set_cons_succ]; rfl)) (hJ2_7 (v430, gb438) _ ⟨hHeld, (by (with_reducible repeat (first | apply Kd.R_alloc | apply Kd.R_drewN | apply Kd.R_drew)); exact HO431.out), (by (with_reducible repeat (first | refine blk_drewN ?_ _ | refine blk_drew ?_ | refine blk_alloc ?_ _)); exact BK425.out), (by (with_reducible repeat (first | refine blk_drewN ?_ _ | refine blk_drew ?_ | refine blk_alloc ?_ _)); exact BK438.out), GW438.out, GE438.out, NB425_438.out, NB438_425.out, (by repeat (first | (with_reducible first | exact HB.out | apply below_alloc | apply pw_below_drewN | apply below_drew1 | refine below_set ?_ GE425.out | refine below_set ?_ GE438.out) | exact HB.out))⟩)
                      · skip
                        rintro ⟨gb437, gb438⟩ w24 ⟨hS_, h0_, h1_, h2_, h3_, h4_, h5_, h6_, h7_, h8_, h9_, h10_, h11_, h12_, h13_⟩
                        have n0_ : Aside0 (w24.heap[gb425]? = some (.cells #[.slice A0_0 l0_0.length c0_0, .int .i64 a0_1, .slice A0_2 l0_2.length c0_2, .int .i64 a0_3, .int .i64 a0_4, .int .i64 a0_5] 48 (0, 0))) := ⟨h0_⟩
                        have n1_ : Aside0 (w24.heap[gb437]? = some (.cells #[.slice none 0 0, .int .i64 0] 33 (0, 0))) := ⟨h1_⟩
                        have n2_ : Aside0 (w24.heap[gb438]? = some (.cells #[.slice none 0 0, .int .i64 0] 33 (0, 0))) := ⟨h2_⟩
                        have n3_ : Aside0 (w.heap.size ≤ gb437) := ⟨h3_⟩
                        have n4_ : Aside0 (w.heap.size ≤ gb437) := ⟨h4_⟩
                        have n5_ : Aside0 (gb425 ≠ gb437) := ⟨h5_⟩
                        have n6_ : Aside0 (gb437 ≠ gb425) := ⟨h6_⟩
                        have n7_ : Aside0 (gb438 ≠ gb437) := ⟨h7_⟩
                        have n8_ : Aside0 (gb437 ≠ gb438) := ⟨h8_⟩
                        have n9_ : Aside0 (w.heap.size ≤ gb438) := ⟨h9_⟩
                        have n10_ : Aside0 (w.heap.size ≤ gb438) := ⟨h10_⟩
                        have n11_ : Aside0 (gb425 ≠ gb438) := ⟨h11_⟩
                        have n12_ : Aside0 (gb438 ≠ gb425) := ⟨h12_⟩
                        have n13_ : Aside0 (Below w.heap.size w w24) := ⟨h13_⟩
                        clear BK425
                        clear HB
                        clear h0_ h1_ h2_ h3_ h4_ h5_ h6_ h7_ h8_ h9_ h10_ h11_ h12_ h13_
                        have BK425 := n0_
                        have BK437 := n1_
                        have BK438 := n2_
                        have GW437 := n3_
                        have GE437 := n4_
                        have NB425_437 := n5_
                        have NB437_425 := n6_
                        have NB438_437 := n7_
                        have NB437_438 := n8_
                        have GW438 := n9_
                        have GE438 := n10_
                        have NB425_438 := n11_
                        have NB438_425 := n12_
                        have HB := n13_
                        clear n0_ n1_ n2_ n3_ n4_ n5_ n6_ n7_ n8_ n9_ n10_ n11_ n12_ n13_
                        have hHeld : w24.cell? ⟨gb425, 0, none⟩ = some (.slice A0_0 l0_0.length c0_0) ∧ w24.cell? ⟨gb425, 1, none⟩ = some (.int .i64 a0_1) ∧ w24.cell? ⟨gb425, 2, none⟩ = some (.slice A0_2 l0_2.length c0_2) ∧ w24.cell? ⟨gb425, 3, none⟩ = some (.int .i64 a0_3) ∧ w24.cell? ⟨gb425, 4, none⟩ = some (.int .i64 a0_4) ∧ w24.cell? ⟨gb425, 5, none⟩ = some (.int .i64 a0_5) := hS_
                        refine norm_ (a' := ?_) ?_ ?_
                        rotate_left
                        · simp only [putAll, Act.put, List.setIfInBounds_toArray, List.set_cons_zero, List.set_cons_succ]
                          rfl
                        refine one_ (i := 2) (N := some 21) #[true, true, true, true, true, false, true, true, false, false] rfl rfl (one_of HT_.out (by kernel_rfl)) (by decide) (fun K hK => ?_)
                        refine goes_ Tryd.func26 (by kernel_rfl) rfl #[.agg #[.slice A0_0 l0_0.length c0_0, .int .i64 a0_1]] (by rfl) rfl rfl (by (try simp only [List.map_toArray, List.map_cons, List.map_nil]); first | done | rfl | (simp only [List.length_drop, List.length_take]; rfl)) ?_
                        with_reducible refine (familycheckref01_CopyRow.calls _ _ l0_0 a0_1 t429 t432 _ ?side1 ?side2 A16.out).mono ?_
                        (case side1 => repeat (first | exact (Kd.C_below HR0_0.out HB.out) | (with_reducible refine Kd.C_alloc ?_ _) | (with_reducible refine Kd.C_drewN ?_ _) | (with_reducible refine Kd.C_drew ?_)))
                        (case side2 => exact HC0_0.out)
                        rintro e w25 ⟨v430, rfl, ho0, hb⟩
                        refine ⟨_, rfl, ?_⟩
                        have n0_ := Aside0.mk (Kd.R_lower ho0 (below_size (by repeat (first | (with_reducible first | exact HB.out | apply below_alloc | apply pw_below_drewN | apply below_drew1 | refine below_set ?_ GE425.out | refine below_set ?_ GE437.out | refine below_set ?_ GE438.out) | exact HB.out))))
                        have n1_ := Aside0.mk (blk_below (g := gb425) (o := .cells #[.slice A0_0 l0_0.length c0_0, .int .i64 a0_1, .slice A0_2 l0_2.length c0_2, .int .i64 a0_3, .int .i64 a0_4, .int .i64 a0_5] 48 (0, 0)) (by (with_reducible repeat (first | refine blk_drewN ?_ _ | refine blk_drew ?_ | refine blk_alloc ?_ _)); exact BK425.out) hb)
                        have n2_ := Aside0.mk (blk_below (g := gb437) (o := .cells #[.slice none 0 0, .int .i64 0] 33 (0, 0)) (by (with_reducible repeat (first | refine blk_drewN ?_ _ | refine blk_drew ?_ | refine blk_alloc ?_ _)); exact BK437.out) hb)
                        have n3_ := Aside0.mk (blk_below (g := gb438) (o := .cells #[.slice none 0 0, .int .i64 0] 33 (0, 0)) (by (with_reducible repeat (first | refine blk_drewN ?_ _ | refine blk_drew ?_ | refine blk_alloc ?_ _)); exact BK438.out) hb)
                        have n4_ := Aside0.mk (below_step (by repeat (first | (with_reducible first | exact HB.out | apply below_alloc | apply pw_below_drewN | apply below_drew1 | refine below_set ?_ GE425.out | refine below_set ?_ GE437.out | refine below_set ?_ GE438.out) | exact HB.out)) hb)
                        clear BK425
                        clear BK437
                        clear BK438
                        clear HB
                        have HO431 := n0_
                        have BK425 := n1_
                        have BK437 := n2_
                        have BK438 := n3_
                        have HB := n4_
                        clear n0_ n1_ n2_ n3_ n4_
                        (try clear hb)
                        (try clear hb2)
                        (try clear hk)
                        (try clear hi)
                        (try clear ho0)
                        refine hK.out _ _ ⟨(blk_cell BK425.out 0).trans rfl, (blk_cell BK425.out 1).trans rfl, (blk_cell BK425.out 2).trans rfl, (blk_cell BK425.out 3).trans rfl, (blk_cell BK425.out 4).trans rfl, (blk_cell BK425.out 5).trans rfl⟩ (fun hHeld => ?_)
                        clear hK K
                        refine norm_ (a' := ?_) ?_ ?_
                        rotate_left
                        · show Act.put _ (some 21) _ = _
                          simp only [Act.put, List.setIfInBounds_toArray, List.set_cons_zero, List.set_cons_succ, i64_w, i32_w]
                          rfl
                        exact norm_ (by first | (simp only [putAll, Act.put, List.setIfInBounds_toArray, List.set_cons_zero, List.set_cons_succ]; done) | (simp only [putAll, Act.put, List.setIfInBounds_toArray, List.set_cons_zero, List.set_cons_succ]; rfl)) (hJ2_6_7 (v430, gb437, gb438) _ ⟨hHeld, (by (with_reducible repeat (first | apply Kd.R_alloc | apply Kd.R_drewN | apply Kd.R_drew)); exact HO431.out), (by (with_reducible repeat (first | refine blk_drewN ?_ _ | refine blk_drew ?_ | refine blk_alloc ?_ _)); exact BK425.out), (by (with_reducible repeat (first | refine blk_drewN ?_ _ | refine blk_drew ?_ | refine blk_alloc ?_ _)); exact BK437.out), (by (with_reducible repeat (first | refine blk_drewN ?_ _ | refine blk_drew ?_ | refine blk_alloc ?_ _)); exact BK438.out), GW437.out, GE437.out, NB425_437.out, NB437_425.out, NB438_437.out, NB437_438.out, GW438.out, GE438.out, NB425_438.out, NB438_425.out, (by repeat (first | (with_reducible first | exact HB.out | apply below_alloc | apply pw_below_drewN | apply below_drew1 | refine below_set ?_ GE425.out | refine below_set ?_ GE437.out | refine below_set ?_ GE438.out) | exact HB.out))⟩)
                    · skip
                      rintro ⟨v430, gb438⟩ w24 ⟨hS_, h0_, h1_, h2_, h3_, h4_, h5_, h6_, h7_⟩
                      have n0_ : Aside0 (Kd.R (Kd.int .i64) 3 w24 w.heap.size (fun _ => True) v430 t429) := ⟨h0_⟩
                      have n1_ : Aside0 (w24.heap[gb425]? = some (.cells #[.slice A0_0 l0_0.length c0_0, .int .i64 a0_1, .slice A0_2 l0_2.length c0_2, .int .i64 a0_3, .int .i64 a0_4, .int .i64 a0_5] 48 (0, 0))) := ⟨h1_⟩
                      have n2_ : Aside0 (w24.heap[gb438]? = some (.cells #[.slice none 0 0, .int .i64 0] 33 (0, 0))) := ⟨h2_⟩
                      have n3_ : Aside0 (w.heap.size ≤ gb438) := ⟨h3_⟩
                      have n4_ : Aside0 (w.heap.size ≤ gb438) := ⟨h4_⟩
                      have n5_ : Aside0 (gb425 ≠ gb438) := ⟨h5_⟩
                      have n6_ : Aside0 (gb438 ≠ gb425) := ⟨h6_⟩
                      have n7_ : Aside0 (Below w.heap.size w w24) := ⟨h7_⟩
                      clear BK425
                      clear HB
                      clear h0_ h1_ h2_ h3_ h4_ h5_ h6_ h7_
                      have HO431 := n0_
                      have BK425 := n1_
                      have BK438 := n2_
                      have GW438 := n3_
                      have GE438 := n4_
                      have NB425_438 := n5_
                      have NB438_425 := n6_
                      have HB := n7_
                      clear n0_ n1_ n2_ n3_ n4_ n5_ n6_ n7_
                      have hHeld : w24.cell? ⟨gb425, 0, none⟩ = some (.slice A0_0 l0_0.length c0_0) ∧ w24.cell? ⟨gb425, 1, none⟩ = some (.int .i64 a0_1) ∧ w24.cell? ⟨gb425, 2, none⟩ = some (.slice A0_2 l0_2.length c0_2) ∧ w24.cell? ⟨gb425, 3, none⟩ = some (.int .i64 a0_3) ∧ w24.cell? ⟨gb425, 4, none⟩ = some (.int .i64 a0_4) ∧ w24.cell? ⟨gb425, 5, none⟩ = some (.int .i64 a0_5) := hS_
                      refine norm_ (a' := ?_) ?_ ?_
                      rotate_left
                      · simp only [putAll, Act.put, List.setIfInBounds_toArray, List.set_cons_zero, List.set_cons_succ]
                        rfl
                      refine two_ (i := 5) (j := 6) (Ni := some 24) (Nj := some 3) #[true, true, true, true, true, true, false, true, false, false] #[true, true, true, true, true, false, true, true, false, false] rfl rfl rfl rfl (two_of HT_.out (by kernel_rfl)) (by decide) (by decide) (fun K hK => ?_) (fun K hK => ?_)
                      · skip
                        refine goes_ Tryd.func26 (by kernel_rfl) rfl #[.agg #[.slice A0_2 l0_2.length c0_2, .int .i64 a0_3]] (by rfl) rfl rfl (by (try simp only [List.map_toArray, List.map_cons, List.map_nil]); first | done | rfl | (simp only [List.length_drop, List.length_take]; rfl)) ?_
                        with_reducible refine (familycheckref01_CopyRow.calls _ _ l0_2 a0_3 t433 t436 _ ?side1 ?side2 A17.out).mono ?_
                        (case side1 => repeat (first | exact (Kd.C_below HR0_2.out HB.out) | (with_reducible refine Kd.C_alloc ?_ _) | (with_reducible refine Kd.C_drewN ?_ _) | (with_reducible refine Kd.C_drew ?_)))
                        (case side2 => exact HC0_2.out)
                        rintro e w25 ⟨v434, rfl, ho0, hb⟩
                        refine ⟨_, rfl, ?_⟩
                        have n0_ := Aside0.mk (Kd.R_elder' (by (with_reducible repeat (first | apply Kd.R_alloc | apply Kd.R_drewN | apply Kd.R_drew)); exact HO431.out) (Kd.R_base ho0) hb)
                        have n1_ := Aside0.mk (Kd.R_lower (Kd.R_new' ho0 (Kd.R_lt (by (with_reducible repeat (first | apply Kd.R_alloc | apply Kd.R_drewN | apply Kd.R_drew)); exact HO431.out))) (below_size (by repeat (first | (with_reducible first | exact HB.out | apply below_alloc | apply pw_below_drewN | apply below_drew1 | refine below_set ?_ GE425.out | refine below_set ?_ GE438.out) | exact HB.out))))
                        have n2_ := Aside0.mk (blk_below (g := gb425) (o := .cells #[.slice A0_0 l0_0.length c0_0, .int .i64 a0_1, .slice A0_2 l0_2.length c0_2, .int .i64 a0_3, .int .i64 a0_4, .int .i64 a0_5] 48 (0, 0)) (by (with_reducible repeat (first | refine blk_drewN ?_ _ | refine blk_drew ?_ | refine blk_alloc ?_ _)); exact BK425.out) hb)
                        have n3_ := Aside0.mk (blk_below (g := gb438) (o := .cells #[.slice none 0 0, .int .i64 0] 33 (0, 0)) (by (with_reducible repeat (first | refine blk_drewN ?_ _ | refine blk_drew ?_ | refine blk_alloc ?_ _)); exact BK438.out) hb)
                        have n4_ := Aside0.mk (below_step (by repeat (first | (with_reducible first | exact HB.out | apply below_alloc | apply pw_below_drewN | apply below_drew1 | refine below_set ?_ GE425.out | refine below_set ?_ GE438.out) | exact HB.out)) hb)
                        clear HO431
                        clear BK425
                        clear BK438
                        clear HB
                        have HO431 := n0_
                        have HO435 := n1_
                        have BK425 := n2_
                        have BK438 := n3_
                        have HB := n4_
                        clear n0_ n1_ n2_ n3_ n4_
                        (try clear hb)
                        (try clear hb2)
                        (try clear hk)
                        (try clear hi)
                        (try clear ho0)
                        refine hK.out _ _ ⟨(blk_cell BK425.out 0).trans rfl, (blk_cell BK425.out 1).trans rfl, (blk_cell BK425.out 2).trans rfl, (blk_cell BK425.out 3).trans rfl, (blk_cell BK425.out 4).trans rfl, (blk_cell BK425.out 5).trans rfl⟩ (fun hHeld => ?_)
                        clear hK K
                        refine norm_ (a' := ?_) ?_ ?_
                        rotate_left
                        · show Act.put _ (some 24) _ = _
                          simp only [Act.put, List.setIfInBounds_toArray, List.set_cons_zero, List.set_cons_succ, i64_w, i32_w]
                          rfl
                        exact norm_ (by first | (simp only [putAll, Act.put, List.setIfInBounds_toArray, List.set_cons_zero, List.set_cons_succ]; done) | (simp only [putAll, Act.put, List.setIfInBounds_toArray, List.set_cons_zero, List.set_cons_succ]; rfl)) (hJ2_5_7 (v430, v434, gb438) _ ⟨hHeld, (by (with_reducible repeat (first | apply Kd.R_alloc | apply Kd.R_drewN | apply Kd.R_drew)); exact Kd.R_mono HO431.out (fun _ hk => hk.2)), (by (with_reducible repeat (first | apply Kd.R_alloc | apply Kd.R_drewN | apply Kd.R_drew)); exact Kd.R_mono HO435.out (fun _ hk => hk.2)), (by (with_reducible repeat (first | refine blk_drewN ?_ _ | refine blk_drew ?_ | refine blk_alloc ?_ _)); exact BK425.out), (by (with_reducible repeat (first | refine blk_drewN ?_ _ | refine blk_drew ?_ | refine blk_alloc ?_ _)); exact BK438.out), GW438.out, GE438.out, NB425_438.out, NB438_425.out, (by repeat (first | (with_reducible first | exact HB.out | apply below_alloc | apply pw_below_drewN | apply below_drew1 | refine below_set ?_ GE425.out | refine below_set ?_ GE438.out) | exact HB.out))⟩)
                      · skip
                        refine box_step ?hg (N := 3) ?hd (cs := #[.slice none 0 0, .int .i64 0]) (t := 33) ?hr ?_; (case hd => rfl); (case hg => rfl); (case hr => first | (go_simp; done) | (go_simp; rfl))
                        intro gb437 hg w25 hbox hb
                        have n0_ := Aside0.mk (Kd.R_below (by (with_reducible repeat (first | apply Kd.R_alloc | apply Kd.R_drewN | apply Kd.R_drew)); exact HO431.out) hb)
                        have n1_ := Aside0.mk (blk_below (g := gb425) (o := .cells #[.slice A0_0 l0_0.length c0_0, .int .i64 a0_1, .slice A0_2 l0_2.length c0_2, .int .i64 a0_3, .int .i64 a0_4, .int .i64 a0_5] 48 (0, 0)) (by (with_reducible repeat (first | refine blk_drewN ?_ _ | refine blk_drew ?_ | refine blk_alloc ?_ _)); exact BK425.out) hb)
                        have n2_ := Aside0.mk (blk_below (g := gb438) (o := .cells #[.slice none 0 0, .int .i64 0] 33 (0, 0)) (by (with_reducible repeat (first | refine blk_drewN ?_ _ | refine blk_drew ?_ | refine blk_alloc ?_ _)); exact BK438.out) hb)
                        have n3_ := Aside0.mk (below_step (by repeat (first | (with_reducible first | exact HB.out | apply below_alloc | apply pw_below_drewN | apply below_drew1 | refine below_set ?_ GE425.out | refine below_set ?_ GE438.out) | exact HB.out)) hb)
                        have n4_ := Aside0.mk (hbox)
                        have n5_ := Aside0.mk ((by rw [hg]; exact (below_size (by repeat (first | (with_reducible first | exact HB.out | apply below_alloc | apply pw_below_drewN | apply below_drew1 | refine below_set ?_ GE425.out | refine below_set ?_ GE438.out) | exact HB.out))) : w.heap.size ≤ gb437))
                        have n6_ := Aside0.mk ((by rw [hg]; exact (below_size (by repeat (first | (with_reducible first | exact HB.out | apply below_alloc | apply pw_below_drewN | apply below_drew1 | refine below_set ?_ GE425.out | refine below_set ?_ GE438.out) | exact HB.out))) : w.heap.size ≤ gb437))
                        have n7_ := Aside0.mk ((by rw [hg]; exact Nat.ne_of_lt (blk_lt (g := gb425) (o := .cells #[.slice A0_0 l0_0.length c0_0, .int .i64 a0_1, .slice A0_2 l0_2.length c0_2, .int .i64 a0_3, .int .i64 a0_4, .int .i64 a0_5] 48 (0, 0)) (by (with_reducible repeat (first | refine blk_drewN ?_ _ | refine blk_drew ?_ | refine blk_alloc ?_ _)); exact BK425.out)) : gb425 ≠ gb437))
                        have n8_ := Aside0.mk ((by rw [hg]; exact Nat.ne_of_gt (blk_lt (g := gb425) (o := .cells #[.slice A0_0 l0_0.length c0_0, .int .i64 a0_1, .slice A0_2 l0_2.length c0_2, .int .i64 a0_3, .int .i64 a0_4, .int .i64 a0_5] 48 (0, 0)) (by (with_reducible repeat (first | refine blk_drewN ?_ _ | refine blk_drew ?_ | refine blk_alloc ?_ _)); exact BK425.out)) : gb437 ≠ gb425))
                        have n9_ := Aside0.mk ((by rw [hg]; exact Nat.ne_of_lt (blk_lt (g := gb438) (o := .cells #[.slice none 0 0, .int .i64 0] 33 (0, 0)) (by (with_reducible repeat (first | refine blk_drewN ?_ _ | refine blk_drew ?_ | refine blk_alloc ?_ _)); exact BK438.out)) : gb438 ≠ gb437))
                        have n10_ := Aside0.mk ((by rw [hg]; exact Nat.ne_of_gt (blk_lt (g := gb438) (o := .cells #[.slice none 0 0, .int .i64 0] 33 (0, 0)) (by (with_reducible repeat (first | refine blk_drewN ?_ _ | refine blk_drew ?_ | refine blk_alloc ?_ _)); exact BK438.out)) : gb437 ≠ gb438))
                        clear HO431
                        clear BK425
                        clear BK438
                        clear HB
                        have HO431 := n0_
                        have BK425 := n1_
                        have BK438 := n2_
                        have HB := n3_
                        have BK437 := n4_
                        have GW437 := n5_
                        have GE437 := n6_
                        have NB425_437 := n7_
                        have NB437_425 := n8_
                        have NB438_437 := n9_
                        have NB437_438 := n10_
                        clear n0_ n1_ n2_ n3_ n4_ n5_ n6_ n7_ n8_ n9_ n10_
                        clear hb hbox hg
                        refine hK.out _ _ ⟨(blk_cell BK425.out 0).trans rfl, (blk_cell BK425.out 1).trans rfl, (blk_cell BK425.out 2).trans rfl, (blk_cell BK425.out 3).trans rfl, (blk_cell BK425.out 4).trans rfl, (blk_cell BK425.out 5).trans rfl⟩ (fun hHeld => ?_)
                        clear hK K
                        refine norm_ (a' := ?_) ?_ ?_
                        rotate_left
                        · show Act.put _ (some 3) _ = _
                          simp only [Act.put, List.setIfInBounds_toArray, List.set_cons_zero, List.set_cons_succ, i64_w, i32_w]
                          rfl
                        exact norm_ (by first | (simp only [putAll, Act.put, List.setIfInBounds_toArray, List.set_cons_zero, List.set_cons_succ]; done) | (simp only [putAll, Act.put, List.setIfInBounds_toArray, List.set_cons_zero, List.set_cons_succ]; rfl)) (hJ2_6_7 (v430, gb437, gb438) _ ⟨hHeld, (by (with_reducible repeat (first | apply Kd.R_alloc | apply Kd.R_drewN | apply Kd.R_drew)); exact HO431.out), (by (with_reducible repeat (first | refine blk_drewN ?_ _ | refine blk_drew ?_ | refine blk_alloc ?_ _)); exact BK425.out), (by (with_reducible repeat (first | refine blk_drewN ?_ _ | refine blk_drew ?_ | refine blk_alloc ?_ _)); exact BK437.out), (by (with_reducible repeat (first | refine blk_drewN ?_ _ | refine blk_drew ?_ | refine blk_alloc ?_ _)); exact BK438.out), GW437.out, GE437.out, NB425_437.out, NB437_425.out, NB438_437.out, NB437_438.out, GW438.out, GE438.out, NB425_438.out, NB438_425.out, (by repeat (first | (with_reducible first | exact HB.out | apply below_alloc | apply pw_below_drewN | apply below_drew1 | refine below_set ?_ GE425.out | refine below_set ?_ GE438.out | refine below_set ?_ GE437.out) | exact HB.out))⟩)
                  · skip
                    rintro ⟨v430, gb437⟩ w24 ⟨hS_, h0_, h1_, h2_, h3_, h4_, h5_, h6_, h7_⟩
                    have n0_ : Aside0 (Kd.R (Kd.int .i64) 3 w24 w.heap.size (fun _ => True) v430 t429) := ⟨h0_⟩
                    have n1_ : Aside0 (w24.heap[gb425]? = some (.cells #[.slice A0_0 l0_0.length c0_0, .int .i64 a0_1, .slice A0_2 l0_2.length c0_2, .int .i64 a0_3, .int .i64 a0_4, .int .i64 a0_5] 48 (0, 0))) := ⟨h1_⟩
                    have n2_ : Aside0 (w24.heap[gb437]? = some (.cells #[.slice none 0 0, .int .i64 0] 33 (0, 0))) := ⟨h2_⟩
                    have n3_ : Aside0 (w.heap.size ≤ gb437) := ⟨h3_⟩
                    have n4_ : Aside0 (w.heap.size ≤ gb437) := ⟨h4_⟩
                    have n5_ : Aside0 (gb425 ≠ gb437) := ⟨h5_⟩
                    have n6_ : Aside0 (gb437 ≠ gb425) := ⟨h6_⟩
                    have n7_ : Aside0 (Below w.heap.size w w24) := ⟨h7_⟩
                    clear BK425
                    clear HB
                    clear h0_ h1_ h2_ h3_ h4_ h5_ h6_ h7_
                    have HO431 := n0_
                    have BK425 := n1_
                    have BK437 := n2_
                    have GW437 := n3_
                    have GE437 := n4_
                    have NB425_437 := n5_
                    have NB437_425 := n6_
                    have HB := n7_
                    clear n0_ n1_ n2_ n3_ n4_ n5_ n6_ n7_
                    have hHeld : w24.cell? ⟨gb425, 0, none⟩ = some (.slice A0_0 l0_0.length c0_0) ∧ w24.cell? ⟨gb425, 1, none⟩ = some (.int .i64 a0_1) ∧ w24.cell? ⟨gb425, 2, none⟩ = some (.slice A0_2 l0_2.length c0_2) ∧ w24.cell? ⟨gb425, 3, none⟩ = some (.int .i64 a0_3) ∧ w24.cell? ⟨gb425, 4, none⟩ = some (.int .i64 a0_4) ∧ w24.cell? ⟨gb425, 5, none⟩ = some (.int .i64 a0_5) := hS_
                    refine norm_ (a' := ?_) ?_ ?_
                    rotate_left
                    · simp only [putAll, Act.put, List.setIfInBounds_toArray, List.set_cons_zero, List.set_cons_succ]
                      rfl
                    refine two_ (i := 5) (j := 7) (Ni := some 24) (Nj := some 4) #[true, true, true, true, true, true, true, false, false, false] #[true, true, true, true, true, false, true, true, false, false] rfl rfl rfl rfl (two_of HT_.out (by kernel_rfl)) (by decide) (by decide) (fun K hK => ?_) (fun K hK => ?_)
                    · skip
                      refine goes_ Tryd.func26 (by kernel_rfl) rfl #[.agg #[.slice A0_2 l0_2.length c0_2, .int .i64 a0_3]] (by rfl) rfl rfl (by (try simp only [List.map_toArray, List.map_cons, List.map_nil]); first | done | rfl | (simp only [List.length_drop, List.length_take]; rfl)) ?_
                      with_reducible refine (familycheckref01_CopyRow.calls _ _ l0_2 a0_3 t433 t436 _ ?side1 ?side2 A17.out).mono ?_
                      (case side1 => repeat (first | exact (Kd.C_below HR0_2.out HB.out) | (with_reducible refine Kd.C_alloc ?_ _) | (with_reducible refine Kd.C_drewN ?_ _) | (with_reducible refine Kd.C_drew ?_)))
                      (case side2 => exact HC0_2.out)
                      rintro e w25 ⟨v434, rfl, ho0, hb⟩
                      refine ⟨_, rfl, ?_⟩
                      have n0_ := Aside0.mk (Kd.R_elder' (by (with_reducible repeat (first | apply Kd.R_alloc | apply Kd.R_drewN | apply Kd.R_drew)); exact HO431.out) (Kd.R_base ho0) hb)
                      have n1_ := Aside0.mk (Kd.R_lower (Kd.R_new' ho0 (Kd.R_lt (by (with_reducible repeat (first | apply Kd.R_alloc | apply Kd.R_drewN | apply Kd.R_drew)); exact HO431.out))) (below_size (by repeat (first | (with_reducible first | exact HB.out | apply below_alloc | apply pw_below_drewN | apply below_drew1 | refine below_set ?_ GE425.out | refine below_set ?_ GE437.out) | exact HB.out))))
                      have n2_ := Aside0.mk (blk_below (g := gb425) (o := .cells #[.slice A0_0 l0_0.length c0_0, .int .i64 a0_1, .slice A0_2 l0_2.length c0_2, .int .i64 a0_3, .int .i64 a0_4, .int .i64 a0_5] 48 (0, 0)) (by (with_reducible repeat (first | refine blk_drewN ?_ _ | refine blk_drew ?_ | refine blk_alloc ?_ _)); exact BK425.out) hb)
                      have n3_ := Aside0.mk (blk_below (g := gb437) (o := .cells #[.slice none 0 0, .int .i64 0] 33 (0, 0)) (by (with_reducible repeat (first | refine blk_drewN ?_ _ | refine blk_drew ?_ | refine blk_alloc ?_ _)); exact BK437.out) hb)
                      have n4_ := Aside0.mk (below_step (by repeat (first | (with_reducible first | exact HB.out | apply below_alloc | apply pw_below_drewN | apply below_drew1 | refine below_set ?_ GE425.out | refine below_set ?_ GE437.out) | exact HB.out)) hb)
                      clear HO431
                      clear BK425
                      clear BK437
                      clear HB
                      have HO431 := n0_
                      have HO435 := n1_
                      have BK425 := n2_
                      have BK437 := n3_
                      have HB := n4_
                      clear n0_ n1_ n2_ n3_ n4_
                      (try clear hb)
                      (try clear hb2)
                      (try clear hk)
                      (try clear hi)
                      (try clear ho0)
                      refine hK.out _ _ ⟨(blk_cell BK425.out 0).trans rfl, (blk_cell BK425.out 1).trans rfl, (blk_cell BK425.out 2).trans rfl, (blk_cell BK425.out 3).trans rfl, (blk_cell BK425.out 4).trans rfl, (blk_cell BK425.out 5).trans rfl⟩ (fun hHeld => ?_)
                      clear hK K
                      refine norm_ (a' := ?_) ?_ ?_
                      rotate_left
                      · show Act.put _ (some 24) _ = _
                        simp only [Act.put, List.setIfInBounds_toArray, List.set_cons_zero, List.set_cons_succ, i64_w, i32_w]
                        rfl
                      exact norm_ (by first | (simp only [putAll, Act.put, List.setIfInBounds_toArray, List.set_cons_zero, List.set_cons_succ]; done) | (simp only [putAll, Act.put, List.setIfInBounds_toArray, List.set_cons_zero, List.set_cons_succ]; rfl)) (hJ2_5_6 (v430, v434, gb437) _ ⟨hHeld, (by (with_reducible repeat (first | apply Kd.R_alloc | apply Kd.R_drewN | apply Kd.R_drew)); exact Kd.R_mono HO431.out (fun _ hk => hk.2)), (by (with_reducible repeat (first | apply Kd.R_alloc | apply Kd.R_drewN | apply Kd.R_drew)); exact Kd.R_mono HO435.out (fun _ hk => hk.2)), (by (with_reducible repeat (first | refine blk_drewN ?_ _ | refine blk_drew ?_ | refine blk_alloc ?_ _)); exact BK425.out), (by (with_reducible repeat (first | refine blk_drewN ?_ _ | refine blk_drew ?_ | refine blk_alloc ?_ _)); exact BK437.out), GW437.out, GE437.out, NB425_437.out, NB437_425.out, (by repeat (first | (with_reducible first | exact HB.out | apply below_alloc | apply pw_below_drewN | apply below_drew1 | refine below_set ?_ GE425.out | refine below_set ?_ GE437.out) | exact HB.out))⟩)
                    · skip
                      refine box_step ?hg (N := 4) ?hd (cs := #[.slice none 0 0, .int .i64 0]) (t := 33) ?hr ?_; (case hd => rfl); (case hg => rfl); (case hr => first | (go_simp; done) | (go_simp; rfl))
                      intro gb438 hg w25 hbox hb
                      have n0_ := Aside0.mk (Kd.R_below (by (with_reducible repeat (first | apply Kd.R_alloc | apply Kd.R_drewN | apply Kd.R_drew)); exact HO431.out) hb)
                      have n1_ := Aside0.mk (blk_below (g := gb425) (o := .cells #[.slice A0_0 l0_0.length c0_0, .int .i64 a0_1, .slice A0_2 l0_2.length c0_2, .int .i64 a0_3, .int .i64 a0_4, .int .i64 a0_5] 48 (0, 0)) (by (with_reducible repeat (first | refine blk_drewN ?_ _ | refine blk_drew ?_ | refine blk_alloc ?_ _)); exact BK425.out) hb)
                      have n2_ := Aside0.mk (blk_below (g := gb437) (o := .cells #[.slice none 0 0, .int .i64 0] 33 (0, 0)) (by (with_reducible repeat (first | refine blk_drewN ?_ _ | refine blk_drew ?_ | refine blk_alloc ?_ _)); exact BK437.out) hb)
                      have n3_ := Aside0.mk (below_step (by repeat (first | (with_reducible first | exact HB.out | apply below_alloc | apply pw_below_drewN | apply below_drew1 | refine below_set ?_ GE425.out | refine below_set ?_ GE437.out) | exact HB.out)) hb)
                      have n4_ := Aside0.mk (hbox)
                      have n5_ := Aside0.mk ((by rw [hg]; exact (below_size (by repeat (first | (with_reducible first | exact HB.out | apply below_alloc | apply pw_below_drewN | apply below_drew1 | refine below_set ?_ GE425.out | refine below_set ?_ GE437.out) | exact HB.out))) : w.heap.size ≤ gb438))
                      have n6_ := Aside0.mk ((by rw [hg]; exact (below_size (by repeat (first | (with_reducible first | exact HB.out | apply below_alloc | apply pw_below_drewN | apply below_drew1 | refine below_set ?_ GE425.out | refine below_set ?_ GE437.out) | exact HB.out))) : w.heap.size ≤ gb438))
                      have n7_ := Aside0.mk ((by rw [hg]; exact Nat.ne_of_lt (blk_lt (g := gb425) (o := .cells #[.slice A0_0 l0_0.length c0_0, .int .i64 a0_1, .slice A0_2 l0_2.length c0_2, .int .i64 a0_3, .int .i64 a0_4, .int .i64 a0_5] 48 (0, 0)) (by (with_reducible repeat (first | refine blk_drewN ?_ _ | refine blk_drew ?_ | refine blk_alloc ?_ _)); exact BK425.out)) : gb425 ≠ gb438))
                      have n8_ := Aside0.mk ((by rw [hg]; exact Nat.ne_of_gt (blk_lt (g := gb425) (o := .cells #[.slice A0_0 l0_0.length c0_0, .int .i64 a0_1, .slice A0_2 l0_2.length c0_2, .int .i64 a0_3, .int .i64 a0_4, .int .i64 a0_5] 48 (0, 0)) (by (with_reducible repeat (first | refine blk_drewN ?_ _ | refine blk_drew ?_ | refine blk_alloc ?_ _)); exact BK425.out)) : gb438 ≠ gb425))
                      have n9_ := Aside0.mk ((by rw [hg]; exact Nat.ne_of_lt (blk_lt (g := gb437) (o := .cells #[.slice none 0 0, .int .i64 0] 33 (0, 0)) (by (with_reducible repeat (first | refine blk_drewN ?_ _ | refine blk_drew ?_ | refine blk_alloc ?_ _)); exact BK437.out)) : gb437 ≠ gb438))
                      have n10_ := Aside0.mk ((by rw [hg]; exact Nat.ne_of_gt (blk_lt (g := gb437) (o := .cells #[.slice none 0 0, .int .i64 0] 33 (0, 0)) (by (with_reducible repeat (first | refine blk_drewN ?_ _ | refine blk_drew ?_ | refine blk_alloc ?_ _)); exact BK437.out)) : gb438 ≠ gb437))
                      clear HO431
                      clear BK425
                      clear BK437
                      clear HB
                      have HO431 := n0_
                      have BK425 := n1_
                      have BK437 := n2_
                      have HB := n3_
                      have BK438 := n4_
                      have GW438 := n5_
                      have GE438 := n6_
                      have NB425_438 := n7_
                      have NB438_425 := n8_
                      have NB437_438 := n9_
                      have NB438_437 := n10_
                      clear n0_ n1_ n2_ n3_ n4_ n5_ n6_ n7_ n8_ n9_ n10_
                      clear hb hbox hg
                      refine hK.out _ _ ⟨(blk_cell BK425.out 0).trans rfl, (blk_cell BK425.out 1).trans rfl, (blk_cell BK425.out 2).trans rfl, (blk_cell BK425.out 3).trans rfl, (blk_cell BK425.out 4).trans rfl, (blk_cell BK425.out 5).trans rfl⟩ (fun hHeld => ?_)
                      clear hK K
                      refine norm_ (a' := ?_) ?_ ?_
                      rotate_left
                      · show Act.put _ (some 4) _ = _
                        simp only [Act.put, List.setIfInBounds_toArray, List.set_cons_zero, List.set_cons_succ, i64_w, i32_w]
                        rfl
                      exact norm_ (by first | (simp only [putAll, Act.put, List.setIfInBounds_toArray, List.set_cons_zero, List.set_cons_succ]; done) | (simp only [putAll, Act.put, List.setIfInBounds_toArray, List.set_cons_zero, List.set_cons_succ]; rfl)) (hJ2_6_7 (v430, gb437, gb438) _ ⟨hHeld, (by (with_reducible repeat (first | apply Kd.R_alloc | apply Kd.R_drewN | apply Kd.R_drew)); exact HO431.out), (by (with_reducible repeat (first | refine blk_drewN ?_ _ | refine blk_drew ?_ | refine blk_alloc ?_ _)); exact BK425.out), (by (with_reducible repeat (first | refine blk_drewN ?_ _ | refine blk_drew ?_ | refine blk_alloc ?_ _)); exact BK437.out), (by (with_reducible repeat (first | refine blk_drewN ?_ _ | refine blk_drew ?_ | refine blk_alloc ?_ _)); exact BK438.out), GW437.out, GE437.out, NB425_437.out, NB437_425.out, NB438_437.out, NB437_438.out, GW438.out, GE438.out, NB425_438.out, NB438_425.out, (by repeat (first | (with_reducible first | exact HB.out | apply below_alloc | apply pw_below_drewN | apply below_drew1 | refine below_set ?_ GE425.out | refine below_set ?_ GE437.out | refine below_set ?_ GE438.out) | exact HB.out))⟩)
                · skip
                  rintro ⟨v430, v434⟩ w24 ⟨hS_, h0_, h1_, h2_, h3_⟩
                  have n0_ : Aside0 (Kd.R (Kd.int .i64) 3 w24 w.heap.size (fun k_ => some k_ ≠ (v434 : Value).ownBlock) v430 t429) := ⟨h0_⟩
                  have n1_ : Aside0 (Kd.R (Kd.int .i64) 3 w24 w.heap.size (fun k_ => some k_ ≠ (v430 : Value).ownBlock) v434 t433) := ⟨h1_⟩
                  have n2_ : Aside0 (w24.heap[gb425]? = some (.cells #[.slice A0_0 l0_0.length c0_0, .int .i64 a0_1, .slice A0_2 l0_2.length c0_2, .int .i64 a0_3, .int .i64 a0_4, .int .i64 a0_5] 48 (0, 0))) := ⟨h2_⟩
                  have n3_ : Aside0 (Below w.heap.size w w24) := ⟨h3_⟩
                  clear BK425
                  clear HB
                  clear h0_ h1_ h2_ h3_
                  have HO431 := n0_
                  have HO435 := n1_
                  have BK425 := n2_
                  have HB := n3_
                  clear n0_ n1_ n2_ n3_
                  have hHeld : w24.cell? ⟨gb425, 0, none⟩ = some (.slice A0_0 l0_0.length c0_0) ∧ w24.cell? ⟨gb425, 1, none⟩ = some (.int .i64 a0_1) ∧ w24.cell? ⟨gb425, 2, none⟩ = some (.slice A0_2 l0_2.length c0_2) ∧ w24.cell? ⟨gb425, 3, none⟩ = some (.int .i64 a0_3) ∧ w24.cell? ⟨gb425, 4, none⟩ = some (.int .i64 a0_4) ∧ w24.cell? ⟨gb425, 5, none⟩ = some (.int .i64 a0_5) := hS_
                  refine norm_ (a' := ?_) ?_ ?_
                  rotate_left
                  · simp only [putAll, Act.put, List.setIfInBounds_toArray, List.set_cons_zero, List.set_cons_succ]
                    rfl
                  refine two_ (i := 6) (j := 7) (Ni := some 3) (Nj := some 4) #[true, true, true, true, true, true, true, false, false, false] #[true, true, true, true, true, true, false, true, false, false] rfl rfl rfl rfl (two_of HT_.out (by kernel_rfl)) (by decide) (by decide) (fun K hK => ?_) (fun K hK => ?_)
                  · skip
                    refine box_step ?hg (N := 3) ?hd (cs := #[.slice none 0 0, .int .i64 0]) (t := 33) ?hr ?_; (case hd => rfl); (case hg => rfl); (case hr => first | (go_simp; done) | (go_simp; rfl))
                    intro gb437 hg w25 hbox hb
                    have n0_ := Aside0.mk (Kd.R_below (by (with_reducible repeat (first | apply Kd.R_alloc | apply Kd.R_drewN | apply Kd.R_drew)); exact HO431.out) hb)
                    have n1_ := Aside0.mk (Kd.R_below (by (with_reducible repeat (first | apply Kd.R_alloc | apply Kd.R_drewN | apply Kd.R_drew)); exact HO435.out) hb)
                    have n2_ := Aside0.mk (blk_below (g := gb425) (o := .cells #[.slice A0_0 l0_0.length c0_0, .int .i64 a0_1, .slice A0_2 l0_2.length c0_2, .int .i64 a0_3, .int .i64 a0_4, .int .i64 a0_5] 48 (0, 0)) (by (with_reducible repeat (first | refine blk_drewN ?_ _ | refine blk_drew ?_ | refine blk_alloc ?_ _)); exact BK425.out) hb)
                    have n3_ := Aside0.mk (below_step (by repeat (first | (with_reducible first | exact HB.out | apply below_alloc | apply pw_below_drewN | apply below_drew1 | refine below_set ?_ GE425.out) | exact HB.out)) hb)
                    have n4_ := Aside0.mk (hbox)
                    have n5_ := Aside0.mk ((by rw [hg]; exact (below_size (by repeat (first | (with_reducible first | exact HB.out | apply below_alloc | apply pw_below_drewN | apply below_drew1 | refine below_set ?_ GE425.out) | exact HB.out))) : w.heap.size ≤ gb437))
                    have n6_ := Aside0.mk ((by rw [hg]; exact (below_size (by repeat (first | (with_reducible first | exact HB.out | apply below_alloc | apply pw_below_drewN | apply below_drew1 | refine below_set ?_ GE425.out) | exact HB.out))) : w.heap.size ≤ gb437))
                    have n7_ := Aside0.mk ((by rw [hg]; exact Nat.ne_of_lt (blk_lt (g := gb425) (o := .cells #[.slice A0_0 l0_0.length c0_0, .int .i64 a0_1, .slice A0_2 l0_2.length c0_2, .int .i64 a0_3, .int .i64 a0_4, .int .i64 a0_5] 48 (0, 0)) (by (with_reducible repeat (first | refine blk_drewN ?_ _ | refine blk_drew ?_ | refine blk_alloc ?_ _)); exact BK425.out)) : gb425 ≠ gb437))
                    have n8_ := Aside0.mk ((by rw [hg]; exact Nat.ne_of_gt (blk_lt (g := gb425) (o := .cells #[.slice A0_0 l0_0.length c0_0, .int .i64 a0_1, .slice A0_2 l0_2.length c0_2, .int .i64 a0_3, .int .i64 a0_4, .int .i64 a0_5] 48 (0, 0)) (by (with_reducible repeat (first | refine blk_drewN ?_ _ | refine blk_drew ?_ | refine blk_alloc ?_ _)); exact BK425.out)) : gb437 ≠ gb425))
                    clear HO431
                    clear HO435
                    clear BK425
                    clear HB
                    have HO431 := n0_
                    have HO435 := n1_
                    have BK425 := n2_
                    have HB := n3_
                    have BK437 := n4_
                    have GW437 := n5_
                    have GE437 := n6_
                    have NB425_437 := n7_
                    have NB437_425 := n8_
                    clear n0_ n1_ n2_ n3_ n4_ n5_ n6_ n7_ n8_
                    clear hb hbox hg
                    refine hK.out _ _ ⟨(blk_cell BK425.out 0).trans rfl, (blk_cell BK425.out 1).trans rfl, (blk_cell BK425.out 2).trans rfl, (blk_cell BK425.out 3).trans rfl, (blk_cell BK425.out 4).trans rfl, (blk_cell BK425.out 5).trans rfl⟩ (fun hHeld => ?_)
                    clear hK K
                    refine norm_ (a' := ?_) ?_ ?_
                    rotate_left
                    · show Act.put _ (some 3) _ = _
                      simp only [Act.put, List.setIfInBounds_toArray, List.set_cons_zero, List.set_cons_succ, i64_w, i32_w]
                      rfl
                    exact norm_ (by first | (simp only [putAll, Act.put, List.setIfInBounds_toArray, List.set_cons_zero, List.set_cons_succ]; done) | (simp only [putAll, Act.put, List.setIfInBounds_toArray, List.set_cons_zero, List.set_cons_succ]; rfl)) (hJ2_5_6 (v430, v434, gb437) _ ⟨hHeld, (by (with_reducible repeat (first | apply Kd.R_alloc | apply Kd.R_drewN | apply Kd.R_drew)); exact HO431.out), (by (with_reducible repeat (first | apply Kd.R_alloc | apply Kd.R_drewN | apply Kd.R_drew)); exact HO435.out), (by (with_reducible repeat (first | refine blk_drewN ?_ _ | refine blk_drew ?_ | refine blk_alloc ?_ _)); exact BK425.out), (by (with_reducible repeat (first | refine blk_drewN ?_ _ | refine blk_drew ?_ | refine blk_alloc ?_ _)); exact BK437.out), GW437.out, GE437.out, NB425_437.out, NB437_425.out, (by repeat (first | (with_reducible first | exact HB.out | apply below_alloc | apply pw_below_drewN | apply below_drew1 | refine below_set ?_ GE425.out | refine below_set ?_ GE437.out) | exact HB.out))⟩)
                  · skip
                    refine box_step ?hg (N := 4) ?hd (cs := #[.slice none 0 0, .int .i64 0]) (t := 33) ?hr ?_; (case hd => rfl); (case hg => rfl); (case hr => first | (go_simp; done) | (go_simp; rfl))
                    intro gb438 hg w25 hbox hb
                    have n0_ := Aside0.mk (Kd.R_below (by (with_reducible repeat (first | apply Kd.R_alloc | apply Kd.R_drewN | apply Kd.R_drew)); exact HO431.out) hb)
                    have n1_ := Aside0.mk (Kd.R_below (by (with_reducible repeat (first | apply Kd.R_alloc | apply Kd.R_drewN | apply Kd.R_drew)); exact HO435.out) hb)
                    have n2_ := Aside0.mk (blk_below (g := gb425) (o := .cells #[.slice A0_0 l0_0.length c0_0, .int .i64 a0_1, .slice A0_2 l0_2.length c0_2, .int .i64 a0_3, .int .i64 a0_4, .int .i64 a0_5] 48 (0, 0)) (by (with_reducible repeat (first | refine blk_drewN ?_ _ | refine blk_drew ?_ | refine blk_alloc ?_ _)); exact BK425.out) hb)
                    have n3_ := Aside0.mk (below_step (by repeat (first | (with_reducible first | exact HB.out | apply below_alloc | apply pw_below_drewN | apply below_drew1 | refine below_set ?_ GE425.out) | exact HB.out)) hb)
                    have n4_ := Aside0.mk (hbox)
                    have n5_ := Aside0.mk ((by rw [hg]; exact (below_size (by repeat (first | (with_reducible first | exact HB.out | apply below_alloc | apply pw_below_drewN | apply below_drew1 | refine below_set ?_ GE425.out) | exact HB.out))) : w.heap.size ≤ gb438))
                    have n6_ := Aside0.mk ((by rw [hg]; exact (below_size (by repeat (first | (with_reducible first | exact HB.out | apply below_alloc | apply pw_below_drewN | apply below_drew1 | refine below_set ?_ GE425.out) | exact HB.out))) : w.heap.size ≤ gb438))
                    have n7_ := Aside0.mk ((by rw [hg]; exact Nat.ne_of_lt (blk_lt (g := gb425) (o := .cells #[.slice A0_0 l0_0.length c0_0, .int .i64 a0_1, .slice A0_2 l0_2.length c0_2, .int .i64 a0_3, .int .i64 a0_4, .int .i64 a0_5] 48 (0, 0)) (by (with_reducible repeat (first | refine blk_drewN ?_ _ | refine blk_drew ?_ | refine blk_alloc ?_ _)); exact BK425.out)) : gb425 ≠ gb438))
                    have n8_ := Aside0.mk ((by rw [hg]; exact Nat.ne_of_gt (blk_lt (g := gb425) (o := .cells #[.slice A0_0 l0_0.length c0_0, .int .i64 a0_1, .slice A0_2 l0_2.length c0_2, .int .i64 a0_3, .int .i64 a0_4, .int .i64 a0_5] 48 (0, 0)) (by (with_reducible repeat (first | refine blk_drewN ?_ _ | refine blk_drew ?_ | refine blk_alloc ?_ _)); exact BK425.out)) : gb438 ≠ gb425))
                    clear HO431
                    clear HO435
                    clear BK425
                    clear HB
                    have HO431 := n0_
                    have HO435 := n1_
                    have BK425 := n2_
                    have HB := n3_
                    have BK438 := n4_
                    have GW438 := n5_
                    have GE438 := n6_
                    have NB425_438 := n7_
                    have NB438_425 := n8_
                    clear n0_ n1_ n2_ n3_ n4_ n5_ n6_ n7_ n8_
                    clear hb hbox hg
                    refine hK.out _ _ ⟨(blk_cell BK425.out 0).trans rfl, (blk_cell BK425.out 1).trans rfl, (blk_cell BK425.out 2).trans rfl, (blk_cell BK425.out 3).trans rfl, (blk_cell BK425.out 4).trans rfl, (blk_cell BK425.out 5).trans rfl⟩ (fun hHeld => ?_)
                    clear hK K
                    refine norm_ (a' := ?_) ?_ ?_
                    rotate_left
                    · show Act.put _ (some 4) _ = _
                      simp only [Act.put, List.setIfInBounds_toArray, List.set_cons_zero, List.set_cons_succ, i64_w, i32_w]
                      rfl
                    exact norm_ (by first | (simp only [putAll, Act.put, List.setIfInBounds_toArray, List.set_cons_zero, List.set_cons_succ]; done) | (simp only [putAll, Act.put, List.setIfInBounds_toArray, List.set_cons_zero, List.set_cons_succ]; rfl)) (hJ2_5_7 (v430, v434, gb438) _ ⟨hHeld, (by (with_reducible repeat (first | apply Kd.R_alloc | apply Kd.R_drewN | apply Kd.R_drew)); exact HO431.out), (by (with_reducible repeat (first | apply Kd.R_alloc | apply Kd.R_drewN | apply Kd.R_drew)); exact HO435.out), (by (with_reducible repeat (first | refine blk_drewN ?_ _ | refine blk_drew ?_ | refine blk_alloc ?_ _)); exact BK425.out), (by (with_reducible repeat (first | refine blk_drewN ?_ _ | refine blk_drew ?_ | refine blk_alloc ?_ _)); exact BK438.out), GW438.out, GE438.out, NB425_438.out, NB438_425.out, (by repeat (first | (with_reducible first | exact HB.out | apply below_alloc | apply pw_below_drewN | apply below_drew1 | refine below_set ?_ GE425.out | refine below_set ?_ GE438.out) | exact HB.out))⟩)
              · skip
                rintro ⟨v430, gb437, gb438⟩ w25 ⟨hS_, h0_, h1_, h2_, h3_, h4_, h5_, h6_, h7_, h8_, h9_, h10_, h11_, h12_, h13_, h14_⟩
                have n0_ : Aside0 (Kd.R (Kd.int .i64) 3 w25 w.heap.size (fun _ => True) v430 t429) := ⟨h0_⟩
                have n1_ : Aside0 (w25.heap[gb425]? = some (.cells #[.slice A0_0 l0_0.length c0_0, .int .i64 a0_1, .slice A0_2 l0_2.length c0_2, .int .i64 a0_3, .int .i64 a0_4, .int .i64 a0_5] 48 (0, 0))) := ⟨h1_⟩
                have n2_ : Aside0 (w25.heap[gb437]? = some (.cells #[.slice none 0 0, .int .i64 0] 33 (0, 0))) := ⟨h2_⟩
                have n3_ : Aside0 (w25.heap[gb438]? = some (.cells #[.slice none 0 0, .int .i64 0] 33 (0, 0))) := ⟨h3_⟩
                have n4_ : Aside0 (w.heap.size ≤ gb437) := ⟨h4_⟩
                have n5_ : Aside0 (w.heap.size ≤ gb437) := ⟨h5_⟩
                have n6_ : Aside0 (gb425 ≠ gb437) := ⟨h6_⟩
                have n7_ : Aside0 (gb437 ≠ gb425) := ⟨h7_⟩
                have n8_ : Aside0 (gb438 ≠ gb437) := ⟨h8_⟩
                have n9_ : Aside0 (gb437 ≠ gb438) := ⟨h9_⟩
                have n10_ : Aside0 (w.heap.size ≤ gb438) := ⟨h10_⟩
                have n11_ : Aside0 (w.heap.size ≤ gb438) := ⟨h11_⟩
                have n12_ : Aside0 (gb425 ≠ gb438) := ⟨h12_⟩
                have n13_ : Aside0 (gb438 ≠ gb425) := ⟨h13_⟩
                have n14_ : Aside0 (Below w.heap.size w w25) := ⟨h14_⟩
                clear BK425
                clear HB
                clear h0_ h1_ h2_ h3_ h4_ h5_ h6_ h7_ h8_ h9_ h10_ h11_ h12_ h13_ h14_
                have HO431 := n0_
                have BK425 := n1_
                have BK437 := n2_
                have BK438 := n3_
                have GW437 := n4_
                have GE437 := n5_
                have NB425_437 := n6_
                have NB437_425 := n7_
                have NB438_437 := n8_
                have NB437_438 := n9_
                have GW438 := n10_
                have GE438 := n11_
                have NB425_438 := n12_
                have NB438_425 := n13_
                have HB := n14_
                clear n0_ n1_ n2_ n3_ n4_ n5_ n6_ n7_ n8_ n9_ n10_ n11_ n12_ n13_ n14_
                have hHeld : w25.cell? ⟨gb425, 0, none⟩ = some (.slice A0_0 l0_0.length c0_0) ∧ w25.cell? ⟨gb425, 1, none⟩ = some (.int .i64 a0_1) ∧ w25.cell? ⟨gb425, 2, none⟩ = some (.slice A0_2 l0_2.length c0_2) ∧ w25.cell? ⟨gb425, 3, none⟩ = some (.int .i64 a0_3) ∧ w25.cell? ⟨gb425, 4, none⟩ = some (.int .i64 a0_4) ∧ w25.cell? ⟨gb425, 5, none⟩ = some (.int .i64 a0_5) := hS_
                refine norm_ (a' := ?_) ?_ ?_
                rotate_left
                · simp only [putAll, Act.put, List.setIfInBounds_toArray, List.set_cons_zero, List.set_cons_succ]
                  rfl
                refine one_ (i := 5) (N := some 24) #[true, true, true, true, true, true, true, true, false, false] rfl rfl (one_of HT_.out (by kernel_rfl)) (by decide) (fun K hK => ?_)
                refine goes_ Tryd.func26 (by kernel_rfl) rfl #[.agg #[.slice A0_2 l0_2.length c0_2, .int .i64 a0_3]] (by rfl) rfl rfl (by (try simp only [List.map_toArray, List.map_cons, List.map_nil]); first | done | rfl | (simp only [List.length_drop, List.length_take]; rfl)) ?_
                with_reducible refine (familycheckref01_CopyRow.calls _ _ l0_2 a0_3 t433 t436 _ ?side1 ?side2 A17.out).mono ?_
                (case side1 => repeat (first | exact (Kd.C_below HR0_2.out HB.out) | (with_reducible refine Kd.C_alloc ?_ _) | (with_reducible refine Kd.C_drewN ?_ _) | (with_reducible refine Kd.C_drew ?_)))
                (case side2 => exact HC0_2.out)
                rintro e w26 ⟨v434, rfl, ho0, hb⟩
                refine ⟨_, rfl, ?_⟩
                have n0_ := Aside0.mk (Kd.R_elder' (by (with_reducible repeat (first | apply Kd.R_alloc | apply Kd.R_drewN | apply Kd.R_drew)); exact HO431.out) (Kd.R_base ho0) hb)
                have n1_ := Aside0.mk (Kd.R_lower (Kd.R_new' ho0 (Kd.R_lt (by (with_reducible repeat (first | apply Kd.R_alloc | apply Kd.R_drewN | apply Kd.R_drew)); exact HO431.out))) (below_size (by repeat (first | (with_reducible first | exact HB.out | apply below_alloc | apply pw_below_drewN | apply below_drew1 | refine below_set ?_ GE425.out | refine below_set ?_ GE437.out | refine below_set ?_ GE438.out) | exact HB.out))))
                have n2_ := Aside0.mk (blk_below (g := gb425) (o := .cells #[.slice A0_0 l0_0.length c0_0, .int .i64 a0_1, .slice A0_2 l0_2.length c0_2, .int .i64 a0_3, .int .i64 a0_4, .int .i64 a0_5] 48 (0, 0)) (by (with_reducible repeat (first | refine blk_drewN ?_ _ | refine blk_drew ?_ | refine blk_alloc ?_ _)); exact BK425.out) hb)
                have n3_ := Aside0.mk (blk_below (g := gb437) (o := .cells #[.slice none 0 0, .int .i64 0] 33 (0, 0)) (by (with_reducible repeat (first | refine blk_drewN ?_ _ | refine blk_drew ?_ | refine blk_alloc ?_ _)); exact BK437.out) hb)
                have n4_ := Aside0.mk (blk_below (g := gb438) (o := .cells #[.slice none 0 0, .int .i64 0] 33 (0, 0)) (by (with_reducible repeat (first | refine blk_drewN ?_ _ | refine blk_drew ?_ | refine blk_alloc ?_ _)); exact BK438.out) hb)
                have n5_ := Aside0.mk (below_step (by repeat (first | (with_reducible first | exact HB.out | apply below_alloc | apply pw_below_drewN | apply below_drew1 | refine below_set ?_ GE425.out | refine below_set ?_ GE437.out | refine below_set ?_ GE438.out) | exact HB.out)) hb)
                clear HO431
                clear BK425
                clear BK437
                clear BK438
                clear HB
                have HO431 := n0_
                have HO435 := n1_
                have BK425 := n2_
                have BK437 := n3_
                have BK438 := n4_
                have HB := n5_
                clear n0_ n1_ n2_ n3_ n4_ n5_
                (try clear hb)
                (try clear hb2)
                (try clear hk)
                (try clear hi)
                (try clear ho0)
                refine hK.out _ _ ⟨(blk_cell BK425.out 0).trans rfl, (blk_cell BK425.out 1).trans rfl, (blk_cell BK425.out 2).trans rfl, (blk_cell BK425.out 3).trans rfl, (blk_cell BK425.out 4).trans rfl, (blk_cell BK425.out 5).trans rfl⟩ (fun hHeld => ?_)
                clear hK K
                refine norm_ (a' := ?_) ?_ ?_
                rotate_left
                · show Act.put _ (some 24) _ = _
                  simp only [Act.put, List.setIfInBounds_toArray, List.set_cons_zero, List.set_cons_succ, i64_w, i32_w]
                  rfl
                exact norm_ (by first | (simp only [putAll, Act.put, List.setIfInBounds_toArray, List.set_cons_zero, List.set_cons_succ]; done) | (simp only [putAll, Act.put, List.setIfInBounds_toArray, List.set_cons_zero, List.set_cons_succ]; rfl)) (hJ2_5_6_7 (v430, v434, gb437, gb438) _ ⟨hHeld, (by (with_reducible repeat (first | apply Kd.R_alloc | apply Kd.R_drewN | apply Kd.R_drew)); exact Kd.R_mono HO431.out (fun _ hk => hk.2)), (by (with_reducible repeat (first | apply Kd.R_alloc | apply Kd.R_drewN | apply Kd.R_drew)); exact Kd.R_mono HO435.out (fun _ hk => hk.2)), (by (with_reducible repeat (first | refine blk_drewN ?_ _ | refine blk_drew ?_ | refine blk_alloc ?_ _)); exact BK425.out), (by (with_reducible repeat (first | refine blk_drewN ?_ _ | refine blk_drew ?_ | refine blk_alloc ?_ _)); exact BK437.out), (by (with_reducible repeat (first | refine blk_drewN ?_ _ | refine blk_drew ?_ | refine blk_alloc ?_ _)); exact BK438.out), GW437.out, GE437.out, NB425_437.out, NB437_425.out, NB438_437.out, NB437_438.out, GW438.out, GE438.out, NB425_438.out, NB438_425.out, (by repeat (first | (with_reducible first | exact HB.out | apply below_alloc | apply pw_below_drewN | apply below_drew1 | refine below_set ?_ GE425.out | refine below_set ?_ GE437.out | refine below_set ?_ GE438.out) | exact HB.out))⟩)
            · skip
              rintro ⟨v430, v434, gb438⟩ w25 ⟨hS_, h0_, h1_, h2_, h3_, h4_, h5_, h6_, h7_, h8_⟩
              have n0_ : Aside0 (Kd.R (Kd.int .i64) 3 w25 w.heap.size (fun k_ => some k_ ≠ (v434 : Value).ownBlock) v430 t429) := ⟨h0_⟩
              have n1_ : Aside0 (Kd.R (Kd.int .i64) 3 w25 w.heap.size (fun k_ => some k_ ≠ (v430 : Value).ownBlock) v434 t433) := ⟨h1_⟩
              have n2_ : Aside0 (w25.heap[gb425]? = some (.cells #[.slice A0_0 l0_0.length c0_0, .int .i64 a0_1, .slice A0_2 l0_2.length c0_2, .int .i64 a0_3, .int .i64 a0_4, .int .i64 a0_5] 48 (0, 0))) := ⟨h2_⟩
              have n3_ : Aside0 (w25.heap[gb438]? = some (.cells #[.slice none 0 0, .int .i64 0] 33 (0, 0))) := ⟨h3_⟩
              have n4_ : Aside0 (w.heap.size ≤ gb438) := ⟨h4_⟩
              have n5_ : Aside0 (w.heap.size ≤ gb438) := ⟨h5_⟩
              have n6_ : Aside0 (gb425 ≠ gb438) := ⟨h6_⟩
              have n7_ : Aside0 (gb438 ≠ gb425) := ⟨h7_⟩
              have n8_ : Aside0 (Below w.heap.size w w25) := ⟨h8_⟩
              clear BK425
              clear HB
              clear h0_ h1_ h2_ h3_ h4_ h5_ h6_ h7_ h8_
              have HO431 := n0_
              have HO435 := n1_
              have BK425 := n2_
              have BK438 := n3_
              have GW438 := n4_
              have GE438 := n5_
              have NB425_438 := n6_
              have NB438_425 := n7_
              have HB := n8_
              clear n0_ n1_ n2_ n3_ n4_ n5_ n6_ n7_ n8_
              have hHeld : w25.cell? ⟨gb425, 0, none⟩ = some (.slice A0_0 l0_0.length c0_0) ∧ w25.cell? ⟨gb425, 1, none⟩ = some (.int .i64 a0_1) ∧ w25.cell? ⟨gb425, 2, none⟩ = some (.slice A0_2 l0_2.length c0_2) ∧ w25.cell? ⟨gb425, 3, none⟩ = some (.int .i64 a0_3) ∧ w25.cell? ⟨gb425, 4, none⟩ = some (.int .i64 a0_4) ∧ w25.cell? ⟨gb425, 5, none⟩ = some (.int .i64 a0_5) := hS_
              refine norm_ (a' := ?_) ?_ ?_
              rotate_left
              · simp only [putAll, Act.put, List.setIfInBounds_toArray, List.set_cons_zero, List.set_cons_succ]
                rfl
              refine one_ (i := 6) (N := some 3) #[true, true, true, true, true, true, true, true, false, false] rfl rfl (one_of HT_.out (by kernel_rfl)) (by decide) (fun K hK => ?_)
              refine box_step ?hg (N := 3) ?hd (cs := #[.slice none 0 0, .int .i64 0]) (t := 33) ?hr ?_; (case hd => rfl); (case hg => rfl); (case hr => first | (go_simp; done) | (go_simp; rfl))
              intro gb437 hg w26 hbox hb
              have n0_ := Aside0.mk (Kd.R_below (by (with_reducible repeat (first | apply Kd.R_alloc | apply Kd.R_drewN | apply Kd.R_drew)); exact HO431.out) hb)
              have n1_ := Aside0.mk (Kd.R_below (by (with_reducible repeat (first | apply Kd.R_alloc | apply Kd.R_drewN | apply Kd.R_drew)); exact HO435.out) hb)
              have n2_ := Aside0.mk (blk_below (g := gb425) (o := .cells #[.slice A0_0 l0_0.length c0_0, .int .i64 a0_1, .slice A0_2 l0_2.length c0_2, .int .i64 a0_3, .int .i64 a0_4, .int .i64 a0_5] 48 (0, 0)) (by (with_reducible repeat (first | refine blk_drewN ?_ _ | refine blk_drew ?_ | refine blk_alloc ?_ _)); exact BK425.out) hb)
              have n3_ := Aside0.mk (blk_below (g := gb438) (o := .cells #[.slice none 0 0, .int .i64 0] 33 (0, 0)) (by (with_reducible repeat (first | refine blk_drewN ?_ _ | refine blk_drew ?_ | refine blk_alloc ?_ _)); exact BK438.out) hb)
              have n4_ := Aside0.mk (below_step (by repeat (first | (with_reducible first | exact HB.out | apply below_alloc | apply pw_below_drewN | apply below_drew1 | refine below_set ?_ GE425.out | refine below_set ?_ GE438.out) | exact HB.out)) hb)
              have n5_ := Aside0.mk (hbox)
              have n6_ := Aside0.mk ((by rw [hg]; exact (below_size (by repeat (first | (with_reducible first | exact HB.out | apply below_alloc | apply pw_below_drewN | apply below_drew1 | refine below_set ?_ GE425.out | refine below_set ?_ GE438.out) | exact HB.out))) : w.heap.size ≤ gb437))
              have n7_ := Aside0.mk ((by rw [hg]; exact (below_size (by repeat (first | (with_reducible first | exact HB.out | apply below_alloc | apply pw_below_drewN | apply below_drew1 | refine below_set ?_ GE425.out | refine below_set ?_ GE438.out) | exact HB.out))) : w.heap.size ≤ gb437))
              have n8_ := Aside0.mk ((by rw [hg]; exact Nat.ne_of_lt (blk_lt (g := gb425) (o := .cells #[.slice A0_0 l0_0.length c0_0, .int .i64 a0_1, .slice A0_2 l0_2.length c0_2, .int .i64 a0_3, .int .i64 a0_4, .int .i64 a0_5] 48 (0, 0)) (by (with_reducible repeat (first | refine blk_drewN ?_ _ | refine blk_drew ?_ | refine blk_alloc ?_ _)); exact BK425.out)) : gb425 ≠ gb437))
              have n9_ := Aside0.mk ((by rw [hg]; exact Nat.ne_of_gt (blk_lt (g := gb425) (o := .cells #[.slice A0_0 l0_0.length c0_0, .int .i64 a0_1, .slice A0_2 l0_2.length c0_2, .int .i64 a0_3, .int .i64 a0_4, .int .i64 a0_5] 48 (0, 0)) (by (with_reducible repeat (first | refine blk_drewN ?_ _ | refine blk_drew ?_ | refine blk_alloc ?_ _)); exact BK425.out)) : gb437 ≠ gb425))
              have n10_ := Aside0.mk ((by rw [hg]; exact Nat.ne_of_lt (blk_lt (g := gb438) (o := .cells #[.slice none 0 0, .int .i64 0] 33 (0, 0)) (by (with_reducible repeat (first | refine blk_drewN ?_ _ | refine blk_drew ?_ | refine blk_alloc ?_ _)); exact BK438.out)) : gb438 ≠ gb437))
              have n11_ := Aside0.mk ((by rw [hg]; exact Nat.ne_of_gt (blk_lt (g := gb438) (o := .cells #[.slice none 0 0, .int .i64 0] 33 (0, 0)) (by (with_reducible repeat (first | refine blk_drewN ?_ _ | refine blk_drew ?_ | refine blk_alloc ?_ _)); exact BK438.out)) : gb437 ≠ gb438))
              clear HO431
              clear HO435
              clear BK425
              clear BK438
              clear HB
              have HO431 := n0_
              have HO435 := n1_
              have BK425 := n2_
              have BK438 := n3_
              have HB := n4_
              have BK437 := n5_
              have GW437 := n6_
              have GE437 := n7_
              have NB425_437 := n8_
              have NB437_425 := n9_
              have NB438_437 := n10_
              have NB437_438 := n11_
              clear n0_ n1_ n2_ n3_ n4_ n5_ n6_ n7_ n8_ n9_ n10_ n11_
              clear hb hbox hg
              refine hK.out _ _ ⟨(blk_cell BK425.out 0).trans rfl, (blk_cell BK425.out 1).trans rfl, (blk_cell BK425.out 2).trans rfl, (blk_cell BK425.out 3).trans rfl, (blk_cell BK425.out 4).trans rfl, (blk_cell BK425.out 5).trans rfl⟩ (fun hHeld => ?_)
              clear hK K
              refine norm_ (a' := ?_) ?_ ?_
              rotate_left
              · show Act.put _ (some 3) _ = _
                simp only [Act.put, List.setIfInBounds_toArray, List.set_cons_zero, List.set_cons_succ, i64_w, i32_w]
                rfl
              exact norm_ (by first | (simp only [putAll, Act.put, List.setIfInBounds_toArray, List.set_cons_zero, List.set_cons_succ]; done) | (simp only [putAll, Act.put, List.setIfInBounds_toArray, List.set_cons_zero, List.set_cons_succ]; rfl)) (hJ2_5_6_7 (v430, v434, gb437, gb438) _ ⟨hHeld, (by (with_reducible repeat (first | apply Kd.R_alloc | apply Kd.R_drewN | apply Kd.R_drew)); exact HO431.out), (by (with_reducible repeat (first | apply Kd.R_alloc | apply Kd.R_drewN | apply Kd.R_drew)); exact HO435.out), (by (with_reducible repeat (first | refine blk_drewN ?_ _ | refine blk_drew ?_ | refine blk_alloc ?_ _)); exact BK425.out), (by (with_reducible repeat (first | refine blk_drewN ?_ _ | refine blk_drew ?_ | refine blk_alloc ?_ _)); exact BK437.out), (by (with_reducible repeat (first | refine blk_drewN ?_ _ | refine blk_drew ?_ | refine blk_alloc ?_ _)); exact BK438.out), GW437.out, GE437.out, NB425_437.out, NB437_425.out, NB438_437.out, NB437_438.out, GW438.out, GE438.out, NB425_438.out, NB438_425.out, (by repeat (first | (with_reducible first | exact HB.out | apply below_alloc | apply pw_below_drewN | apply below_drew1 | refine below_set ?_ GE425.out | refine below_set ?_ GE438.out | refine below_set ?_ GE437.out) | exact HB.out))⟩)
          · skip
            rintro ⟨v430, v434, gb437⟩ w25 ⟨hS_, h0_, h1_, h2_, h3_, h4_, h5_, h6_, h7_, h8_⟩
            have n0_ : Aside0 (Kd.R (Kd.int .i64) 3 w25 w.heap.size (fun k_ => some k_ ≠ (v434 : Value).ownBlock) v430 t429) := ⟨h0_⟩
            have n1_ : Aside0 (Kd.R (Kd.int .i64) 3 w25 w.heap.size (fun k_ => some k_ ≠ (v430 : Value).ownBlock) v434 t433) := ⟨h1_⟩
            have n2_ : Aside0 (w25.heap[gb425]? = some (.cells #[.slice A0_0 l0_0.length c0_0, .int .i64 a0_1, .slice A0_2 l0_2.length c0_2, .int .i64 a0_3, .int .i64 a0_4, .int .i64 a0_5] 48 (0, 0))) := ⟨h2_⟩
            have n3_ : Aside0 (w25.heap[gb437]? = some (.cells #[.slice none 0 0, .int .i64 0] 33 (0, 0))) := ⟨h3_⟩
            have n4_ : Aside0 (w.heap.size ≤ gb437) := ⟨h4_⟩
            have n5_ : Aside0 (w.heap.size ≤ gb437) := ⟨h5_⟩
            have n6_ : Aside0 (gb425 ≠ gb437) := ⟨h6_⟩
            have n7_ : Aside0 (gb437 ≠ gb425) := ⟨h7_⟩
            have n8_ : Aside0 (Below w.heap.size w w25) := ⟨h8_⟩
            clear BK425
            clear HB
            clear h0_ h1_ h2_ h3_ h4_ h5_ h6_ h7_ h8_
            have HO431 := n0_
            have HO435 := n1_
            have BK425 := n2_
            have BK437 := n3_
            have GW437 := n4_
            have GE437 := n5_
            have NB425_437 := n6_
            have NB437_425 := n7_
            have HB := n8_
            clear n0_ n1_ n2_ n3_ n4_ n5_ n6_ n7_ n8_
            have hHeld : w25.cell? ⟨gb425, 0, none⟩ = some (.slice A0_0 l0_0.length c0_0) ∧ w25.cell? ⟨gb425, 1, none⟩ = some (.int .i64 a0_1) ∧ w25.cell? ⟨gb425, 2, none⟩ = some (.slice A0_2 l0_2.length c0_2) ∧ w25.cell? ⟨gb425, 3, none⟩ = some (.int .i64 a0_3) ∧ w25.cell? ⟨gb425, 4, none⟩ = some (.int .i64 a0_4) ∧ w25.cell? ⟨gb425, 5, none⟩ = some (.int .i64 a0_5) := hS_
            refine norm_ (a' := ?_) ?_ ?_
            rotate_left
            · simp only [putAll, Act.put, List.setIfInBounds_toArray, List.set_cons_zero, List.set_cons_succ]
              rfl
            refine one_ (i := 7) (N := some 4) #[true, true, true, true, true, true, true, true, false, false] rfl rfl (one_of HT_.out (by kernel_rfl)) (by decide) (fun K hK => ?_)
            refine box_step ?hg (N := 4) ?hd (cs := #[.slice none 0 0, .int .i64 0]) (t := 33) ?hr ?_; (case hd => rfl); (case hg => rfl); (case hr => first | (go_simp; done) | (go_simp; rfl))
            intro gb438 hg w26 hbox hb
            have n0_ := Aside0.mk (Kd.R_below (by (with_reducible repeat (first | apply Kd.R_alloc | apply Kd.R_drewN | apply Kd.R_drew)); exact HO431.out) hb)
            have n1_ := Aside0.mk (Kd.R_below (by (with_reducible repeat (first | apply Kd.R_alloc | apply Kd.R_drewN | apply Kd.R_drew)); exact HO435.out) hb)
            have n2_ := Aside0.mk (blk_below (g := gb425) (o := .cells #[.slice A0_0 l0_0.length c0_0, .int .i64 a0_1, .slice A0_2 l0_2.length c0_2, .int .i64 a0_3, .int .i64 a0_4, .int .i64 a0_5] 48 (0, 0)) (by (with_reducible repeat (first | refine blk_drewN ?_ _ | refine blk_drew ?_ | refine blk_alloc ?_ _)); exact BK425.out) hb)
            have n3_ := Aside0.mk (blk_below (g := gb437) (o := .cells #[.slice none 0 0, .int .i64 0] 33 (0, 0)) (by (with_reducible repeat (first | refine blk_drewN ?_ _ | refine blk_drew ?_ | refine blk_alloc ?_ _)); exact BK437.out) hb)
            have n4_ := Aside0.mk (below_step (by repeat (first | (with_reducible first | exact HB.out | apply below_alloc | apply pw_below_drewN | apply below_drew1 | refine below_set ?_ GE425.out | refine below_set ?_ GE437.out) | exact HB.out)) hb)
            have n5_ := Aside0.mk (hbox)
            have n6_ := Aside0.mk ((by rw [hg]; exact (below_size (by repeat (first | (with_reducible first | exact HB.out | apply below_alloc | apply pw_below_drewN | apply below_drew1 | refine below_set ?_ GE425.out | refine below_set ?_ GE437.out) | exact HB.out))) : w.heap.size ≤ gb438))
            have n7_ := Aside0.mk ((by rw [hg]; exact (below_size (by repeat (first | (with_reducible first | exact HB.out | apply below_alloc | apply pw_below_drewN | apply below_drew1 | refine below_set ?_ GE425.out | refine below_set ?_ GE437.out) | exact HB.out))) : w.heap.size ≤ gb438))
            have n8_ := Aside0.mk ((by rw [hg]; exact Nat.ne_of_lt (blk_lt (g := gb425) (o := .cells #[.slice A0_0 l0_0.length c0_0, .int .i64 a0_1, .slice A0_2 l0_2.length c0_2, .int .i64 a0_3, .int .i64 a0_4, .int .i64 a0_5] 48 (0, 0)) (by (with_reducible repeat (first | refine blk_drewN ?_ _ | refine blk_drew ?_ | refine blk_alloc ?_ _)); exact BK425.out)) : gb425 ≠ gb438))
            have n9_ := Aside0.mk ((by rw [hg]; exact Nat.ne_of_gt (blk_lt (g := gb425) (o := .cells #[.slice A0_0 l0_0.length c0_0, .int .i64 a0_1, .slice A0_2 l0_2.length c0_2, .int .i64 a0_3, .int .i64 a0_4, .int .i64 a0_5] 48 (0, 0)) (by (with_reducible repeat (first | refine blk_drewN ?_ _ | refine blk_drew ?_ | refine blk_alloc ?_ _)); exact BK425.out)) : gb438 ≠ gb425))
            have n10_ := Aside0.mk ((by rw [hg]; exact Nat.ne_of_lt (blk_lt (g := gb437) (o := .cells #[.slice none 0 0, .int .i64 0] 33 (0, 0)) (by (with_reducible repeat (first | refine blk_drewN ?_ _ | refine blk_drew ?_ | refine blk_alloc ?_ _)); exact BK437.out)) : gb437 ≠ gb438))
            have n11_ := Aside0.mk ((by rw [hg]; exact Nat.ne_of_gt (blk_lt (g := gb437) (o := .cells #[.slice none 0 0, .int .i64 0] 33 (0, 0)) (by (with_reducible repeat (first | refine blk_drewN ?_ _ | refine blk_drew ?_ | refine blk_alloc ?_ _)); exact BK437.out)) : gb438 ≠ gb437))
            clear HO431
            clear HO435
            clear BK425
            clear BK437
            clear HB
            have HO431 := n0_
            have HO435 := n1_
            have BK425 := n2_
            have BK437 := n3_
            have HB := n4_
            have BK438 := n5_
            have GW438 := n6_
            have GE438 := n7_
            have NB425_438 := n8_
            have NB438_425 := n9_
            have NB437_438 := n10_
            have NB438_437 := n11_
            clear n0_ n1_ n2_ n3_ n4_ n5_ n6_ n7_ n8_ n9_ n10_ n11_
            clear hb hbox hg
            refine hK.out _ _ ⟨(blk_cell BK425.out 0).trans rfl, (blk_cell BK425.out 1).trans rfl, (blk_cell BK425.out 2).trans rfl, (blk_cell BK425.out 3).trans rfl, (blk_cell BK425.out 4).trans rfl, (blk_cell BK425.out 5).trans rfl⟩ (fun hHeld => ?_)
            clear hK K
            refine norm_ (a' := ?_) ?_ ?_
            rotate_left
            · show Act.put _ (some 4) _ = _
              simp only [Act.put, List.setIfInBounds_toArray, List.set_cons_zero, List.set_cons_succ, i64_w, i32_w]
              rfl
            exact norm_ (by first | (simp only [putAll, Act.put, List.setIfInBounds_toArray, List.set_cons_zero, List.set_cons_succ]; done) | (simp only [putAll, Act.put, List.setIfInBounds_toArray, List.set_cons_zero, List.set_cons_succ]; rfl)) (hJ2_5_6_7 (v430, v434, gb437, gb438) _ ⟨hHeld, (by (with_reducible repeat (first | apply Kd.R_alloc | apply Kd.R_drewN | apply Kd.R_drew)); exact HO431.out), (by (with_reducible repeat (first | apply Kd.R_alloc | apply Kd.R_drewN | apply Kd.R_drew)); exact HO435.out), (by (with_reducible repeat (first | refine blk_drewN ?_ _ | refine blk_drew ?_ | refine blk_alloc ?_ _)); exact BK425.out), (by (with_reducible repeat (first | refine blk_drewN ?_ _ | refine blk_drew ?_ | refine blk_alloc ?_ _)); exact BK437.out), (by (with_reducible repeat (first | refine blk_drewN ?_ _ | refine blk_drew ?_ | refine blk_alloc ?_ _)); exact BK438.out), GW437.out, GE437.out, NB425_437.out, NB437_425.out, NB438_437.out, NB437_438.out, GW438.out, GE438.out, NB425_438.out, NB438_425.out, (by repeat (first | (with_reducible first | exact HB.out | apply below_alloc | apply pw_below_drewN | apply below_drew1 | refine below_set ?_ GE425.out | refine below_set ?_ GE437.out | refine below_set ?_ GE438.out) | exact HB.out))⟩)
        rintro ⟨v430, v434, gb437, gb438⟩ w26 ⟨hS_, h0_, h1_, h2_, h3_, h4_, h5_, h6_, h7_, h8_, h9_, h10_, h11_, h12_, h13_, h14_, h15_⟩
        have n0_ : Aside0 (Kd.R (Kd.int .i64) 3 w26 w.heap.size (fun k_ => some k_ ≠ (v434 : Value).ownBlock) v430 t429) := ⟨h0_⟩
        have n1_ : Aside0 (Kd.R (Kd.int .i64) 3 w26 w.heap.size (fun k_ => some k_ ≠ (v430 : Value).ownBlock) v434 t433) := ⟨h1_⟩
        have n2_ : Aside0 (w26.heap[gb425]? = some (.cells #[.slice A0_0 l0_0.length c0_0, .int .i64 a0_1, .slice A0_2 l0_2.length c0_2, .int .i64 a0_3, .int .i64 a0_4, .int .i64 a0_5] 48 (0, 0))) := ⟨h2_⟩
        have n3_ : Aside0 (w26.heap[gb437]? = some (.cells #[.slice none 0 0, .int .i64 0] 33 (0, 0))) := ⟨h3_⟩
        have n4_ : Aside0 (w26.heap[gb438]? = some (.cells #[.slice none 0 0, .int .i64 0] 33 (0, 0))) := ⟨h4_⟩
        have n5_ : Aside0 (w.heap.size ≤ gb437) := ⟨h5_⟩
        have n6_ : Aside0 (w.heap.size ≤ gb437) := ⟨h6_⟩
        have n7_ : Aside0 (gb425 ≠ gb437) := ⟨h7_⟩
        have n8_ : Aside0 (gb437 ≠ gb425) := ⟨h8_⟩
        have n9_ : Aside0 (gb438 ≠ gb437) := ⟨h9_⟩
        have n10_ : Aside0 (gb437 ≠ gb438) := ⟨h10_⟩
        have n11_ : Aside0 (w.heap.size ≤ gb438) := ⟨h11_⟩
        have n12_ : Aside0 (w.heap.size ≤ gb438) := ⟨h12_⟩
        have n13_ : Aside0 (gb425 ≠ gb438) := ⟨h13_⟩
        have n14_ : Aside0 (gb438 ≠ gb425) := ⟨h14_⟩
        have n15_ : Aside0 (Below w.heap.size w w26) := ⟨h15_⟩
        clear BK425
        clear HB
        clear h0_ h1_ h2_ h3_ h4_ h5_ h6_ h7_ h8_ h9_ h10_ h11_ h12_ h13_ h14_ h15_
        have HO431 := n0_
        have HO435 := n1_
        have BK425 := n2_
        have BK437 := n3_
        have BK438 := n4_
        have GW437 := n5_
        have GE437 := n6_
        have NB425_437 := n7_
        have NB437_425 := n8_
        have NB438_437 := n9_
        have NB437_438 := n10_
        have GW438 := n11_
        have GE438 := n12_
        have NB425_438 := n13_
        have NB438_425 := n14_
        have HB := n15_
        clear n0_ n1_ n2_ n3_ n4_ n5_ n6_ n7_ n8_ n9_ n10_ n11_ n12_ n13_ n14_ n15_
        have hHeld : w26.cell? ⟨gb425, 0, none⟩ = some (.slice A0_0 l0_0.length c0_0) ∧ w26.cell? ⟨gb425, 1, none⟩ = some (.int .i64 a0_1) ∧ w26.cell? ⟨gb425, 2, none⟩ = some (.slice A0_2 l0_2.length c0_2) ∧ w26.cell? ⟨gb425, 3, none⟩ = some (.int .i64 a0_3) ∧ w26.cell? ⟨gb425, 4, none⟩ = some (.int .i64 a0_4) ∧ w26.cell? ⟨gb425, 5, none⟩ = some (.int .i64 a0_5) := hS_
        obtain ⟨Ao27, co27, eo27⟩ := Kd.R_slice HO431.out
        (first | subst eo27 | (injection eo27 with f1_ f2_ f3_; have f4_ := f1_.symm; have f5_ := f3_.symm; clear f1_ f2_ f3_; subst f4_; subst f5_))
        obtain ⟨Ao30, co30, eo30⟩ := Kd.R_slice HO435.out
        (first | subst eo30 | (injection eo30 with f1_ f2_ f3_; have f4_ := f1_.symm; have f5_ := f3_.symm; clear f1_ f2_ f3_; subst f4_; subst f5_))
        refine norm_ (a' := ?_) ?_ ?_
        rotate_left
        · simp only [putAll, Act.put, List.setIfInBounds_toArray, List.set_cons_zero, List.set_cons_succ]
          rfl
        refine one_ (i := 8) (N := none) #[true, true, true, true, true, true, true, true, true, false] rfl rfl (one_of HT_.out (by kernel_rfl)) (by decide) (fun K hK => ?_)
        have hs28 : w26.cell? ⟨gb437, 0, none⟩ = some (.slice none 0 0) := (blk_cell BK437.out 0).trans rfl
        have hfs28 := blk_frozen BK437.out 0
        have hns28_0 := NB425_437.out
        have hns28_2 := NB438_437.out
        have hms28_0 := NB437_425.out
        have hms28_2 := NB437_438.out
        have hs29 : w26.cell? ⟨gb437, 1, none⟩ = some (.int .i64 0) := (blk_cell BK437.out 1).trans rfl
        have hfs29 := blk_frozen BK437.out 1
        have hns29_0 := NB425_437.out
        have hns29_2 := NB438_437.out
        have hms29_0 := NB437_425.out
        have hms29_2 := NB437_438.out
        refine skip_ (w1 := ?_) (by rfl) rfl ?_ ?_
        rotate_left
        · go_simp
          rfl
        refine hK.out _ _ ⟨((cell_far (p := ⟨gb437, _, none⟩) NB425_437.out _).trans (((cell_far (p := ⟨gb437, _, none⟩) NB425_437.out _).trans (hHeld.1)))), ((cell_far (p := ⟨gb437, _, none⟩) NB425_437.out _).trans (((cell_far (p := ⟨gb437, _, none⟩) NB425_437.out _).trans (hHeld.2.1)))), ((cell_far (p := ⟨gb437, _, none⟩) NB425_437.out _).trans (((cell_far (p := ⟨gb437, _, none⟩) NB425_437.out _).trans (hHeld.2.2.1)))), ((cell_far (p := ⟨gb437, _, none⟩) NB425_437.out _).trans (((cell_far (p := ⟨gb437, _, none⟩) NB425_437.out _).trans (hHeld.2.2.2.1)))), ((cell_far (p := ⟨gb437, _, none⟩) NB425_437.out _).trans (((cell_far (p := ⟨gb437, _, none⟩) NB425_437.out _).trans (hHeld.2.2.2.2.1)))), ((cell_far (p := ⟨gb437, _, none⟩) NB425_437.out _).trans (((cell_far (p := ⟨gb437, _, none⟩) NB425_437.out _).trans (hHeld.2.2.2.2.2))))⟩ (fun hHeld => ?_)
        clear hK K
        refine one_ (i := 9) (N := none) #[true, true, true, true, true, true, true, true, true, true] rfl rfl (one_of HT_.out (by kernel_rfl)) (by decide) (fun K hK => ?_)
        have hs31 : w26.cell? ⟨gb438, 0, none⟩ = some (.slice none 0 0) := (blk_cell BK438.out 0).trans rfl
        have hfs31 := blk_frozen BK438.out 0
        have hns31_0 := NB425_438.out
        have hns31_1 := NB437_438.out
        have hms31_0 := NB438_425.out
        have hms31_1 := NB438_437.out
        have hs32 : w26.cell? ⟨gb438, 1, none⟩ = some (.int .i64 0) := (blk_cell BK438.out 1).trans rfl
        have hfs32 := blk_frozen BK438.out 1
        have hns32_0 := NB425_438.out
        have hns32_1 := NB437_438.out
        have hms32_0 := NB438_425.out
        have hms32_1 := NB438_437.out
        refine skip_ (w1 := ?_) (by rfl) rfl ?_ ?_
        rotate_left
        · go_simp
          rfl
        refine hK.out _ _ ⟨((cell_far (p := ⟨gb438, _, none⟩) NB425_438.out _).trans (((cell_far (p := ⟨gb438, _, none⟩) NB425_438.out _).trans (hHeld.1)))), ((cell_far (p := ⟨gb438, _, none⟩) NB425_438.out _).trans (((cell_far (p := ⟨gb438, _, none⟩) NB425_438.out _).trans (hHeld.2.1)))), ((cell_far (p := ⟨gb438, _, none⟩) NB425_438.out _).trans (((cell_far (p := ⟨gb438, _, none⟩) NB425_438.out _).trans (hHeld.2.2.1)))), ((cell_far (p := ⟨gb438, _, none⟩) NB425_438.out _).trans (((cell_far (p := ⟨gb438, _, none⟩) NB425_438.out _).trans (hHeld.2.2.2.1)))), ((cell_far (p := ⟨gb438, _, none⟩) NB425_438.out _).trans (((cell_far (p := ⟨gb438, _, none⟩) NB425_438.out _).trans (hHeld.2.2.2.2.1)))), ((cell_far (p := ⟨gb438, _, none⟩) NB425_438.out _).trans (((cell_far (p := ⟨gb438, _, none⟩) NB425_438.out _).trans (hHeld.2.2.2.2.2))))⟩ (fun hHeld => ?_)
        clear hK K
        refine done_ (done_of HT_.out (by kernel_rfl)) ?_
        have hnb33 := NB437_425.out
        have hnc33 := NB425_437.out
        have hnb34 := NB437_438.out
        have hnc34 := NB438_437.out
        have hcz35_0 : w26.cell? ⟨gb437, 0, none⟩ = some (.slice none 0 0) := (blk_cell BK437.out 0).trans rfl
        have hcz35_1 : w26.cell? ⟨gb437, 1, none⟩ = some (.int .i64 0) := (blk_cell BK437.out 1).trans rfl
        have hfz35_0 := blk_frozen BK437.out 0
        have hfz35_1 := blk_frozen BK437.out 1
        have hnb36 := NB425_438.out
        have hnc36 := NB438_425.out
        have hcz37_0 : w26.cell? ⟨gb425, 0, none⟩ = some (.slice A0_0 l0_0.length c0_0) := (blk_cell BK425.out 0).trans rfl
        have hcz37_1 : w26.cell? ⟨gb425, 1, none⟩ = some (.int .i64 a0_1) := (blk_cell BK425.out 1).trans rfl
        have hcz37_2 : w26.cell? ⟨gb425, 2, none⟩ = some (.slice A0_2 l0_2.length c0_2) := (blk_cell BK425.out 2).trans rfl
        have hcz37_3 : w26.cell? ⟨gb425, 3, none⟩ = some (.int .i64 a0_3) := (blk_cell BK425.out 3).trans rfl
        have hcz37_4 : w26.cell? ⟨gb425, 4, none⟩ = some (.int .i64 a0_4) := (blk_cell BK425.out 4).trans rfl
        have hcz37_5 : w26.cell? ⟨gb425, 5, none⟩ = some (.int .i64 a0_5) := (blk_cell BK425.out 5).trans rfl
        have hfz37_0 := blk_frozen BK425.out 0
        have hfz37_1 := blk_frozen BK425.out 1
        have hfz37_2 := blk_frozen BK425.out 2
        have hfz37_3 := blk_frozen BK425.out 3
        have hfz37_4 := blk_frozen BK425.out 4
        have hfz37_5 := blk_frozen BK425.out 5
        have hcz38_0 : w26.cell? ⟨gb438, 0, none⟩ = some (.slice none 0 0) := (blk_cell BK438.out 0).trans rfl
        have hcz38_1 : w26.cell? ⟨gb438, 1, none⟩ = some (.int .i64 0) := (blk_cell BK438.out 1).trans rfl
        have hfz38_0 := blk_frozen BK438.out 0
        have hfz38_1 := blk_frozen BK438.out 1
        go_upto_region 6 with (first | ((with_reducible refine gate_callee (f := 39) rfl ?_); refine goesL_ (some 32) rfl rfl Tryd.func39 (by kernel_rfl) rfl #[.agg #[.slice Ao27 t429.length co27, .int .i64 t432], .int .i64 a0_4, .agg #[.slice Ao30 t433.length co30, .int .i64 t436], .int .i64 a0_5] rfl (by (try simp only [List.map_toArray, List.map_cons, List.map_nil]); first | done | rfl | (simp only [List.length_drop, List.length_take]; rfl)) ?_; (with_reducible refine (linear_Combine.calls kj1 _ _ t429 t432 a0_4 _ _ t433 t436 a0_5 t439 t442 t443 _ ?side1 ?side2 ?side3 ?side4 A18.out).mono ?_); (case side1 => refine (Kd.R_reads' (e := 3) (base := w.heap.size) (ok := fun k_ => some k_ ≠ (.slice Ao30 t433.length co30 : Value).ownBlock) (n := t429.length) (c := co27) ?_).2.2; exact (by (with_reducible repeat (first | apply Kd.R_alloc | apply Kd.R_drewN | apply Kd.R_drew)); exact (Kd.R_mono (Kd.R_mono (Kd.R_far (p := ⟨gb438, 1, none⟩) (Kd.R_far (p := ⟨gb438, 0, none⟩) (Kd.R_far (p := ⟨gb437, 1, none⟩) (Kd.R_far (p := ⟨gb437, 0, none⟩) (Kd.R_types (Kd.R_types HO431.out BK437.out (by decide)) BK438.out (by decide)) (fun _ hk => hk.1.2) (.slice Ao27 t429.length co27)) (fun _ hk => hk.1.2) (.int .i64 t432)) (fun _ hk => hk.2) (.slice Ao30 t433.length co30)) (fun _ hk => hk.2) (.int .i64 t436)) (fun _ h_ => h_.1)) (fun _ h_ => h_.1)))); (case side2 => exact (Kd.R_reads' HO431.out).2.1); (case side3 => refine (Kd.R_reads' (e := 3) (base := w.heap.size) (ok := fun k_ => some k_ ≠ (.slice Ao27 t429.length co27 : Value).ownBlock) (n := t433.length) (c := co30) ?_).2.2; exact (by (with_reducible repeat (first | apply Kd.R_alloc | apply Kd.R_drewN | apply Kd.R_drew)); exact (Kd.R_mono (Kd.R_mono (Kd.R_far (p := ⟨gb438, 1, none⟩) (Kd.R_far (p := ⟨gb438, 0, none⟩) (Kd.R_far (p := ⟨gb437, 1, none⟩) (Kd.R_far (p := ⟨gb437, 0, none⟩) (Kd.R_types (Kd.R_types HO435.out BK437.out (by decide)) BK438.out (by decide)) (fun _ hk => hk.1.2) (.slice Ao27 t429.length co27)) (fun _ hk => hk.1.2) (.int .i64 t432)) (fun _ hk => hk.2) (.slice Ao30 t433.length co30)) (fun _ hk => hk.2) (.int .i64 t436)) (fun _ h_ => h_.1)) (fun _ h_ => h_.1)))); (case side4 => exact (Kd.R_reads' HO435.out).2.1); rintro e w39 ⟨v440, rfl, ho0, hb⟩; refine ⟨_, rfl, ?_⟩; have n0_ := Aside0.mk (Kd.R_elder' (by (with_reducible repeat (first | apply Kd.R_alloc | apply Kd.R_drewN | apply Kd.R_drew)); exact (Kd.R_mono (Kd.R_mono (Kd.R_far (p := ⟨gb438, 1, none⟩) (Kd.R_far (p := ⟨gb438, 0, none⟩) (Kd.R_far (p := ⟨gb437, 1, none⟩) (Kd.R_far (p := ⟨gb437, 0, none⟩) (Kd.R_types (Kd.R_types HO431.out BK437.out (by decide)) BK438.out (by decide)) (fun _ hk => hk.1.2) (.slice Ao27 t429.length co27)) (fun _ hk => hk.1.2) (.int .i64 t432)) (fun _ hk => hk.2) (.slice Ao30 t433.length co30)) (fun _ hk => hk.2) (.int .i64 t436)) (fun _ h_ => h_.1)) (fun _ h_ => h_.1))) (Kd.R_base ho0) hb); have n1_ := Aside0.mk (Kd.R_elder' (by (with_reducible repeat (first | apply Kd.R_alloc | apply Kd.R_drewN | apply Kd.R_drew)); exact (Kd.R_mono (Kd.R_mono (Kd.R_far (p := ⟨gb438, 1, none⟩) (Kd.R_far (p := ⟨gb438, 0, none⟩) (Kd.R_far (p := ⟨gb437, 1, none⟩) (Kd.R_far (p := ⟨gb437, 0, none⟩) (Kd.R_types (Kd.R_types HO435.out BK437.out (by decide)) BK438.out (by decide)) (fun _ hk => hk.1.2) (.slice Ao27 t429.length co27)) (fun _ hk => hk.1.2) (.int .i64 t432)) (fun _ hk => hk.2) (.slice Ao30 t433.length co30)) (fun _ hk => hk.2) (.int .i64 t436)) (fun _ h_ => h_.1)) (fun _ h_ => h_.1))) (Kd.R_base ho0) hb); have n2_ := Aside0.mk (Kd.R_lower (Kd.R_new' (Kd.R_new' ho0 (Kd.R_lt (by (with_reducible repeat (first | apply Kd.R_alloc | apply Kd.R_drewN | apply Kd.R_drew)); exact (Kd.R_mono (Kd.R_mono (Kd.R_far (p := ⟨gb438, 1, none⟩) (Kd.R_far (p := ⟨gb438, 0, none⟩) (Kd.R_far (p := ⟨gb437, 1, none⟩) (Kd.R_far (p := ⟨gb437, 0, none⟩) (Kd.R_types (Kd.R_types HO431.out BK437.out (by decide)) BK438.out (by decide)) (fun _ hk => hk.1.2) (.slice Ao27 t429.length co27)) (fun _ hk => hk.1.2) (.int .i64 t432)) (fun _ hk => hk.2) (.slice Ao30 t433.length co30)) (fun _ hk => hk.2) (.int .i64 t436)) (fun _ h_ => h_.1)) (fun _ h_ => h_.1))))) (Kd.R_lt (by (with_reducible repeat (first | apply Kd.R_alloc | apply Kd.R_drewN | apply Kd.R_drew)); exact (Kd.R_mono (Kd.R_mono (Kd.R_far (p := ⟨gb438, 1, none⟩) (Kd.R_far (p := ⟨gb438, 0, none⟩) (Kd.R_far (p := ⟨gb437, 1, none⟩) (Kd.R_far (p := ⟨gb437, 0, none⟩) (Kd.R_types (Kd.R_types HO435.out BK437.out (by decide)) BK438.out (by decide)) (fun _ hk => hk.1.2) (.slice Ao27 t429.length co27)) (fun _ hk => hk.1.2) (.int .i64 t432)) (fun _ hk => hk.2) (.slice Ao30 t433.length co30)) (fun _ hk => hk.2) (.int .i64 t436)) (fun _ h_ => h_.1)) (fun _ h_ => h_.1))))) (below_size (by repeat (first | (with_reducible first | exact HB.out | apply below_alloc | apply pw_below_drewN | apply below_drew1 | refine below_set ?_ GE425.out | refine below_set ?_ GE437.out | refine below_set ?_ GE438.out) | exact HB.out)))); have n3_ := Aside0.mk (blk_below (g := gb425) (o := .cells #[.slice A0_0 l0_0.length c0_0, .int .i64 a0_1, .slice A0_2 l0_2.length c0_2, .int .i64 a0_3, .int .i64 a0_4, .int .i64 a0_5] 48 (0, 0)) (by (with_reducible repeat (first | refine blk_drewN ?_ _ | refine blk_drew ?_ | refine blk_alloc ?_ _)); refine blk_far ?_ NB425_438.out _; (with_reducible repeat (first | refine blk_drewN ?_ _ | refine blk_drew ?_ | refine blk_alloc ?_ _)); refine blk_far ?_ NB425_438.out _; (with_reducible repeat (first | refine blk_drewN ?_ _ | refine blk_drew ?_ | refine blk_alloc ?_ _)); refine blk_far ?_ NB425_437.out _; (with_reducible repeat (first | refine blk_drewN ?_ _ | refine blk_drew ?_ | refine blk_alloc ?_ _)); refine blk_far ?_ NB425_437.out _; (with_reducible repeat (first | refine blk_drewN ?_ _ | refine blk_drew ?_ | refine blk_alloc ?_ _)); exact BK425.out) hb); have n4_ := Aside0.mk (blk_below (g := gb437) (o := .cells #[.slice Ao27 t429.length co27, .int .i64 t432] 33 (0, 0)) (by (with_reducible repeat (first | refine blk_drewN ?_ _ | refine blk_drew ?_ | refine blk_alloc ?_ _)); refine blk_far ?_ NB437_438.out _; (with_reducible repeat (first | refine blk_drewN ?_ _ | refine blk_drew ?_ | refine blk_alloc ?_ _)); refine blk_far ?_ NB437_438.out _; (with_reducible repeat (first | refine blk_drewN ?_ _ | refine blk_drew ?_ | refine blk_alloc ?_ _)); refine blk_put (cs := #[.slice Ao27 t429.length co27, .int .i64 0]) ?_ 1 _ rfl; (with_reducible repeat (first | refine blk_drewN ?_ _ | refine blk_drew ?_ | refine blk_alloc ?_ _)); refine blk_put (cs := #[.slice none 0 0, .int .i64 0]) ?_ 0 _ rfl; (with_reducible repeat (first | refine blk_drewN ?_ _ | refine blk_drew ?_ | refine blk_alloc ?_ _)); exact BK437.out) hb); have n5_ := Aside0.mk (blk_below (g := gb438) (o := .cells #[.slice Ao30 t433.length co30, .int .i64 t436] 33 (0, 0)) (by (with_reducible repeat (first | refine blk_drewN ?_ _ | refine blk_drew ?_ | refine blk_alloc ?_ _)); refine blk_put (cs := #[.slice Ao30 t433.length co30, .int .i64 0]) ?_ 1 _ rfl; (with_reducible repeat (first | refine blk_drewN ?_ _ | refine blk_drew ?_ | refine blk_alloc ?_ _)); refine blk_put (cs := #[.slice none 0 0, .int .i64 0]) ?_ 0 _ rfl; (with_reducible repeat (first | refine blk_drewN ?_ _ | refine blk_drew ?_ | refine blk_alloc ?_ _)); refine blk_far ?_ NB438_437.out _; (with_reducible repeat (first | refine blk_drewN ?_ _ | refine blk_drew ?_ | refine blk_alloc ?_ _)); refine blk_far ?_ NB438_437.out _; (with_reducible repeat (first | refine blk_drewN ?_ _ | refine blk_drew ?_ | refine blk_alloc ?_ _)); exact BK438.out) hb); have n6_ := Aside0.mk (below_step (by repeat (first | (with_reducible first | exact HB.out | apply below_alloc | apply pw_below_drewN | apply below_drew1 | refine below_set ?_ GE425.out | refine below_set ?_ GE437.out | refine below_set ?_ GE438.out) | exact HB.out)) hb); clear HO431; clear HO435; clear BK425; clear BK437; clear BK438; clear HB; have HO431 := n0_; have HO435 := n1_; have HO441 := n2_; have BK425 := n3_; have BK437 := n4_; have BK438 := n5_; have HB := n6_; clear n0_ n1_ n2_ n3_ n4_ n5_ n6_; (try clear hb); (try clear hb2); (try clear hk); (try clear hi); (try clear ho0)) | ((with_reducible refine gate_dst (N := 5) rfl ?_); refine box_event ?hg (N := 5) ?hd (cs := #[.slice none 0 0, .int .i64 0]) (t := 33) ?hr ?_; (case hd => rfl); (case hg => rfl); (case hr => first | (go_simp; done) | (go_simp; rfl)); intro gb444 hg w40 hbox hb; have n0_ := Aside0.mk (Kd.R_below (by (with_reducible repeat (first | apply Kd.R_alloc | apply Kd.R_drewN | apply Kd.R_drew)); exact HO431.out) hb); have n1_ := Aside0.mk (Kd.R_below (by (with_reducible repeat (first | apply Kd.R_alloc | apply Kd.R_drewN | apply Kd.R_drew)); exact HO435.out) hb); have n2_ := Aside0.mk (Kd.R_below (by (with_reducible repeat (first | apply Kd.R_alloc | apply Kd.R_drewN | apply Kd.R_drew)); exact HO441.out) hb); have n3_ := Aside0.mk (blk_below (g := gb425) (o := .cells #[.slice A0_0 l0_0.length c0_0, .int .i64 a0_1, .slice A0_2 l0_2.length c0_2, .int .i64 a0_3, .int .i64 a0_4, .int .i64 a0_5] 48 (0, 0)) (by (with_reducible repeat (first | refine blk_drewN ?_ _ | refine blk_drew ?_ | refine blk_alloc ?_ _)); exact BK425.out) hb); have n4_ := Aside0.mk (blk_below (g := gb437) (o := .cells #[.slice Ao27 t429.length co27, .int .i64 t432] 33 (0, 0)) (by (with_reducible repeat (first | refine blk_drewN ?_ _ | refine blk_drew ?_ | refine blk_alloc ?_ _)); exact BK437.out) hb); have n5_ := Aside0.mk (blk_below (g := gb438) (o := .cells #[.slice Ao30 t433.length co30, .int .i64 t436] 33 (0, 0)) (by (with_reducible repeat (first | refine blk_drewN ?_ _ | refine blk_drew ?_ | refine blk_alloc ?_ _)); exact BK438.out) hb); have n6_ := Aside0.mk (below_step (by repeat (first | (with_reducible first | exact HB.out | apply below_alloc | apply pw_below_drewN | apply below_drew1 | refine below_set ?_ GE425.out | refine below_set ?_ GE437.out | refine below_set ?_ GE438.out) | exact HB.out)) hb); have n7_ := Aside0.mk (hbox); have n8_ := Aside0.mk ((by rw [hg]; exact (below_size (by repeat (first | (with_reducible first | exact HB.out | apply below_alloc | apply pw_below_drewN | apply below_drew1 | refine below_set ?_ GE425.out | refine below_set ?_ GE437.out | refine below_set ?_ GE438.out) | exact HB.out))) : w.heap.size ≤ gb444)); have n9_ := Aside0.mk ((by rw [hg]; exact (below_size (by repeat (first | (with_reducible first | exact HB.out | apply below_alloc | apply pw_below_drewN | apply below_drew1 | refine below_set ?_ GE425.out | refine below_set ?_ GE437.out | refine below_set ?_ GE438.out) | exact HB.out))) : w.heap.size ≤ gb444)); have n10_ := Aside0.mk ((by rw [hg]; exact Nat.ne_of_lt (blk_lt (g := gb425) (o := .cells #[.slice A0_0 l0_0.length c0_0, .int .i64 a0_1, .slice A0_2 l0_2.length c0_2, .int .i64 a0_3, .int .i64 a0_4, .int .i64 a0_5] 48 (0, 0)) (by (with_reducible repeat (first | refine blk_drewN ?_ _ | refine blk_drew ?_ | refine blk_alloc ?_ _)); exact BK425.out)) : gb425 ≠ gb444)); have n11_ := Aside0.mk ((by rw [hg]; exact Nat.ne_of_gt (blk_lt (g := gb425) (o := .cells #[.slice A0_0 l0_0.length c0_0, .int .i64 a0_1, .slice A0_2 l0_2.length c0_2, .int .i64 a0_3, .int .i64 a0_4, .int .i64 a0_5] 48 (0, 0)) (by (with_reducible repeat (first | refine blk_drewN ?_ _ | refine blk_drew ?_ | refine blk_alloc ?_ _)); exact BK425.out)) : gb444 ≠ gb425)); have n12_ := Aside0.mk ((by rw [hg]; exact Nat.ne_of_lt (blk_lt (g := gb437) (o := .cells #[.slice Ao27 t429.length co27, .int .i64 t432] 33 (0, 0)) (by (with_reducible repeat (first | refine blk_drewN ?_ _ | refine blk_drew ?_ | refine blk_alloc ?_ _)); exact BK437.out)) : gb437 ≠ gb444)); have n13_ := Aside0.mk ((by rw [hg]; exact Nat.ne_of_gt (blk_lt (g := gb437) (o := .cells #[.slice Ao27 t429.length co27, .int .i64 t432] 33 (0, 0)) (by (with_reducible repeat (first | refine blk_drewN ?_ _ | refine blk_drew ?_ | refine blk_alloc ?_ _)); exact BK437.out)) : gb444 ≠ gb437)); have n14_ := Aside0.mk ((by rw [hg]; exact Nat.ne_of_lt (blk_lt (g := gb438) (o := .cells #[.slice Ao30 t433.length co30, .int .i64 t436] 33 (0, 0)) (by (with_reducible repeat (first | refine blk_drewN ?_ _ | refine blk_drew ?_ | refine blk_alloc ?_ _)); exact BK438.out)) : gb438 ≠ gb444)); have n15_ := Aside0.mk ((by rw [hg]; exact Nat.ne_of_gt (blk_lt (g := gb438) (o := .cells #[.slice Ao30 t433.length co30, .int .i64 t436] 33 (0, 0)) (by (with_reducible repeat (first | refine blk_drewN ?_ _ | refine blk_drew ?_ | refine blk_alloc ?_ _)); exact BK438.out)) : gb444 ≠ gb438)); clear HO431; clear HO435; clear HO441; clear BK425; clear BK437; clear BK438; clear HB; have HO431 := n0_; have HO435 := n1_; have HO441 := n2_; have BK425 := n3_; have BK437 := n4_; have BK438 := n5_; have HB := n6_; have BK444 := n7_; have GW444 := n8_; have GE444 := n9_; have NB425_444 := n10_; have NB444_425 := n11_; have NB437_444 := n12_; have NB444_437 := n13_; have NB438_444 := n14_; have NB444_438 := n15_; clear n0_ n1_ n2_ n3_ n4_ n5_ n6_ n7_ n8_ n9_ n10_ n11_ n12_ n13_ n14_ n15_; clear hb hbox hg; obtain ⟨Ao41, co41, eo41⟩ := Kd.R_slice HO441.out; subst eo41; have hnb42 := NB444_425.out; have hnc42 := NB425_444.out; have hnb43 := NB444_437.out; have hnc43 := NB437_444.out; have hnb44 := NB444_438.out; have hnc44 := NB438_444.out; have hcz45_0 : w40.cell? ⟨gb444, 0, none⟩ = some (.slice none 0 0) := (blk_cell BK444.out 0).trans rfl; have hcz45_1 : w40.cell? ⟨gb444, 1, none⟩ = some (.int .i64 0) := (blk_cell BK444.out 1).trans rfl; have hfz45_0 := blk_frozen BK444.out 0; have hfz45_1 := blk_frozen BK444.out 1; have hcz46_0 : w40.cell? ⟨gb425, 0, none⟩ = some (.slice A0_0 l0_0.length c0_0) := (blk_cell BK425.out 0).trans rfl; have hcz46_1 : w40.cell? ⟨gb425, 1, none⟩ = some (.int .i64 a0_1) := (blk_cell BK425.out 1).trans rfl; have hcz46_2 : w40.cell? ⟨gb425, 2, none⟩ = some (.slice A0_2 l0_2.length c0_2) := (blk_cell BK425.out 2).trans rfl; have hcz46_3 : w40.cell? ⟨gb425, 3, none⟩ = some (.int .i64 a0_3) := (blk_cell BK425.out 3).trans rfl; have hcz46_4 : w40.cell? ⟨gb425, 4, none⟩ = some (.int .i64 a0_4) := (blk_cell BK425.out 4).trans rfl; have hcz46_5 : w40.cell? ⟨gb425, 5, none⟩ = some (.int .i64 a0_5) := (blk_cell BK425.out 5).trans rfl; have hfz46_0 := blk_frozen BK425.out 0; have hfz46_1 := blk_frozen BK425.out 1; have hfz46_2 := blk_frozen BK425.out 2; have hfz46_3 := blk_frozen BK425.out 3; have hfz46_4 := blk_frozen BK425.out 4; have hfz46_5 := blk_frozen BK425.out 5) | ((with_reducible refine gate_callee (f := 40) rfl ?_); refine goesL_ (some 44) rfl rfl Tryd.func40 (by kernel_rfl) rfl #[.agg #[.slice A0_0 l0_0.length c0_0, .int .i64 a0_1], .int .i64 a0_4, .agg #[.slice A0_2 l0_2.length c0_2, .int .i64 a0_3], .int .i64 a0_5] rfl (by (try simp only [List.map_toArray, List.map_cons, List.map_nil]); first | done | rfl | (simp only [List.length_drop, List.length_take]; rfl)) ?_; (with_reducible refine (familycheckref01_Combine.calls kj1 _ _ l0_0 a0_1 a0_4 _ _ l0_2 a0_3 a0_5 t445 t448 t449 _ ?side1 ?side2 ?side3 ?side4 A19.out).mono ?_); (case side1 => exact Kd.C_below HR0_0.out (by repeat (first | (with_reducible first | exact HB.out | apply below_alloc | apply pw_below_drewN | apply below_drew1 | refine below_set ?_ GE425.out | refine below_set ?_ GE437.out | refine below_set ?_ GE438.out | refine below_set ?_ GE444.out) | exact HB.out))); (case side2 => exact HC0_0.out); (case side3 => exact Kd.C_below HR0_2.out (by repeat (first | (with_reducible first | exact HB.out | apply below_alloc | apply pw_below_drewN | apply below_drew1 | refine below_set ?_ GE425.out | refine below_set ?_ GE437.out | refine below_set ?_ GE438.out | refine below_set ?_ GE444.out) | exact HB.out))); (case side4 => exact HC0_2.out); rintro e w47 ⟨v446, rfl, ho0, hb⟩; refine ⟨_, rfl, ?_⟩; have n0_ := Aside0.mk (Kd.R_elder' (by (with_reducible repeat (first | apply Kd.R_alloc | apply Kd.R_drewN | apply Kd.R_drew)); exact (Kd.R_mono (Kd.R_far (p := ⟨gb444, 1, none⟩) (Kd.R_far (p := ⟨gb444, 0, none⟩) (Kd.R_types HO431.out BK444.out (by decide)) (fun _ hk => hk.2) (.slice Ao41 t439.length co41)) (fun _ hk => hk.2) (.int .i64 t442)) (fun _ h_ => h_.1))) (Kd.R_base ho0) hb); have n1_ := Aside0.mk (Kd.R_elder' (by (with_reducible repeat (first | apply Kd.R_alloc | apply Kd.R_drewN | apply Kd.R_drew)); exact (Kd.R_mono (Kd.R_far (p := ⟨gb444, 1, none⟩) (Kd.R_far (p := ⟨gb444, 0, none⟩) (Kd.R_types HO435.out BK444.out (by decide)) (fun _ hk => hk.2) (.slice Ao41 t439.length co41)) (fun _ hk => hk.2) (.int .i64 t442)) (fun _ h_ => h_.1))) (Kd.R_base ho0) hb); have n2_ := Aside0.mk (Kd.R_elder' (by (with_reducible repeat (first | apply Kd.R_alloc | apply Kd.R_drewN | apply Kd.R_drew)); exact (Kd.R_mono (Kd.R_far (p := ⟨gb444, 1, none⟩) (Kd.R_far (p := ⟨gb444, 0, none⟩) (Kd.R_types HO441.out BK444.out (by decide)) (fun _ hk => hk.2) (.slice Ao41 t439.length co41)) (fun _ hk => hk.2) (.int .i64 t442)) (fun _ h_ => h_.1))) (Kd.R_base ho0) hb); have n3_ := Aside0.mk (Kd.R_lower (Kd.R_new' (Kd.R_new' (Kd.R_new' ho0 (Kd.R_lt (by (with_reducible repeat (first | apply Kd.R_alloc | apply Kd.R_drewN | apply Kd.R_drew)); exact (Kd.R_mono (Kd.R_far (p := ⟨gb444, 1, none⟩) (Kd.R_far (p := ⟨gb444, 0, none⟩) (Kd.R_types HO431.out BK444.out (by decide)) (fun _ hk => hk.2) (.slice Ao41 t439.length co41)) (fun _ hk => hk.2) (.int .i64 t442)) (fun _ h_ => h_.1))))) (Kd.R_lt (by (with_reducible repeat (first | apply Kd.R_alloc | apply Kd.R_drewN | apply Kd.R_drew)); exact (Kd.R_mono (Kd.R_far (p := ⟨gb444, 1, none⟩) (Kd.R_far (p := ⟨gb444, 0, none⟩) (Kd.R_types HO435.out BK444.out (by decide)) (fun _ hk => hk.2) (.slice Ao41 t439.length co41)) (fun _ hk => hk.2) (.int .i64 t442)) (fun _ h_ => h_.1))))) (Kd.R_lt (by (with_reducible repeat (first | apply Kd.R_alloc | apply Kd.R_drewN | apply Kd.R_drew)); exact (Kd.R_mono (Kd.R_far (p := ⟨gb444, 1, none⟩) (Kd.R_far (p := ⟨gb444, 0, none⟩) (Kd.R_types HO441.out BK444.out (by decide)) (fun _ hk => hk.2) (.slice Ao41 t439.length co41)) (fun _ hk => hk.2) (.int .i64 t442)) (fun _ h_ => h_.1))))) (below_size (by repeat (first | (with_reducible first | exact HB.out | apply below_alloc | apply pw_below_drewN | apply below_drew1 | refine below_set ?_ GE425.out | refine below_set ?_ GE437.out | refine below_set ?_ GE438.out | refine below_set ?_ GE444.out) | exact HB.out)))); have n4_ := Aside0.mk (blk_below (g := gb425) (o := .cells #[.slice A0_0 l0_0.length c0_0, .int .i64 a0_1, .slice A0_2 l0_2.length c0_2, .int .i64 a0_3, .int .i64 a0_4, .int .i64 a0_5] 48 (0, 0)) (by (with_reducible repeat (first | refine blk_drewN ?_ _ | refine blk_drew ?_ | refine blk_alloc ?_ _)); refine blk_far ?_ NB425_444.out _; (with_reducible repeat (first | refine blk_drewN ?_ _ | refine blk_drew ?_ | refine blk_alloc ?_ _)); refine blk_far ?_ NB425_444.out _; (with_reducible repeat (first | refine blk_drewN ?_ _ | refine blk_drew ?_ | refine blk_alloc ?_ _)); exact BK425.out) hb); have n5_ := Aside0.mk (blk_below (g := gb437) (o := .cells #[.slice Ao27 t429.length co27, .int .i64 t432] 33 (0, 0)) (by (with_reducible repeat (first | refine blk_drewN ?_ _ | refine blk_drew ?_ | refine blk_alloc ?_ _)); refine blk_far ?_ NB437_444.out _; (with_reducible repeat (first | refine blk_drewN ?_ _ | refine blk_drew ?_ | refine blk_alloc ?_ _)); refine blk_far ?_ NB437_444.out _; (with_reducible repeat (first | refine blk_drewN ?_ _ | refine blk_drew ?_ | refine blk_alloc ?_ _)); exact BK437.out) hb); have n6_ := Aside0.mk (blk_below (g := gb438) (o := .cells #[.slice Ao30 t433.length co30, .int .i64 t436] 33 (0, 0)) (by (with_reducible repeat (first | refine blk_drewN ?_ _ | refine blk_drew ?_ | refine blk_alloc ?_ _)); refine blk_far ?_ NB438_444.out _; (with_reducible repeat (first | refine blk_drewN ?_ _ | refine blk_drew ?_ | refine blk_alloc ?_ _)); refine blk_far ?_ NB438_444.out _; (with_reducible repeat (first | refine blk_drewN ?_ _ | refine blk_drew ?_ | refine blk_alloc ?_ _)); exact BK438.out) hb); have n7_ := Aside0.mk (blk_below (g := gb444) (o := .cells #[.slice Ao41 t439.length co41, .int .i64 t442] 33 (0, 0)) (by (with_reducible repeat (first | refine blk_drewN ?_ _ | refine blk_drew ?_ | refine blk_alloc ?_ _)); refine blk_put (cs := #[.slice Ao41 t439.length co41, .int .i64 0]) ?_ 1 _ rfl; (with_reducible repeat (first | refine blk_drewN ?_ _ | refine blk_drew ?_ | refine blk_alloc ?_ _)); refine blk_put (cs := #[.slice none 0 0, .int .i64 0]) ?_ 0 _ rfl; (with_reducible repeat (first | refine blk_drewN ?_ _ | refine blk_drew ?_ | refine blk_alloc ?_ _)); exact BK444.out) hb); have n8_ := Aside0.mk (below_step (by repeat (first | (with_reducible first | exact HB.out | apply below_alloc | apply pw_below_drewN | apply below_drew1 | refine below_set ?_ GE425.out | refine below_set ?_ GE437.out | refine below_set ?_ GE438.out | refine below_set ?_ GE444.out) | exact HB.out)) hb); clear HO431; clear HO435; clear HO441; clear BK425; clear BK437; clear BK438; clear BK444; clear HB; have HO431 := n0_; have HO435 := n1_; have HO441 := n2_; have HO447 := n3_; have BK425 := n4_; have BK437 := n5_; have BK438 := n6_; have BK444 := n7_; have HB := n8_; clear n0_ n1_ n2_ n3_ n4_ n5_ n6_ n7_ n8_; (try clear hb); (try clear hb2); (try clear hk); (try clear hi); (try clear ho0)) | ((with_reducible refine gate_dst (N := 7) rfl ?_); refine box_event ?hg (N := 7) ?hd (cs := #[.slice none 0 0, .int .i64 0]) (t := 33) ?hr ?_; (case hd => rfl); (case hg => rfl); (case hr => first | (go_simp; done) | (go_simp; rfl)); intro gb450 hg w48 hbox hb; have n0_ := Aside0.mk (Kd.R_below (by (with_reducible repeat (first | apply Kd.R_alloc | apply Kd.R_drewN | apply Kd.R_drew)); exact HO431.out) hb); have n1_ := Aside0.mk (Kd.R_below (by (with_reducible repeat (first | apply Kd.R_alloc | apply Kd.R_drewN | apply Kd.R_drew)); exact HO435.out) hb); have n2_ := Aside0.mk (Kd.R_below (by (with_reducible repeat (first | apply Kd.R_alloc | apply Kd.R_drewN | apply Kd.R_drew)); exact HO441.out) hb); have n3_ := Aside0.mk (Kd.R_below (by (with_reducible repeat (first | apply Kd.R_alloc | apply Kd.R_drewN | apply Kd.R_drew)); exact HO447.out) hb); have n4_ := Aside0.mk (blk_below (g := gb425) (o := .cells #[.slice A0_0 l0_0.length c0_0, .int .i64 a0_1, .slice A0_2 l0_2.length c0_2, .int .i64 a0_3, .int .i64 a0_4, .int .i64 a0_5] 48 (0, 0)) (by (with_reducible repeat (first | refine blk_drewN ?_ _ | refine blk_drew ?_ | refine blk_alloc ?_ _)); exact BK425.out) hb); have n5_ := Aside0.mk (blk_below (g := gb437) (o := .cells #[.slice Ao27 t429.length co27, .int .i64 t432] 33 (0, 0)) (by (with_reducible repeat (first | refine blk_drewN ?_ _ | refine blk_drew ?_ | refine blk_alloc ?_ _)); exact BK437.out) hb); have n6_ := Aside0.mk (blk_below (g := gb438) (o := .cells #[.slice Ao30 t433.length co30, .int .i64 t436] 33 (0, 0)) (by (with_reducible repeat (first | refine blk_drewN ?_ _ | refine blk_drew ?_ | refine blk_alloc ?_ _)); exact BK438.out) hb); have n7_ := Aside0.mk (blk_below (g := gb444) (o := .cells #[.slice Ao41 t439.length co41, .int .i64 t442] 33 (0, 0)) (by (with_reducible repeat (first | refine blk_drewN ?_ _ | refine blk_drew ?_ | refine blk_alloc ?_ _)); exact BK444.out) hb); have n8_ := Aside0.mk (below_step (by repeat (first | (with_reducible first | exact HB.out | apply below_alloc | apply pw_below_drewN | apply below_drew1 | refine below_set ?_ GE425.out | refine below_set ?_ GE437.out | refine below_set ?_ GE438.out | refine below_set ?_ GE444.out) | exact HB.out)) hb); have n9_ := Aside0.mk (hbox); have n10_ := Aside0.mk ((by rw [hg]; exact (below_size (by repeat (first | (with_reducible first | exact HB.out | apply below_alloc | apply pw_below_drewN | apply below_drew1 | refine below_set ?_ GE425.out | refine below_set ?_ GE437.out | refine below_set ?_ GE438.out | refine below_set ?_ GE444.out) | exact HB.out))) : w.heap.size ≤ gb450)); have n11_ := Aside0.mk ((by rw [hg]; exact (below_size (by repeat (first | (with_reducible first | exact HB.out | apply below_alloc | apply pw_below_drewN | apply below_drew1 | refine below_set ?_ GE425.out | refine below_set ?_ GE437.out | refine below_set ?_ GE438.out | refine below_set ?_ GE444.out) | exact HB.out))) : w.heap.size ≤ gb450)); have n12_ := Aside0.mk ((by rw [hg]; exact Nat.ne_of_lt (blk_lt (g := gb425) (o := .cells #[.slice A0_0 l0_0.length c0_0, .int .i64 a0_1, .slice A0_2 l0_2.length c0_2, .int .i64 a0_3, .int .i64 a0_4, .int .i64 a0_5] 48 (0, 0)) (by (with_reducible repeat (first | refine blk_drewN ?_ _ | refine blk_drew ?_ | refine blk_alloc ?_ _)); exact BK425.out)) : gb425 ≠ gb450)); have n13_ := Aside0.mk ((by rw [hg]; exact Nat.ne_of_gt (blk_lt (g := gb425) (o := .cells #[.slice A0_0 l0_0.length c0_0, .int .i64 a0_1, .slice A0_2 l0_2.length c0_2, .int .i64 a0_3, .int .i64 a0_4, .int .i64 a0_5] 48 (0, 0)) (by (with_reducible repeat (first | refine blk_drewN ?_ _ | refine blk_drew ?_ | refine blk_alloc ?_ _)); exact BK425.out)) : gb450 ≠ gb425)); have n14_ := Aside0.mk ((by rw [hg]; exact Nat.ne_of_lt (blk_lt (g := gb437) (o := .cells #[.slice Ao27 t429.length co27, .int .i64 t432] 33 (0, 0)) (by (with_reducible repeat (first | refine blk_drewN ?_ _ | refine blk_drew ?_ | refine blk_alloc ?_ _)); exact BK437.out)) : gb437 ≠ gb450)); have n15_ := Aside0.mk ((by rw [hg]; exact Nat.ne_of_gt (blk_lt (g := gb437) (o := .cells #[.slice Ao27 t429.length co27, .int .i64 t432] 33 (0, 0)) (by (with_reducible repeat (first | refine blk_drewN ?_ _ | refine blk_drew ?_ | refine blk_alloc ?_ _)); exact BK437.out)) : gb450 ≠ gb437)); have n16_ := Aside0.mk ((by rw [hg]; exact Nat.ne_of_lt (blk_lt (g := gb438) (o := .cells #[.slice Ao30 t433.length co30, .int .i64 t436] 33 (0, 0)) (by (with_reducible repeat (first | refine blk_drewN ?_ _ | refine blk_drew ?_ | refine blk_alloc ?_ _)); exact BK438.out)) : gb438 ≠ gb450)); have n17_ := Aside0.mk ((by rw [hg]; exact Nat.ne_of_gt (blk_lt (g := gb438) (o := .cells #[.slice Ao30 t433.length co30, .int .i64 t436] 33 (0, 0)) (by (with_reducible repeat (first | refine blk_drewN ?_ _ | refine blk_drew ?_ | refine blk_alloc ?_ _)); exact BK438.out)) : gb450 ≠ gb438)); have n18_ := Aside0.mk ((by rw [hg]; exact Nat.ne_of_lt (blk_lt (g := gb444) (o := .cells #[.slice Ao41 t439.length co41, .int .i64 t442] 33 (0, 0)) (by (with_reducible repeat (first | refine blk_drewN ?_ _ | refine blk_drew ?_ | refine blk_alloc ?_ _)); exact BK444.out)) : gb444 ≠ gb450)); have n19_ := Aside0.mk ((by rw [hg]; exact Nat.ne_of_gt (blk_lt (g := gb444) (o := .cells #[.slice Ao41 t439.length co41, .int .i64 t442] 33 (0, 0)) (by (with_reducible repeat (first | refine blk_drewN ?_ _ | refine blk_drew ?_ | refine blk_alloc ?_ _)); exact BK444.out)) : gb450 ≠ gb444)); clear HO431; clear HO435; clear HO441; clear HO447; clear BK425; clear BK437; clear BK438; clear BK444; clear HB; have HO431 := n0_; have HO435 := n1_; have HO441 := n2_; have HO447 := n3_; have BK425 := n4_; have BK437 := n5_; have BK438 := n6_; have BK444 := n7_; have HB := n8_; have BK450 := n9_; have GW450 := n10_; have GE450 := n11_; have NB425_450 := n12_; have NB450_425 := n13_; have NB437_450 := n14_; have NB450_437 := n15_; have NB438_450 := n16_; have NB450_438 := n17_; have NB444_450 := n18_; have NB450_444 := n19_; clear n0_ n1_ n2_ n3_ n4_ n5_ n6_ n7_ n8_ n9_ n10_ n11_ n12_ n13_ n14_ n15_ n16_ n17_ n18_ n19_; clear hb hbox hg; obtain ⟨Ao49, co49, eo49⟩ := Kd.R_slice HO447.out; subst eo49; have hnb50 := NB450_425.out; have hnc50 := NB425_450.out; have hnb51 := NB450_437.out; have hnc51 := NB437_450.out; have hnb52 := NB450_438.out; have hnc52 := NB438_450.out; have hnb53 := NB450_444.out; have hnc53 := NB444_450.out; have hcz54_0 : w48.cell? ⟨gb450, 0, none⟩ = some (.slice none 0 0) := (blk_cell BK450.out 0).trans rfl; have hcz54_1 : w48.cell? ⟨gb450, 1, none⟩ = some (.int .i64 0) := (blk_cell BK450.out 1).trans rfl; have hfz54_0 := blk_frozen BK450.out 0; have hfz54_1 := blk_frozen BK450.out 1))
        (try simp only [Act.put, List.setIfInBounds_toArray, List.set_cons_zero, List.set_cons_succ])
        go_cut [9] (fun v9 wc => ∃ (kq : Nat) (x9_19 : Bool), v9 = .bool x9_19 ∧ Aside0 (familychecklaw01_LinearCombines.j1 kq x9_19 l0_0 a0_1 l0_2 a0_3 a0_4 a0_5 t429 t432 t433 t436 t439 t442 = some r) ∧ Aside0 (kq ≤ kj1) ∧ Aside0 (Kd.R (Kd.int .i64) 3 wc w.heap.size (fun k_ => some k_ ≠ ((.slice Ao30 t433.length co30) : Value).ownBlock ∧ some k_ ≠ ((.slice Ao41 t439.length co41) : Value).ownBlock ∧ some k_ ≠ ((.slice Ao49 t445.length co49) : Value).ownBlock) (.slice Ao27 t429.length co27) t429) ∧ Aside0 (Kd.R (Kd.int .i64) 3 wc w.heap.size (fun k_ => some k_ ≠ ((.slice Ao27 t429.length co27) : Value).ownBlock ∧ some k_ ≠ ((.slice Ao41 t439.length co41) : Value).ownBlock ∧ some k_ ≠ ((.slice Ao49 t445.length co49) : Value).ownBlock) (.slice Ao30 t433.length co30) t433) ∧ Aside0 (Kd.R (Kd.int .i64) 3 wc w.heap.size (fun k_ => some k_ ≠ ((.slice Ao27 t429.length co27) : Value).ownBlock ∧ some k_ ≠ ((.slice Ao30 t433.length co30) : Value).ownBlock ∧ some k_ ≠ ((.slice Ao49 t445.length co49) : Value).ownBlock) (.slice Ao41 t439.length co41) t439) ∧ Aside0 (Kd.R (Kd.int .i64) 3 wc w.heap.size (fun k_ => some k_ ≠ ((.slice Ao27 t429.length co27) : Value).ownBlock ∧ some k_ ≠ ((.slice Ao30 t433.length co30) : Value).ownBlock ∧ some k_ ≠ ((.slice Ao41 t439.length co41) : Value).ownBlock) (.slice Ao49 t445.length co49) t445) ∧ Aside0 (wc.heap[gb425]? = some (.cells #[(.slice A0_0 l0_0.length c0_0), .int .i64 a0_1, (.slice A0_2 l0_2.length c0_2), .int .i64 a0_3, .int .i64 a0_4, .int .i64 a0_5] 48 (0, 0))) ∧ Aside0 (wc.heap[gb437]? = some (.cells #[(.slice Ao27 t429.length co27), .int .i64 t432] 33 (0, 0))) ∧ Aside0 (wc.heap[gb438]? = some (.cells #[(.slice Ao30 t433.length co30), .int .i64 t436] 33 (0, 0))) ∧ Aside0 (wc.heap[gb444]? = some (.cells #[(.slice Ao41 t439.length co41), .int .i64 t442] 33 (0, 0))) ∧ Aside0 (wc.heap[gb450]? = some (.cells #[(.slice Ao49 t445.length co49), .int .i64 t448] 33 (0, 0))) ∧ Aside0 (Below w.heap.size w wc))
        case first =>
          have H := HC20.out
          clear HC20
          by_cases c55 : t443 = t449
          · rw [if_pos c55] at H
            have c55b0 : (t443 == t449) = true := beq_iff_eq.mpr c55
            have c55b1 : (t443 != t449) = false := bne_eq_false_iff_eq.mpr c55
            clear c55
            (first | rw [c55b0] | (simp only [i64_w, i32_w]; rw [c55b0]) | skip)
            replace H := Option.bind_eq_some_iff.mp H
            obtain ⟨t451, A560, H⟩ := H
            replace H : (familychecklaw01_LinearCombines.j1 kj1 t451 l0_0 a0_1 l0_2 a0_3 a0_4 a0_5 t429 t432 t433 t436 t439 t442) = some r := H
            have A56 := Aside0.mk A560
            clear A560
            have H' := Aside0.mk H
            clear H
            have hnb57 := NB444_425.out
            have hnc57 := NB425_444.out
            have hnb58 := NB444_437.out
            have hnc58 := NB437_444.out
            have hnb59 := NB444_438.out
            have hnc59 := NB438_444.out
            have hnb60 := NB444_450.out
            have hnc60 := NB450_444.out
            have hcz61_0 : w48.cell? ⟨gb444, 0, none⟩ = some (.slice Ao41 t439.length co41) := (blk_cell BK444.out 0).trans rfl
            have hcz61_1 : w48.cell? ⟨gb444, 1, none⟩ = some (.int .i64 t442) := (blk_cell BK444.out 1).trans rfl
            have hfz61_0 := blk_frozen BK444.out 0
            have hfz61_1 := blk_frozen BK444.out 1
            have hnb62 := NB450_425.out
            have hnc62 := NB425_450.out
            have hnb63 := NB450_437.out
            have hnc63 := NB437_450.out
            have hnb64 := NB450_438.out
            have hnc64 := NB438_450.out
            have hcz65_0 : w48.cell? ⟨gb450, 0, none⟩ = some (.slice none 0 0) := (blk_cell BK450.out 0).trans rfl
            have hcz65_1 : w48.cell? ⟨gb450, 1, none⟩ = some (.int .i64 0) := (blk_cell BK450.out 1).trans rfl
            have hfz65_0 := blk_frozen BK450.out 0
            have hfz65_1 := blk_frozen BK450.out 1
            go_wp2_with (first | (go_at_call 28; (with_reducible refine (familycheckref01_SameRow.calls kj1 _ _ t439 t442 _ _ t445 t448 t451 _ ?side1 ?side2 ?side3 ?side4 A56.out).mono ?_); (case side1 => refine (Kd.R_reads' (e := 3) (base := w.heap.size) (ok := fun k_ => (((True ∧ some k_ ≠ (.slice Ao27 t429.length co27 : Value).ownBlock) ∧ some k_ ≠ (.slice Ao30 t433.length co30 : Value).ownBlock) ∧ some k_ ≠ (.slice Ao49 t445.length co49 : Value).ownBlock)) (n := t439.length) (c := co41) ?_).2.2; exact (by (with_reducible repeat (first | apply Kd.R_alloc | apply Kd.R_drewN | apply Kd.R_drew)); exact (Kd.R_mono (Kd.R_far (p := ⟨gb450, 1, none⟩) (Kd.R_far (p := ⟨gb450, 0, none⟩) (Kd.R_types HO441.out BK450.out (by decide)) (fun _ hk => hk.2) (.slice Ao49 t445.length co49)) (fun _ hk => hk.2) (.int .i64 t448)) (fun _ h_ => h_.1)))); (case side2 => exact (Kd.R_reads' HO441.out).2.1); (case side3 => refine (Kd.R_reads' (e := 3) (base := w.heap.size) (ok := fun k_ => (((True ∧ some k_ ≠ (.slice Ao27 t429.length co27 : Value).ownBlock) ∧ some k_ ≠ (.slice Ao30 t433.length co30 : Value).ownBlock) ∧ some k_ ≠ (.slice Ao41 t439.length co41 : Value).ownBlock)) (n := t445.length) (c := co49) ?_).2.2; exact (by (with_reducible repeat (first | apply Kd.R_alloc | apply Kd.R_drewN | apply Kd.R_drew)); exact (Kd.R_mono (Kd.R_far (p := ⟨gb450, 1, none⟩) (Kd.R_far (p := ⟨gb450, 0, none⟩) (Kd.R_types HO447.out BK450.out (by decide)) (fun _ hk => hk.2) (.slice Ao49 t445.length co49)) (fun _ hk => hk.2) (.int .i64 t448)) (fun _ h_ => h_.1)))); (case side4 => exact (Kd.R_reads' HO447.out).2.1); rintro e w66 ⟨rfl, hb⟩; have n0_ := Aside0.mk (Kd.R_below (by (with_reducible repeat (first | apply Kd.R_alloc | apply Kd.R_drewN | apply Kd.R_drew)); exact (Kd.R_mono (Kd.R_far (p := ⟨gb450, 1, none⟩) (Kd.R_far (p := ⟨gb450, 0, none⟩) (Kd.R_types HO431.out BK450.out (by decide)) (fun _ hk => hk.2) (.slice Ao49 t445.length co49)) (fun _ hk => hk.2) (.int .i64 t448)) (fun _ h_ => h_.1))) hb); have n1_ := Aside0.mk (Kd.R_below (by (with_reducible repeat (first | apply Kd.R_alloc | apply Kd.R_drewN | apply Kd.R_drew)); exact (Kd.R_mono (Kd.R_far (p := ⟨gb450, 1, none⟩) (Kd.R_far (p := ⟨gb450, 0, none⟩) (Kd.R_types HO435.out BK450.out (by decide)) (fun _ hk => hk.2) (.slice Ao49 t445.length co49)) (fun _ hk => hk.2) (.int .i64 t448)) (fun _ h_ => h_.1))) hb); have n2_ := Aside0.mk (Kd.R_below (by (with_reducible repeat (first | apply Kd.R_alloc | apply Kd.R_drewN | apply Kd.R_drew)); exact (Kd.R_mono (Kd.R_far (p := ⟨gb450, 1, none⟩) (Kd.R_far (p := ⟨gb450, 0, none⟩) (Kd.R_types HO441.out BK450.out (by decide)) (fun _ hk => hk.2) (.slice Ao49 t445.length co49)) (fun _ hk => hk.2) (.int .i64 t448)) (fun _ h_ => h_.1))) hb); have n3_ := Aside0.mk (Kd.R_below (by (with_reducible repeat (first | apply Kd.R_alloc | apply Kd.R_drewN | apply Kd.R_drew)); exact (Kd.R_mono (Kd.R_far (p := ⟨gb450, 1, none⟩) (Kd.R_far (p := ⟨gb450, 0, none⟩) (Kd.R_types HO447.out BK450.out (by decide)) (fun _ hk => hk.2) (.slice Ao49 t445.length co49)) (fun _ hk => hk.2) (.int .i64 t448)) (fun _ h_ => h_.1))) hb); have n4_ := Aside0.mk (blk_below (g := gb425) (o := .cells #[.slice A0_0 l0_0.length c0_0, .int .i64 a0_1, .slice A0_2 l0_2.length c0_2, .int .i64 a0_3, .int .i64 a0_4, .int .i64 a0_5] 48 (0, 0)) (by (with_reducible repeat (first | refine blk_drewN ?_ _ | refine blk_drew ?_ | refine blk_alloc ?_ _)); refine blk_far ?_ NB425_450.out _; (with_reducible repeat (first | refine blk_drewN ?_ _ | refine blk_drew ?_ | refine blk_alloc ?_ _)); refine blk_far ?_ NB425_450.out _; (with_reducible repeat (first | refine blk_drewN ?_ _ | refine blk_drew ?_ | refine blk_alloc ?_ _)); exact BK425.out) hb); have n5_ := Aside0.mk (blk_below (g := gb437) (o := .cells #[.slice Ao27 t429.length co27, .int .i64 t432] 33 (0, 0)) (by (with_reducible repeat (first | refine blk_drewN ?_ _ | refine blk_drew ?_ | refine blk_alloc ?_ _)); refine blk_far ?_ NB437_450.out _; (with_reducible repeat (first | refine blk_drewN ?_ _ | refine blk_drew ?_ | refine blk_alloc ?_ _)); refine blk_far ?_ NB437_450.out _; (with_reducible repeat (first | refine blk_drewN ?_ _ | refine blk_drew ?_ | refine blk_alloc ?_ _)); exact BK437.out) hb); have n6_ := Aside0.mk (blk_below (g := gb438) (o := .cells #[.slice Ao30 t433.length co30, .int .i64 t436] 33 (0, 0)) (by (with_reducible repeat (first | refine blk_drewN ?_ _ | refine blk_drew ?_ | refine blk_alloc ?_ _)); refine blk_far ?_ NB438_450.out _; (with_reducible repeat (first | refine blk_drewN ?_ _ | refine blk_drew ?_ | refine blk_alloc ?_ _)); refine blk_far ?_ NB438_450.out _; (with_reducible repeat (first | refine blk_drewN ?_ _ | refine blk_drew ?_ | refine blk_alloc ?_ _)); exact BK438.out) hb); have n7_ := Aside0.mk (blk_below (g := gb444) (o := .cells #[.slice Ao41 t439.length co41, .int .i64 t442] 33 (0, 0)) (by (with_reducible repeat (first | refine blk_drewN ?_ _ | refine blk_drew ?_ | refine blk_alloc ?_ _)); refine blk_far ?_ NB444_450.out _; (with_reducible repeat (first | refine blk_drewN ?_ _ | refine blk_drew ?_ | refine blk_alloc ?_ _)); refine blk_far ?_ NB444_450.out _; (with_reducible repeat (first | refine blk_drewN ?_ _ | refine blk_drew ?_ | refine blk_alloc ?_ _)); exact BK444.out) hb); have n8_ := Aside0.mk (blk_below (g := gb450) (o := .cells #[.slice Ao49 t445.length co49, .int .i64 t448] 33 (0, 0)) (by (with_reducible repeat (first | refine blk_drewN ?_ _ | refine blk_drew ?_ | refine blk_alloc ?_ _)); refine blk_put (cs := #[.slice Ao49 t445.length co49, .int .i64 0]) ?_ 1 _ rfl; (with_reducible repeat (first | refine blk_drewN ?_ _ | refine blk_drew ?_ | refine blk_alloc ?_ _)); refine blk_put (cs := #[.slice none 0 0, .int .i64 0]) ?_ 0 _ rfl; (with_reducible repeat (first | refine blk_drewN ?_ _ | refine blk_drew ?_ | refine blk_alloc ?_ _)); exact BK450.out) hb); have n9_ := Aside0.mk (below_step (by repeat (first | (with_reducible first | exact HB.out | apply below_alloc | apply pw_below_drewN | apply below_drew1 | refine below_set ?_ GE425.out | refine below_set ?_ GE437.out | refine below_set ?_ GE438.out | refine below_set ?_ GE444.out | refine below_set ?_ GE450.out) | exact HB.out)) hb); clear HO431; clear HO435; clear HO441; clear HO447; clear BK425; clear BK437; clear BK438; clear BK444; clear BK450; clear HB; have HO431 := n0_; have HO435 := n1_; have HO441 := n2_; have HO447 := n3_; have BK425 := n4_; have BK437 := n5_; have BK438 := n6_; have BK444 := n7_; have BK450 := n8_; have HB := n9_; clear n0_ n1_ n2_ n3_ n4_ n5_ n6_ n7_ n8_ n9_; (try clear hb); (try clear hb2); (try clear hk); (try clear hi)))
            go_meet
            case rel => exact ⟨_, (t451), (by first | rfl | (simp; done) | (simp [*]; done)), H', ⟨by have := HJ1.out; first | omega | exact Nat.le_refl _⟩, ⟨by (with_reducible repeat (first | apply Kd.R_alloc | apply Kd.R_drewN | apply Kd.R_drew)); exact Kd.R_mono HO431.out (fun _ hk => ⟨hk.1.1, ⟨hk.1.2, hk.2⟩⟩)⟩, ⟨by (with_reducible repeat (first | apply Kd.R_alloc | apply Kd.R_drewN | apply Kd.R_drew)); exact Kd.R_mono HO435.out (fun _ hk => ⟨hk.1.1, ⟨hk.1.2, hk.2⟩⟩)⟩, ⟨by (with_reducible repeat (first | apply Kd.R_alloc | apply Kd.R_drewN | apply Kd.R_drew)); exact Kd.R_mono HO441.out (fun _ hk => ⟨hk.1.1.2, ⟨hk.1.2, hk.2⟩⟩)⟩, ⟨by (with_reducible repeat (first | apply Kd.R_alloc | apply Kd.R_drewN | apply Kd.R_drew)); exact Kd.R_mono HO447.out (fun _ hk => ⟨hk.1.1.2, ⟨hk.1.2, hk.2⟩⟩)⟩, ⟨by (with_reducible repeat (first | refine blk_drewN ?_ _ | refine blk_drew ?_ | refine blk_alloc ?_ _)); exact BK425.out⟩, ⟨by (with_reducible repeat (first | refine blk_drewN ?_ _ | refine blk_drew ?_ | refine blk_alloc ?_ _)); exact BK437.out⟩, ⟨by (with_reducible repeat (first | refine blk_drewN ?_ _ | refine blk_drew ?_ | refine blk_alloc ?_ _)); exact BK438.out⟩, ⟨by (with_reducible repeat (first | refine blk_drewN ?_ _ | refine blk_drew ?_ | refine blk_alloc ?_ _)); exact BK444.out⟩, ⟨by (with_reducible repeat (first | refine blk_drewN ?_ _ | refine blk_drew ?_ | refine blk_alloc ?_ _)); exact BK450.out⟩, ⟨by repeat (first | (with_reducible first | exact HB.out | apply below_alloc | apply pw_below_drewN | apply below_drew1 | refine below_set ?_ GE425.out | refine below_set ?_ GE437.out | refine below_set ?_ GE438.out | refine below_set ?_ GE444.out | refine below_set ?_ GE450.out) | exact HB.out)⟩⟩
          · rw [if_neg c55] at H
            have c55b0 : (t443 == t449) = false := beq_eq_false_iff_ne.mpr c55
            have c55b1 : (t443 != t449) = true := bne_iff_ne.mpr c55
            (first | rw [c55b0] | (simp only [i64_w, i32_w]; rw [c55b0]) | skip)
            have H' := Aside0.mk H
            clear H
            go_wp2
            go_meet
            case rel => exact ⟨_, (false), (by first | rfl | (simp; done) | (simp [*]; done)), H', ⟨by have := HJ1.out; first | omega | exact Nat.le_refl _⟩, ⟨by (with_reducible repeat (first | apply Kd.R_alloc | apply Kd.R_drewN | apply Kd.R_drew)); exact Kd.R_mono (Kd.R_far (p := ⟨gb450, 1, none⟩) (Kd.R_far (p := ⟨gb450, 0, none⟩) (Kd.R_types HO431.out BK450.out (by decide)) (fun _ hk => hk.2) (.slice Ao49 t445.length co49)) (fun _ hk => hk.2) (.int .i64 t448)) (fun _ hk => ⟨hk.1.1.1, ⟨hk.1.1.2, hk.1.2⟩⟩)⟩, ⟨by (with_reducible repeat (first | apply Kd.R_alloc | apply Kd.R_drewN | apply Kd.R_drew)); exact Kd.R_mono (Kd.R_far (p := ⟨gb450, 1, none⟩) (Kd.R_far (p := ⟨gb450, 0, none⟩) (Kd.R_types HO435.out BK450.out (by decide)) (fun _ hk => hk.2) (.slice Ao49 t445.length co49)) (fun _ hk => hk.2) (.int .i64 t448)) (fun _ hk => ⟨hk.1.1.1, ⟨hk.1.1.2, hk.1.2⟩⟩)⟩, ⟨by (with_reducible repeat (first | apply Kd.R_alloc | apply Kd.R_drewN | apply Kd.R_drew)); exact Kd.R_mono (Kd.R_far (p := ⟨gb450, 1, none⟩) (Kd.R_far (p := ⟨gb450, 0, none⟩) (Kd.R_types HO441.out BK450.out (by decide)) (fun _ hk => hk.2) (.slice Ao49 t445.length co49)) (fun _ hk => hk.2) (.int .i64 t448)) (fun _ hk => ⟨hk.1.1.1.2, ⟨hk.1.1.2, hk.1.2⟩⟩)⟩, ⟨by (with_reducible repeat (first | apply Kd.R_alloc | apply Kd.R_drewN | apply Kd.R_drew)); exact Kd.R_mono (Kd.R_far (p := ⟨gb450, 1, none⟩) (Kd.R_far (p := ⟨gb450, 0, none⟩) (Kd.R_types HO447.out BK450.out (by decide)) (fun _ hk => hk.2) (.slice Ao49 t445.length co49)) (fun _ hk => hk.2) (.int .i64 t448)) (fun _ hk => ⟨hk.1.1.1.2, ⟨hk.1.1.2, hk.1.2⟩⟩)⟩, ⟨by (with_reducible repeat (first | refine blk_drewN ?_ _ | refine blk_drew ?_ | refine blk_alloc ?_ _)); refine blk_far ?_ NB425_450.out _; (with_reducible repeat (first | refine blk_drewN ?_ _ | refine blk_drew ?_ | refine blk_alloc ?_ _)); refine blk_far ?_ NB425_450.out _; (with_reducible repeat (first | refine blk_drewN ?_ _ | refine blk_drew ?_ | refine blk_alloc ?_ _)); exact BK425.out⟩, ⟨by (with_reducible repeat (first | refine blk_drewN ?_ _ | refine blk_drew ?_ | refine blk_alloc ?_ _)); refine blk_far ?_ NB437_450.out _; (with_reducible repeat (first | refine blk_drewN ?_ _ | refine blk_drew ?_ | refine blk_alloc ?_ _)); refine blk_far ?_ NB437_450.out _; (with_reducible repeat (first | refine blk_drewN ?_ _ | refine blk_drew ?_ | refine blk_alloc ?_ _)); exact BK437.out⟩, ⟨by (with_reducible repeat (first | refine blk_drewN ?_ _ | refine blk_drew ?_ | refine blk_alloc ?_ _)); refine blk_far ?_ NB438_450.out _; (with_reducible repeat (first | refine blk_drewN ?_ _ | refine blk_drew ?_ | refine blk_alloc ?_ _)); refine blk_far ?_ NB438_450.out _; (with_reducible repeat (first | refine blk_drewN ?_ _ | refine blk_drew ?_ | refine blk_alloc ?_ _)); exact BK438.out⟩, ⟨by (with_reducible repeat (first | refine blk_drewN ?_ _ | refine blk_drew ?_ | refine blk_alloc ?_ _)); refine blk_far ?_ NB444_450.out _; (with_reducible repeat (first | refine blk_drewN ?_ _ | refine blk_drew ?_ | refine blk_alloc ?_ _)); refine blk_far ?_ NB444_450.out _; (with_reducible repeat (first | refine blk_drewN ?_ _ | refine blk_drew ?_ | refine blk_alloc ?_ _)); exact BK444.out⟩, ⟨by (with_reducible repeat (first | refine blk_drewN ?_ _ | refine blk_drew ?_ | refine blk_alloc ?_ _)); refine blk_put (cs := #[.slice Ao49 t445.length co49, .int .i64 0]) ?_ 1 _ rfl; (with_reducible repeat (first | refine blk_drewN ?_ _ | refine blk_drew ?_ | refine blk_alloc ?_ _)); refine blk_put (cs := #[.slice none 0 0, .int .i64 0]) ?_ 0 _ rfl; (with_reducible repeat (first | refine blk_drewN ?_ _ | refine blk_drew ?_ | refine blk_alloc ?_ _)); exact BK450.out⟩, ⟨by repeat (first | (with_reducible first | exact HB.out | apply below_alloc | apply pw_below_drewN | apply below_drew1 | refine below_set ?_ GE425.out | refine below_set ?_ GE437.out | refine below_set ?_ GE438.out | refine below_set ?_ GE444.out | refine below_set ?_ GE450.out) | exact HB.out)⟩⟩
        case rest =>
          clear HC20
          try clear c2
          try clear p2
          try clear c3
          try clear c4
          try clear c5
          try clear c6
          try clear c26
          try clear c33
          try clear c34
          try clear c36
          try clear c39
          try clear c40
          try clear c42
          try clear c43
          try clear c44
          try clear c50
          try clear c51
          try clear c52
          try clear c53
          try clear c55
          try clear c55b0
          try clear c55b1
          try clear c57
          try clear c58
          try clear c59
          try clear c60
          try clear c62
          try clear c63
          try clear c64
          try clear hcz35_0
          try clear hcz35_1
          try clear hcz37_0
          try clear hcz37_1
          try clear hcz37_2
          try clear hcz37_3
          try clear hcz37_4
          try clear hcz37_5
          try clear hcz38_0
          try clear hcz38_1
          try clear hcz45_0
          try clear hcz45_1
          try clear hcz46_0
          try clear hcz46_1
          try clear hcz46_2
          try clear hcz46_3
          try clear hcz46_4
          try clear hcz46_5
          try clear hcz54_0
          try clear hcz54_1
          try clear hcz61_0
          try clear hcz61_1
          try clear hcz65_0
          try clear hcz65_1
          try clear hfz35_0
          try clear hfz35_1
          try clear hfz37_0
          try clear hfz37_1
          try clear hfz37_2
          try clear hfz37_3
          try clear hfz37_4
          try clear hfz37_5
          try clear hfz38_0
          try clear hfz38_1
          try clear hfz45_0
          try clear hfz45_1
          try clear hfz46_0
          try clear hfz46_1
          try clear hfz46_2
          try clear hfz46_3
          try clear hfz46_4
          try clear hfz46_5
          try clear hfz54_0
          try clear hfz54_1
          try clear hfz61_0
          try clear hfz61_1
          try clear hfz65_0
          try clear hfz65_1
          obtain ⟨kq, x9_19, rfl, HA, HJ19, HO_438000, HO_439000, HO_445000, HO_451000, BK425, BK437, BK438, BK444, BK450, HB⟩ := hcut
          cases kq with
          | zero => exact absurd HA.out (by simp [familychecklaw01_LinearCombines.j1])
          | succ kj19 =>
            have H := HA.out
            clear HA
            simp only [familychecklaw01_LinearCombines.j1] at H
            replace H := Option.bind_eq_some_iff.mp H
            obtain ⟨t452, A670, H⟩ := H
            replace H : (if x9_19 = true then ((familycheckref01_SameRow.f kj19 t429 t432 l0_0 a0_1).bind fun t453 => (if t453 = true then ((familycheckref01_SameRow.f kj19 t433 t436 l0_2 a0_3).bind fun t454 => (if t454 = true then ((familychecklaw01_known.f kj19).bind fun t455 => (some t455)) else (some false))) else (some false))) else (some false)) = some r := H
            have A67 := Aside0.mk A670
            clear A670
            by_cases c68 : x9_19 = true
            · subst c68
              have H1 : ((familycheckref01_SameRow.f kj19 t429 t432 l0_0 a0_1).bind fun t453 => (if t453 = true then ((familycheckref01_SameRow.f kj19 t433 t436 l0_2 a0_3).bind fun t454 => (if t454 = true then ((familychecklaw01_known.f kj19).bind fun t455 => (some t455)) else (some false))) else (some false))) = some r := by rw [if_pos rfl] at H; exact H
              clear H
              have H := H1
              clear H1
              replace H := Option.bind_eq_some_iff.mp H
              obtain ⟨t453, A690, H⟩ := H
              replace H : (if t453 = true then ((familycheckref01_SameRow.f kj19 t433 t436 l0_2 a0_3).bind fun t454 => (if t454 = true then ((familychecklaw01_known.f kj19).bind fun t455 => (some t455)) else (some false))) else (some false)) = some r := H
              have A69 := Aside0.mk A690
              clear A690
              by_cases c70 : t453 = true
              · subst c70
                have H1 : ((familycheckref01_SameRow.f kj19 t433 t436 l0_2 a0_3).bind fun t454 => (if t454 = true then ((familychecklaw01_known.f kj19).bind fun t455 => (some t455)) else (some false))) = some r := by rw [if_pos rfl] at H; exact H
                clear H
                have H := H1
                clear H1
                replace H := Option.bind_eq_some_iff.mp H
                obtain ⟨t454, A710, H⟩ := H
                replace H : (if t454 = true then ((familychecklaw01_known.f kj19).bind fun t455 => (some t455)) else (some false)) = some r := H
                have A71 := Aside0.mk A710
                clear A710
                by_cases c72 : t454 = true
                · subst c72
                  have H1 : ((familychecklaw01_known.f kj19).bind fun t455 => (some t455)) = some r := by rw [if_pos rfl] at H; exact H
                  clear H
                  have H := H1
                  clear H1
                  replace H := Option.bind_eq_some_iff.mp H
                  obtain ⟨t455, A730, H⟩ := H
                  replace H : (some t455) = some r := H
                  have A73 := Aside0.mk A730
                  clear A730
                  obtain rfl := Option.some.inj H
                  have hnb74 := NB444_425.out
                  have hnc74 := NB425_444.out
                  have hnb75 := NB444_437.out
                  have hnc75 := NB437_444.out
                  have hnb76 := NB444_438.out
                  have hnc76 := NB438_444.out
                  have hnb77 := NB444_450.out
                  have hnc77 := NB450_444.out
                  have hcz78_0 : wc.cell? ⟨gb444, 0, none⟩ = some (.slice Ao41 t439.length co41) := (blk_cell BK444.out 0).trans rfl
                  have hcz78_1 : wc.cell? ⟨gb444, 1, none⟩ = some (.int .i64 t442) := (blk_cell BK444.out 1).trans rfl
                  have hfz78_0 := blk_frozen BK444.out 0
                  have hfz78_1 := blk_frozen BK444.out 1
                  go_wp2_with (first | ((with_reducible refine gate_callee (f := 30) rfl ?_); refine goesL_ (some 57) rfl rfl Tryd.func30 (by kernel_rfl) rfl #[.slice Ao41 t439.length co41] rfl (by (try simp only [List.map_toArray, List.map_cons, List.map_nil]); first | done | rfl | (simp only [List.length_drop, List.length_take]; rfl)) ?_; (with_reducible refine (familychecklaw01_spoil.calls kj19 (fun k_ => some k_ = (.slice Ao41 t439.length co41 : Value).ownBlock) (.slice Ao41 t439.length co41) t439 t452 w _ ?side1 ?side2 A67.out).mono ?_); (case side1 => repeat (first | (with_reducible first | exact HB.out | apply below_alloc | apply pw_below_drewN | apply below_drew1 | refine below_set ?_ GE425.out | refine below_set ?_ GE437.out | refine below_set ?_ GE438.out | refine below_set ?_ GE444.out | refine below_set ?_ GE450.out) | exact HB.out)); (case side2 => exact Kd.R_tight rfl HO_445000.out); rintro e w79 ⟨rfl, hy0, hb, hkp⟩; refine ⟨_, rfl, ?_⟩; have n0_ := Aside0.mk (Kd.R_mono (ok' := fun k_ => some k_ ≠ (.slice Ao30 t433.length co30 : Value).ownBlock ∧ some k_ ≠ (.slice Ao41 t439.length co41 : Value).ownBlock ∧ some k_ ≠ (.slice Ao49 t445.length co49 : Value).ownBlock) (Kd.R_keptB (HO_438000.out) hkp (fun k_ hk_ hs_ => (hk_.2.1) hs_)) (fun k_ hk_ => ⟨hk_.1.1, hk_.1.2.1, hk_.1.2.2⟩)); have n1_ := Aside0.mk (Kd.R_mono (ok' := fun k_ => some k_ ≠ (.slice Ao27 t429.length co27 : Value).ownBlock ∧ some k_ ≠ (.slice Ao41 t439.length co41 : Value).ownBlock ∧ some k_ ≠ (.slice Ao49 t445.length co49 : Value).ownBlock) (Kd.R_keptB (HO_439000.out) hkp (fun k_ hk_ hs_ => (hk_.2.1) hs_)) (fun k_ hk_ => ⟨hk_.1.1, hk_.1.2.1, hk_.1.2.2⟩)); have n2_ := Aside0.mk (Kd.R_reok rfl hy0 (fun k_ e_ => HO_445000.out.1 k_ e_)); have n3_ := Aside0.mk (Kd.R_mono (ok' := fun k_ => some k_ ≠ (.slice Ao27 t429.length co27 : Value).ownBlock ∧ some k_ ≠ (.slice Ao30 t433.length co30 : Value).ownBlock ∧ some k_ ≠ (.slice Ao41 t439.length co41 : Value).ownBlock) (Kd.R_keptB (HO_451000.out) hkp (fun k_ hk_ hs_ => (hk_.2.2) hs_)) (fun k_ hk_ => ⟨hk_.1.1, hk_.1.2.1, hk_.1.2.2⟩)); have n4_ := Aside0.mk (blk_kept (by (with_reducible repeat (first | refine blk_drewN ?_ _ | refine blk_drew ?_ | refine blk_alloc ?_ _)); exact BK425.out) hkp (fun hs_ => (fun e_ => (Kd.R_ne HO_445000.out BK425.out (by decide)) e_) hs_)); have n5_ := Aside0.mk (blk_kept (by (with_reducible repeat (first | refine blk_drewN ?_ _ | refine blk_drew ?_ | refine blk_alloc ?_ _)); exact BK437.out) hkp (fun hs_ => (fun e_ => (Kd.R_ne HO_445000.out BK437.out (by decide)) e_) hs_)); have n6_ := Aside0.mk (blk_kept (by (with_reducible repeat (first | refine blk_drewN ?_ _ | refine blk_drew ?_ | refine blk_alloc ?_ _)); exact BK438.out) hkp (fun hs_ => (fun e_ => (Kd.R_ne HO_445000.out BK438.out (by decide)) e_) hs_)); have n7_ := Aside0.mk (blk_kept (by (with_reducible repeat (first | refine blk_drewN ?_ _ | refine blk_drew ?_ | refine blk_alloc ?_ _)); exact BK444.out) hkp (fun hs_ => (fun e_ => (Kd.R_ne HO_445000.out BK444.out (by decide)) e_) hs_)); have n8_ := Aside0.mk (blk_kept (by (with_reducible repeat (first | refine blk_drewN ?_ _ | refine blk_drew ?_ | refine blk_alloc ?_ _)); exact BK450.out) hkp (fun hs_ => (fun e_ => (Kd.R_ne HO_445000.out BK450.out (by decide)) e_) hs_)); have n9_ := Aside0.mk (hb); clear HO_438000; clear HO_439000; clear HO_445000; clear HO_451000; clear BK425; clear BK437; clear BK438; clear BK444; clear BK450; clear HB; have HO_438000 := n0_; have HO_439000 := n1_; have HO_445000 := n2_; have HO_451000 := n3_; have BK425 := n4_; have BK437 := n5_; have BK438 := n6_; have BK444 := n7_; have BK450 := n8_; have HB := n9_; clear n0_ n1_ n2_ n3_ n4_ n5_ n6_ n7_ n8_ n9_; (try clear hb); (try clear hkp); (try clear hy0); have hnb80 := NB437_425.out; have hnc80 := NB425_437.out; have hnb81 := NB437_438.out; have hnc81 := NB438_437.out; have hnb82 := NB437_450.out; have hnc82 := NB450_437.out; have hcz83_0 : w79.cell? ⟨gb437, 0, none⟩ = some (.slice Ao27 t429.length co27) := (blk_cell BK437.out 0).trans rfl; have hcz83_1 : w79.cell? ⟨gb437, 1, none⟩ = some (.int .i64 t432) := (blk_cell BK437.out 1).trans rfl; have hfz83_0 := blk_frozen BK437.out 0; have hfz83_1 := blk_frozen BK437.out 1; have hnb84 := NB425_438.out; have hnc84 := NB438_425.out; have hnb85 := NB425_450.out; have hnc85 := NB450_425.out; have hcz86_0 : w79.cell? ⟨gb425, 0, none⟩ = some (.slice A0_0 l0_0.length c0_0) := (blk_cell BK425.out 0).trans rfl; have hcz86_1 : w79.cell? ⟨gb425, 1, none⟩ = some (.int .i64 a0_1) := (blk_cell BK425.out 1).trans rfl; have hcz86_2 : w79.cell? ⟨gb425, 2, none⟩ = some (.slice A0_2 l0_2.length c0_2) := (blk_cell BK425.out 2).trans rfl; have hcz86_3 : w79.cell? ⟨gb425, 3, none⟩ = some (.int .i64 a0_3) := (blk_cell BK425.out 3).trans rfl; have hcz86_4 : w79.cell? ⟨gb425, 4, none⟩ = some (.int .i64 a0_4) := (blk_cell BK425.out 4).trans rfl; have hcz86_5 : w79.cell? ⟨gb425, 5, none⟩ = some (.int .i64 a0_5) := (blk_cell BK425.out 5).trans rfl; have hfz86_0 := blk_frozen BK425.out 0; have hfz86_1 := blk_frozen BK425.out 1; have hfz86_2 := blk_frozen BK425.out 2; have hfz86_3 := blk_frozen BK425.out 3; have hfz86_4 := blk_frozen BK425.out 4; have hfz86_5 := blk_frozen BK425.out 5) | (go_at_call 28; (with_reducible refine (familycheckref01_SameRow.calls kj19 _ _ t429 t432 _ _ l0_0 a0_1 true _ ?side1 ?side2 ?side3 ?side4 A69.out).mono ?_); (case side1 => repeat (first | exact (Kd.R_reads' HO_438000.out).2.2 | (with_reducible refine Kd.C_alloc ?_ _) | (with_reducible refine Kd.C_drewN ?_ _) | (with_reducible refine Kd.C_drew ?_))); (case side2 => exact (Kd.R_reads' HO_438000.out).2.1); (case side3 => repeat (first | exact (Kd.C_below HR0_0.out HB.out) | (with_reducible refine Kd.C_alloc ?_ _) | (with_reducible refine Kd.C_drewN ?_ _) | (with_reducible refine Kd.C_drew ?_))); (case side4 => exact HC0_0.out); rintro e w87 ⟨rfl, hb⟩; have n0_ := Aside0.mk (Kd.R_below (by (with_reducible repeat (first | apply Kd.R_alloc | apply Kd.R_drewN | apply Kd.R_drew)); exact HO_438000.out) hb); have n1_ := Aside0.mk (Kd.R_below (by (with_reducible repeat (first | apply Kd.R_alloc | apply Kd.R_drewN | apply Kd.R_drew)); exact HO_439000.out) hb); have n2_ := Aside0.mk (Kd.R_below (by (with_reducible repeat (first | apply Kd.R_alloc | apply Kd.R_drewN | apply Kd.R_drew)); exact HO_445000.out) hb); have n3_ := Aside0.mk (Kd.R_below (by (with_reducible repeat (first | apply Kd.R_alloc | apply Kd.R_drewN | apply Kd.R_drew)); exact HO_451000.out) hb); have n4_ := Aside0.mk (blk_below (g := gb425) (o := .cells #[.slice A0_0 l0_0.length c0_0, .int .i64 a0_1, .slice A0_2 l0_2.length c0_2, .int .i64 a0_3, .int .i64 a0_4, .int .i64 a0_5] 48 (0, 0)) (by (with_reducible repeat (first | refine blk_drewN ?_ _ | refine blk_drew ?_ | refine blk_alloc ?_ _)); exact BK425.out) hb); have n5_ := Aside0.mk (blk_below (g := gb437) (o := .cells #[.slice Ao27 t429.length co27, .int .i64 t432] 33 (0, 0)) (by (with_reducible repeat (first | refine blk_drewN ?_ _ | refine blk_drew ?_ | refine blk_alloc ?_ _)); exact BK437.out) hb); have n6_ := Aside0.mk (blk_below (g := gb438) (o := .cells #[.slice Ao30 t433.length co30, .int .i64 t436] 33 (0, 0)) (by (with_reducible repeat (first | refine blk_drewN ?_ _ | refine blk_drew ?_ | refine blk_alloc ?_ _)); exact BK438.out) hb); have n7_ := Aside0.mk (blk_below (g := gb444) (o := .cells #[.slice Ao41 t439.length co41, .int .i64 t442] 33 (0, 0)) (by (with_reducible repeat (first | refine blk_drewN ?_ _ | refine blk_drew ?_ | refine blk_alloc ?_ _)); exact BK444.out) hb); have n8_ := Aside0.mk (blk_below (g := gb450) (o := .cells #[.slice Ao49 t445.length co49, .int .i64 t448] 33 (0, 0)) (by (with_reducible repeat (first | refine blk_drewN ?_ _ | refine blk_drew ?_ | refine blk_alloc ?_ _)); exact BK450.out) hb); have n9_ := Aside0.mk (below_step (by repeat (first | (with_reducible first | exact HB.out | apply below_alloc | apply pw_below_drewN | apply below_drew1 | refine below_set ?_ GE425.out | refine below_set ?_ GE437.out | refine below_set ?_ GE438.out | refine below_set ?_ GE444.out | refine below_set ?_ GE450.out) | exact HB.out)) hb); clear HO_438000; clear HO_439000; clear HO_445000; clear HO_451000; clear BK425; clear BK437; clear BK438; clear BK444; clear BK450; clear HB; have HO_438000 := n0_; have HO_439000 := n1_; have HO_445000 := n2_; have HO_451000 := n3_; have BK425 := n4_; have BK437 := n5_; have BK438 := n6_; have BK444 := n7_; have BK450 := n8_; have HB := n9_; clear n0_ n1_ n2_ n3_ n4_ n5_ n6_ n7_ n8_ n9_; (try clear hb); (try clear hb2); (try clear hk); (try clear hi); have hnb88 := NB438_450.out; have hnc88 := NB450_438.out; have hcz89_0 : w87.cell? ⟨gb438, 0, none⟩ = some (.slice Ao30 t433.length co30) := (blk_cell BK438.out 0).trans rfl; have hcz89_1 : w87.cell? ⟨gb438, 1, none⟩ = some (.int .i64 t436) := (blk_cell BK438.out 1).trans rfl; have hfz89_0 := blk_frozen BK438.out 0; have hfz89_1 := blk_frozen BK438.out 1; have hcz90_0 : w87.cell? ⟨gb425, 0, none⟩ = some (.slice A0_0 l0_0.length c0_0) := (blk_cell BK425.out 0).trans rfl; have hcz90_1 : w87.cell? ⟨gb425, 1, none⟩ = some (.int .i64 a0_1) := (blk_cell BK425.out 1).trans rfl; have hcz90_2 : w87.cell? ⟨gb425, 2, none⟩ = some (.slice A0_2 l0_2.length c0_2) := (blk_cell BK425.out 2).trans rfl; have hcz90_3 : w87.cell? ⟨gb425, 3, none⟩ = some (.int .i64 a0_3) := (blk_cell BK425.out 3).trans rfl; have hcz90_4 : w87.cell? ⟨gb425, 4, none⟩ = some (.int .i64 a0_4) := (blk_cell BK425.out 4).trans rfl; have hcz90_5 : w87.cell? ⟨gb425, 5, none⟩ = some (.int .i64 a0_5) := (blk_cell BK425.out 5).trans rfl; have hfz90_0 := blk_frozen BK425.out 0; have hfz90_1 := blk_frozen BK425.out 1; have hfz90_2 := blk_frozen BK425.out 2; have hfz90_3 := blk_frozen BK425.out 3; have hfz90_4 := blk_frozen BK425.out 4; have hfz90_5 := blk_frozen BK425.out 5) | (go_at_call 28; (with_reducible refine (familycheckref01_SameRow.calls kj19 _ _ t433 t436 _ _ l0_2 a0_3 true _ ?side1 ?side2 ?side3 ?side4 A71.out).mono ?_); (case side1 => repeat (first | exact (Kd.R_reads' HO_439000.out).2.2 | (with_reducible refine Kd.C_alloc ?_ _) | (with_reducible refine Kd.C_drewN ?_ _) | (with_reducible refine Kd.C_drew ?_))); (case side2 => exact (Kd.R_reads' HO_439000.out).2.1); (case side3 => repeat (first | exact (Kd.C_below HR0_2.out HB.out) | (with_reducible refine Kd.C_alloc ?_ _) | (with_reducible refine Kd.C_drewN ?_ _) | (with_reducible refine Kd.C_drew ?_))); (case side4 => exact HC0_2.out); rintro e w91 ⟨rfl, hb⟩; have n0_ := Aside0.mk (Kd.R_below (by (with_reducible repeat (first | apply Kd.R_alloc | apply Kd.R_drewN | apply Kd.R_drew)); exact HO_438000.out) hb); have n1_ := Aside0.mk (Kd.R_below (by (with_reducible repeat (first | apply Kd.R_alloc | apply Kd.R_drewN | apply Kd.R_drew)); exact HO_439000.out) hb); have n2_ := Aside0.mk (Kd.R_below (by (with_reducible repeat (first | apply Kd.R_alloc | apply Kd.R_drewN | apply Kd.R_drew)); exact HO_445000.out) hb); have n3_ := Aside0.mk (Kd.R_below (by (with_reducible repeat (first | apply Kd.R_alloc | apply Kd.R_drewN | apply Kd.R_drew)); exact HO_451000.out) hb); have n4_ := Aside0.mk (blk_below (g := gb425) (o := .cells #[.slice A0_0 l0_0.length c0_0, .int .i64 a0_1, .slice A0_2 l0_2.length c0_2, .int .i64 a0_3, .int .i64 a0_4, .int .i64 a0_5] 48 (0, 0)) (by (with_reducible repeat (first | refine blk_drewN ?_ _ | refine blk_drew ?_ | refine blk_alloc ?_ _)); exact BK425.out) hb); have n5_ := Aside0.mk (blk_below (g := gb437) (o := .cells #[.slice Ao27 t429.length co27, .int .i64 t432] 33 (0, 0)) (by (with_reducible repeat (first | refine blk_drewN ?_ _ | refine blk_drew ?_ | refine blk_alloc ?_ _)); exact BK437.out) hb); have n6_ := Aside0.mk (blk_below (g := gb438) (o := .cells #[.slice Ao30 t433.length co30, .int .i64 t436] 33 (0, 0)) (by (with_reducible repeat (first | refine blk_drewN ?_ _ | refine blk_drew ?_ | refine blk_alloc ?_ _)); exact BK438.out) hb); have n7_ := Aside0.mk (blk_below (g := gb444) (o := .cells #[.slice Ao41 t439.length co41, .int .i64 t442] 33 (0, 0)) (by (with_reducible repeat (first | refine blk_drewN ?_ _ | refine blk_drew ?_ | refine blk_alloc ?_ _)); exact BK444.out) hb); have n8_ := Aside0.mk (blk_below (g := gb450) (o := .cells #[.slice Ao49 t445.length co49, .int .i64 t448] 33 (0, 0)) (by (with_reducible repeat (first | refine blk_drewN ?_ _ | refine blk_drew ?_ | refine blk_alloc ?_ _)); exact BK450.out) hb); have n9_ := Aside0.mk (below_step (by repeat (first | (with_reducible first | exact HB.out | apply below_alloc | apply pw_below_drewN | apply below_drew1 | refine below_set ?_ GE425.out | refine below_set ?_ GE437.out | refine below_set ?_ GE438.out | refine below_set ?_ GE444.out | refine below_set ?_ GE450.out) | exact HB.out)) hb); clear HO_438000; clear HO_439000; clear HO_445000; clear HO_451000; clear BK425; clear BK437; clear BK438; clear BK444; clear BK450; clear HB; have HO_438000 := n0_; have HO_439000 := n1_; have HO_445000 := n2_; have HO_451000 := n3_; have BK425 := n4_; have BK437 := n5_; have BK438 := n6_; have BK444 := n7_; have BK450 := n8_; have HB := n9_; clear n0_ n1_ n2_ n3_ n4_ n5_ n6_ n7_ n8_ n9_; (try clear hb); (try clear hb2); (try clear hk); (try clear hi)) | (go_at_call 16; (with_reducible refine (familychecklaw01_known.calls kj19  t455 _ A73.out).mono ?_); rintro e w92 ⟨rfl, hb⟩; have n0_ := Aside0.mk (Kd.R_below (by (with_reducible repeat (first | apply Kd.R_alloc | apply Kd.R_drewN | apply Kd.R_drew)); exact HO_438000.out) hb); have n1_ := Aside0.mk (Kd.R_below (by (with_reducible repeat (first | apply Kd.R_alloc | apply Kd.R_drewN | apply Kd.R_drew)); exact HO_439000.out) hb); have n2_ := Aside0.mk (Kd.R_below (by (with_reducible repeat (first | apply Kd.R_alloc | apply Kd.R_drewN | apply Kd.R_drew)); exact HO_445000.out) hb); have n3_ := Aside0.mk (Kd.R_below (by (with_reducible repeat (first | apply Kd.R_alloc | apply Kd.R_drewN | apply Kd.R_drew)); exact HO_451000.out) hb); have n4_ := Aside0.mk (blk_below (g := gb425) (o := .cells #[.slice A0_0 l0_0.length c0_0, .int .i64 a0_1, .slice A0_2 l0_2.length c0_2, .int .i64 a0_3, .int .i64 a0_4, .int .i64 a0_5] 48 (0, 0)) (by (with_reducible repeat (first | refine blk_drewN ?_ _ | refine blk_drew ?_ | refine blk_alloc ?_ _)); exact BK425.out) hb); have n5_ := Aside0.mk (blk_below (g := gb437) (o := .cells #[.slice Ao27 t429.length co27, .int .i64 t432] 33 (0, 0)) (by (with_reducible repeat (first | refine blk_drewN ?_ _ | refine blk_drew ?_ | refine blk_alloc ?_ _)); exact BK437.out) hb); have n6_ := Aside0.mk (blk_below (g := gb438) (o := .cells #[.slice Ao30 t433.length co30, .int .i64 t436] 33 (0, 0)) (by (with_reducible repeat (first | refine blk_drewN ?_ _ | refine blk_drew ?_ | refine blk_alloc ?_ _)); exact BK438.out) hb); have n7_ := Aside0.mk (blk_below (g := gb444) (o := .cells #[.slice Ao41 t439.length co41, .int .i64 t442] 33 (0, 0)) (by (with_reducible repeat (first | refine blk_drewN ?_ _ | refine blk_drew ?_ | refine blk_alloc ?_ _)); exact BK444.out) hb); have n8_ := Aside0.mk (blk_below (g := gb450) (o := .cells #[.slice Ao49 t445.length co49, .int .i64 t448] 33 (0, 0)) (by (with_reducible repeat (first | refine blk_drewN ?_ _ | refine blk_drew ?_ | refine blk_alloc ?_ _)); exact BK450.out) hb); have n9_ := Aside0.mk (below_step (by repeat (first | (with_reducible first | exact HB.out | apply below_alloc | apply pw_below_drewN | apply below_drew1 | refine below_set ?_ GE425.out | refine below_set ?_ GE437.out | refine below_set ?_ GE438.out | refine below_set ?_ GE444.out | refine below_set ?_ GE450.out) | exact HB.out)) hb); clear HO_438000; clear HO_439000; clear HO_445000; clear HO_451000; clear BK425; clear BK437; clear BK438; clear BK444; clear BK450; clear HB; have HO_438000 := n0_; have HO_439000 := n1_; have HO_445000 := n2_; have HO_451000 := n3_; have BK425 := n4_; have BK437 := n5_; have BK438 := n6_; have BK444 := n7_; have BK450 := n8_; have HB := n9_; clear n0_ n1_ n2_ n3_ n4_ n5_ n6_ n7_ n8_ n9_; (try clear hb); (try clear hb2); (try clear hk); (try clear hi)))
                  go_ret
                  exact ⟨by first | rfl | (simp [errW_none, errW_some] <;> rfl) | (simp [*, errW_none, errW_some] <;> rfl), by repeat (first | (with_reducible first | exact HB.out | apply below_alloc | apply pw_below_drewN | apply below_drew1 | refine below_set ?_ GE425.out | refine below_set ?_ GE437.out | refine below_set ?_ GE438.out | refine below_set ?_ GE444.out | refine below_set ?_ GE450.out) | exact HB.out)⟩
                · replace c72 := Bool.eq_false_iff.mpr c72
                  subst c72
                  have H1 : (some false) = some r := by rw [if_neg (show ¬ (false = true) by decide)] at H; exact H
                  clear H
                  have H := H1
                  clear H1
                  obtain rfl := Option.some.inj H
                  have hnb93 := NB444_425.out
                  have hnc93 := NB425_444.out
                  have hnb94 := NB444_437.out
                  have hnc94 := NB437_444.out
                  have hnb95 := NB444_438.out
                  have hnc95 := NB438_444.out
                  have hnb96 := NB444_450.out
                  have hnc96 := NB450_444.out
                  have hcz97_0 : wc.cell? ⟨gb444, 0, none⟩ = some (.slice Ao41 t439.length co41) := (blk_cell BK444.out 0).trans rfl
                  have hcz97_1 : wc.cell? ⟨gb444, 1, none⟩ = some (.int .i64 t442) := (blk_cell BK444.out 1).trans rfl
                  have hfz97_0 := blk_frozen BK444.out 0
                  have hfz97_1 := blk_frozen BK444.out 1
                  go_wp2_with (first | ((with_reducible refine gate_callee (f := 30) rfl ?_); refine goesL_ (some 57) rfl rfl Tryd.func30 (by kernel_rfl) rfl #[.slice Ao41 t439.length co41] rfl (by (try simp only [List.map_toArray, List.map_cons, List.map_nil]); first | done | rfl | (simp only [List.length_drop, List.length_take]; rfl)) ?_; (with_reducible refine (familychecklaw01_spoil.calls kj19 (fun k_ => some k_ = (.slice Ao41 t439.length co41 : Value).ownBlock) (.slice Ao41 t439.length co41) t439 t452 w _ ?side1 ?side2 A67.out).mono ?_); (case side1 => repeat (first | (with_reducible first | exact HB.out | apply below_alloc | apply pw_below_drewN | apply below_drew1 | refine below_set ?_ GE425.out | refine below_set ?_ GE437.out | refine below_set ?_ GE438.out | refine below_set ?_ GE444.out | refine below_set ?_ GE450.out) | exact HB.out)); (case side2 => exact Kd.R_tight rfl HO_445000.out); rintro e w98 ⟨rfl, hy0, hb, hkp⟩; refine ⟨_, rfl, ?_⟩; have n0_ := Aside0.mk (Kd.R_mono (ok' := fun k_ => some k_ ≠ (.slice Ao30 t433.length co30 : Value).ownBlock ∧ some k_ ≠ (.slice Ao41 t439.length co41 : Value).ownBlock ∧ some k_ ≠ (.slice Ao49 t445.length co49 : Value).ownBlock) (Kd.R_keptB (HO_438000.out) hkp (fun k_ hk_ hs_ => (hk_.2.1) hs_)) (fun k_ hk_ => ⟨hk_.1.1, hk_.1.2.1, hk_.1.2.2⟩)); have n1_ := Aside0.mk (Kd.R_mono (ok' := fun k_ => some k_ ≠ (.slice Ao27 t429.length co27 : Value).ownBlock ∧ some k_ ≠ (.slice Ao41 t439.length co41 : Value).ownBlock ∧ some k_ ≠ (.slice Ao49 t445.length co49 : Value).ownBlock) (Kd.R_keptB (HO_439000.out) hkp (fun k_ hk_ hs_ => (hk_.2.1) hs_)) (fun k_ hk_ => ⟨hk_.1.1, hk_.1.2.1, hk_.1.2.2⟩)); have n2_ := Aside0.mk (Kd.R_reok rfl hy0 (fun k_ e_ => HO_445000.out.1 k_ e_)); have n3_ := Aside0.mk (Kd.R_mono (ok' := fun k_ => some k_ ≠ (.slice Ao27 t429.length co27 : Value).ownBlock ∧ some k_ ≠ (.slice Ao30 t433.length co30 : Value).ownBlock ∧ some k_ ≠ (.slice Ao41 t439.length co41 : Value).ownBlock) (Kd.R_keptB (HO_451000.out) hkp (fun k_ hk_ hs_ => (hk_.2.2) hs_)) (fun k_ hk_ => ⟨hk_.1.1, hk_.1.2.1, hk_.1.2.2⟩)); have n4_ := Aside0.mk (blk_kept (by (with_reducible repeat (first | refine blk_drewN ?_ _ | refine blk_drew ?_ | refine blk_alloc ?_ _)); exact BK425.out) hkp (fun hs_ => (fun e_ => (Kd.R_ne HO_445000.out BK425.out (by decide)) e_) hs_)); have n5_ := Aside0.mk (blk_kept (by (with_reducible repeat (first | refine blk_drewN ?_ _ | refine blk_drew ?_ | refine blk_alloc ?_ _)); exact BK437.out) hkp (fun hs_ => (fun e_ => (Kd.R_ne HO_445000.out BK437.out (by decide)) e_) hs_)); have n6_ := Aside0.mk (blk_kept (by (with_reducible repeat (first | refine blk_drewN ?_ _ | refine blk_drew ?_ | refine blk_alloc ?_ _)); exact BK438.out) hkp (fun hs_ => (fun e_ => (Kd.R_ne HO_445000.out BK438.out (by decide)) e_) hs_)); have n7_ := Aside0.mk (blk_kept (by (with_reducible repeat (first | refine blk_drewN ?_ _ | refine blk_drew ?_ | refine blk_alloc ?_ _)); exact BK444.out) hkp (fun hs_ => (fun e_ => (Kd.R_ne HO_445000.out BK444.out (by decide)) e_) hs_)); have n8_ := Aside0.mk (blk_kept (by (with_reducible repeat (first | refine blk_drewN ?_ _ | refine blk_drew ?_ | refine blk_alloc ?_ _)); exact BK450.out) hkp (fun hs_ => (fun e_ => (Kd.R_ne HO_445000.out BK450.out (by decide)) e_) hs_)); have n9_ := Aside0.mk (hb); clear HO_438000; clear HO_439000; clear HO_445000; clear HO_451000; clear BK425; clear BK437; clear BK438; clear BK444; clear BK450; clear HB; have HO_438000 := n0_; have HO_439000 := n1_; have HO_445000 := n2_; have HO_451000 := n3_; have BK425 := n4_; have BK437 := n5_; have BK438 := n6_; have BK444 := n7_; have BK450 := n8_; have HB := n9_; clear n0_ n1_ n2_ n3_ n4_ n5_ n6_ n7_ n8_ n9_; (try clear hb); (try clear hkp); (try clear hy0); have hnb99 := NB437_425.out; have hnc99 := NB425_437.out; have hnb100 := NB437_438.out; have hnc100 := NB438_437.out; have hnb101 := NB437_450.out; have hnc101 := NB450_437.out; have hcz102_0 : w98.cell? ⟨gb437, 0, none⟩ = some (.slice Ao27 t429.length co27) := (blk_cell BK437.out 0).trans rfl; have hcz102_1 : w98.cell? ⟨gb437, 1, none⟩ = some (.int .i64 t432) := (blk_cell BK437.out 1).trans rfl; have hfz102_0 := blk_frozen BK437.out 0; have hfz102_1 := blk_frozen BK437.out 1; have hnb103 := NB425_438.out; have hnc103 := NB438_425.out; have hnb104 := NB425_450.out; have hnc104 := NB450_425.out; have hcz105_0 : w98.cell? ⟨gb425, 0, none⟩ = some (.slice A0_0 l0_0.length c0_0) := (blk_cell BK425.out 0).trans rfl; have hcz105_1 : w98.cell? ⟨gb425, 1, none⟩ = some (.int .i64 a0_1) := (blk_cell BK425.out 1).trans rfl; have hcz105_2 : w98.cell? ⟨gb425, 2, none⟩ = some (.slice A0_2 l0_2.length c0_2) := (blk_cell BK425.out 2).trans rfl; have hcz105_3 : w98.cell? ⟨gb425, 3, none⟩ = some (.int .i64 a0_3) := (blk_cell BK425.out 3).trans rfl; have hcz105_4 : w98.cell? ⟨gb425, 4, none⟩ = some (.int .i64 a0_4) := (blk_cell BK425.out 4).trans rfl; have hcz105_5 : w98.cell? ⟨gb425, 5, none⟩ = some (.int .i64 a0_5) := (blk_cell BK425.out 5).trans rfl; have hfz105_0 := blk_frozen BK425.out 0; have hfz105_1 := blk_frozen BK425.out 1; have hfz105_2 := blk_frozen BK425.out 2; have hfz105_3 := blk_frozen BK425.out 3; have hfz105_4 := blk_frozen BK425.out 4; have hfz105_5 := blk_frozen BK425.out 5) | (go_at_call 28; (with_reducible refine (familycheckref01_SameRow.calls kj19 _ _ t429 t432 _ _ l0_0 a0_1 true _ ?side1 ?side2 ?side3 ?side4 A69.out).mono ?_); (case side1 => repeat (first | exact (Kd.R_reads' HO_438000.out).2.2 | (with_reducible refine Kd.C_alloc ?_ _) | (with_reducible refine Kd.C_drewN ?_ _) | (with_reducible refine Kd.C_drew ?_))); (case side2 => exact (Kd.R_reads' HO_438000.out).2.1); (case side3 => repeat (first | exact (Kd.C_below HR0_0.out HB.out) | (with_reducible refine Kd.C_alloc ?_ _) | (with_reducible refine Kd.C_drewN ?_ _) | (with_reducible refine Kd.C_drew ?_))); (case side4 => exact HC0_0.out); rintro e w106 ⟨rfl, hb⟩; have n0_ := Aside0.mk (Kd.R_below (by (with_reducible repeat (first | apply Kd.R_alloc | apply Kd.R_drewN | apply Kd.R_drew)); exact HO_438000.out) hb); have n1_ := Aside0.mk (Kd.R_below (by (with_reducible repeat (first | apply Kd.R_alloc | apply Kd.R_drewN | apply Kd.R_drew)); exact HO_439000.out) hb); have n2_ := Aside0.mk (Kd.R_below (by (with_reducible repeat (first | apply Kd.R_alloc | apply Kd.R_drewN | apply Kd.R_drew)); exact HO_445000.out) hb); have n3_ := Aside0.mk (Kd.R_below (by (with_reducible repeat (first | apply Kd.R_alloc | apply Kd.R_drewN | apply Kd.R_drew)); exact HO_451000.out) hb); have n4_ := Aside0.mk (blk_below (g := gb425) (o := .cells #[.slice A0_0 l0_0.length c0_0, .int .i64 a0_1, .slice A0_2 l0_2.length c0_2, .int .i64 a0_3, .int .i64 a0_4, .int .i64 a0_5] 48 (0, 0)) (by (with_reducible repeat (first | refine blk_drewN ?_ _ | refine blk_drew ?_ | refine blk_alloc ?_ _)); exact BK425.out) hb); have n5_ := Aside0.mk (blk_below (g := gb437) (o := .cells #[.slice Ao27 t429.length co27, .int .i64 t432] 33 (0, 0)) (by (with_reducible repeat (first | refine blk_drewN ?_ _ | refine blk_drew ?_ | refine blk_alloc ?_ _)); exact BK437.out) hb); have n6_ := Aside0.mk (blk_below (g := gb438) (o := .cells #[.slice Ao30 t433.length co30, .int .i64 t436] 33 (0, 0)) (by (with_reducible repeat (first | refine blk_drewN ?_ _ | refine blk_drew ?_ | refine blk_alloc ?_ _)); exact BK438.out) hb); have n7_ := Aside0.mk (blk_below (g := gb444) (o := .cells #[.slice Ao41 t439.length co41, .int .i64 t442] 33 (0, 0)) (by (with_reducible repeat (first | refine blk_drewN ?_ _ | refine blk_drew ?_ | refine blk_alloc ?_ _)); exact BK444.out) hb); have n8_ := Aside0.mk (blk_below (g := gb450) (o := .cells #[.slice Ao49 t445.length co49, .int .i64 t448] 33 (0, 0)) (by (with_reducible repeat (first | refine blk_drewN ?_ _ | refine blk_drew ?_ | refine blk_alloc ?_ _)); exact BK450.out) hb); have n9_ := Aside0.mk (below_step (by repeat (first | (with_reducible first | exact HB.out | apply below_alloc | apply pw_below_drewN | apply below_drew1 | refine below_set ?_ GE425.out | refine below_set ?_ GE437.out | refine below_set ?_ GE438.out | refine below_set ?_ GE444.out | refine below_set ?_ GE450.out) | exact HB.out)) hb); clear HO_438000; clear HO_439000; clear HO_445000; clear HO_451000; clear BK425; clear BK437; clear BK438; clear BK444; clear BK450; clear HB; have HO_438000 := n0_; have HO_439000 := n1_; have HO_445000 := n2_; have HO_451000 := n3_; have BK425 := n4_; have BK437 := n5_; have BK438 := n6_; have BK444 := n7_; have BK450 := n8_; have HB := n9_; clear n0_ n1_ n2_ n3_ n4_ n5_ n6_ n7_ n8_ n9_; (try clear hb); (try clear hb2); (try clear hk); (try clear hi); have hnb107 := NB438_450.out; have hnc107 := NB450_438.out; have hcz108_0 : w106.cell? ⟨gb438, 0, none⟩ = some (.slice Ao30 t433.length co30) := (blk_cell BK438.out 0).trans rfl; have hcz108_1 : w106.cell? ⟨gb438, 1, none⟩ = some (.int .i64 t436) := (blk_cell BK438.out 1).trans rfl; have hfz108_0 := blk_frozen BK438.out 0; have hfz108_1 := blk_frozen BK438.out 1; have hcz109_0 : w106.cell? ⟨gb425, 0, none⟩ = some (.slice A0_0 l0_0.length c0_0) := (blk_cell BK425.out 0).trans rfl; have hcz109_1 : w106.cell? ⟨gb425, 1, none⟩ = some (.int .i64 a0_1) := (blk_cell BK425.out 1).trans rfl; have hcz109_2 : w106.cell? ⟨gb425, 2, none⟩ = some (.slice A0_2 l0_2.length c0_2) := (blk_cell BK425.out 2).trans rfl; have hcz109_3 : w106.cell? ⟨gb425, 3, none⟩ = some (.int .i64 a0_3) := (blk_cell BK425.out 3).trans rfl; have hcz109_4 : w106.cell? ⟨gb425, 4, none⟩ = some (.int .i64 a0_4) := (blk_cell BK425.out 4).trans rfl; have hcz109_5 : w106.cell? ⟨gb425, 5, none⟩ = some (.int .i64 a0_5) := (blk_cell BK425.out 5).trans rfl; have hfz109_0 := blk_frozen BK425.out 0; have hfz109_1 := blk_frozen BK425.out 1; have hfz109_2 := blk_frozen BK425.out 2; have hfz109_3 := blk_frozen BK425.out 3; have hfz109_4 := blk_frozen BK425.out 4; have hfz109_5 := blk_frozen BK425.out 5) | (go_at_call 28; (with_reducible refine (familycheckref01_SameRow.calls kj19 _ _ t433 t436 _ _ l0_2 a0_3 false _ ?side1 ?side2 ?side3 ?side4 A71.out).mono ?_); (case side1 => repeat (first | exact (Kd.R_reads' HO_439000.out).2.2 | (with_reducible refine Kd.C_alloc ?_ _) | (with_reducible refine Kd.C_drewN ?_ _) | (with_reducible refine Kd.C_drew ?_))); (case side2 => exact (Kd.R_reads' HO_439000.out).2.1); (case side3 => repeat (first | exact (Kd.C_below HR0_2.out HB.out) | (with_reducible refine Kd.C_alloc ?_ _) | (with_reducible refine Kd.C_drewN ?_ _) | (with_reducible refine Kd.C_drew ?_))); (case side4 => exact HC0_2.out); rintro e w110 ⟨rfl, hb⟩; have n0_ := Aside0.mk (Kd.R_below (by (with_reducible repeat (first | apply Kd.R_alloc | apply Kd.R_drewN | apply Kd.R_drew)); exact HO_438000.out) hb); have n1_ := Aside0.mk (Kd.R_below (by (with_reducible repeat (first | apply Kd.R_alloc | apply Kd.R_drewN | apply Kd.R_drew)); exact HO_439000.out) hb); have n2_ := Aside0.mk (Kd.R_below (by (with_reducible repeat (first | apply Kd.R_alloc | apply Kd.R_drewN | apply Kd.R_drew)); exact HO_445000.out) hb); have n3_ := Aside0.mk (Kd.R_below (by (with_reducible repeat (first | apply Kd.R_alloc | apply Kd.R_drewN | apply Kd.R_drew)); exact HO_451000.out) hb); have n4_ := Aside0.mk (blk_below (g := gb425) (o := .cells #[.slice A0_0 l0_0.length c0_0, .int .i64 a0_1, .slice A0_2 l0_2.length c0_2, .int .i64 a0_3, .int .i64 a0_4, .int .i64 a0_5] 48 (0, 0)) (by (with_reducible repeat (first | refine blk_drewN ?_ _ | refine blk_drew ?_ | refine blk_alloc ?_ _)); exact BK425.out) hb); have n5_ := Aside0.mk (blk_below (g := gb437) (o := .cells #[.slice Ao27 t429.length co27, .int .i64 t432] 33 (0, 0)) (by (with_reducible repeat (first | refine blk_drewN ?_ _ | refine blk_drew ?_ | refine blk_alloc ?_ _)); exact BK437.out) hb); have n6_ := Aside0.mk (blk_below (g := gb438) (o := .cells #[.slice Ao30 t433.length co30, .int .i64 t436] 33 (0, 0)) (by (with_reducible repeat (first | refine blk_drewN ?_ _ | refine blk_drew ?_ | refine blk_alloc ?_ _)); exact BK438.out) hb); have n7_ := Aside0.mk (blk_below (g := gb444) (o := .cells #[.slice Ao41 t439.length co41, .int .i64 t442] 33 (0, 0)) (by (with_reducible repeat (first | refine blk_drewN ?_ _ | refine blk_drew ?_ | refine blk_alloc ?_ _)); exact BK444.out) hb); have n8_ := Aside0.mk (blk_below (g := gb450) (o := .cells #[.slice Ao49 t445.length co49, .int .i64 t448] 33 (0, 0)) (by (with_reducible repeat (first | refine blk_drewN ?_ _ | refine blk_drew ?_ | refine blk_alloc ?_ _)); exact BK450.out) hb); have n9_ := Aside0.mk (below_step (by repeat (first | (with_reducible first | exact HB.out | apply below_alloc | apply pw_below_drewN | apply below_drew1 | refine below_set ?_ GE425.out | refine below_set ?_ GE437.out | refine below_set ?_ GE438.out | refine below_set ?_ GE444.out | refine below_set ?_ GE450.out) | exact HB.out)) hb); clear HO_438000; clear HO_439000; clear HO_445000; clear HO_451000; clear BK425; clear BK437; clear BK438; clear BK444; clear BK450; clear HB; have HO_438000 := n0_; have HO_439000 := n1_; have HO_445000 := n2_; have HO_451000 := n3_; have BK425 := n4_; have BK437 := n5_; have BK438 := n6_; have BK444 := n7_; have BK450 := n8_; have HB := n9_; clear n0_ n1_ n2_ n3_ n4_ n5_ n6_ n7_ n8_ n9_; (try clear hb); (try clear hb2); (try clear hk); (try clear hi)))
                  go_ret
                  exact ⟨by first | rfl | (simp [errW_none, errW_some] <;> rfl) | (simp [*, errW_none, errW_some] <;> rfl), by repeat (first | (with_reducible first | exact HB.out | apply below_alloc | apply pw_below_drewN | apply below_drew1 | refine below_set ?_ GE425.out | refine below_set ?_ GE437.out | refine below_set ?_ GE438.out | refine below_set ?_ GE444.out | refine below_set ?_ GE450.out) | exact HB.out)⟩
              · replace c70 := Bool.eq_false_iff.mpr c70
                subst c70
                have H1 : (some false) = some r := by rw [if_neg (show ¬ (false = true) by decide)] at H; exact H
                clear H
                have H := H1
                clear H1
                obtain rfl := Option.some.inj H
                have hnb111 := NB444_425.out
                have hnc111 := NB425_444.out
                have hnb112 := NB444_437.out
                have hnc112 := NB437_444.out
                have hnb113 := NB444_438.out
                have hnc113 := NB438_444.out
                have hnb114 := NB444_450.out
                have hnc114 := NB450_444.out
                have hcz115_0 : wc.cell? ⟨gb444, 0, none⟩ = some (.slice Ao41 t439.length co41) := (blk_cell BK444.out 0).trans rfl
                have hcz115_1 : wc.cell? ⟨gb444, 1, none⟩ = some (.int .i64 t442) := (blk_cell BK444.out 1).trans rfl
                have hfz115_0 := blk_frozen BK444.out 0
                have hfz115_1 := blk_frozen BK444.out 1
                go_wp2_with (first | ((with_reducible refine gate_callee (f := 30) rfl ?_); refine goesL_ (some 57) rfl rfl Tryd.func30 (by kernel_rfl) rfl #[.slice Ao41 t439.length co41] rfl (by (try simp only [List.map_toArray, List.map_cons, List.map_nil]); first | done | rfl | (simp only [List.length_drop, List.length_take]; rfl)) ?_; (with_reducible refine (familychecklaw01_spoil.calls kj19 (fun k_ => some k_ = (.slice Ao41 t439.length co41 : Value).ownBlock) (.slice Ao41 t439.length co41) t439 t452 w _ ?side1 ?side2 A67.out).mono ?_); (case side1 => repeat (first | (with_reducible first | exact HB.out | apply below_alloc | apply pw_below_drewN | apply below_drew1 | refine below_set ?_ GE425.out | refine below_set ?_ GE437.out | refine below_set ?_ GE438.out | refine below_set ?_ GE444.out | refine below_set ?_ GE450.out) | exact HB.out)); (case side2 => exact Kd.R_tight rfl HO_445000.out); rintro e w116 ⟨rfl, hy0, hb, hkp⟩; refine ⟨_, rfl, ?_⟩; have n0_ := Aside0.mk (Kd.R_mono (ok' := fun k_ => some k_ ≠ (.slice Ao30 t433.length co30 : Value).ownBlock ∧ some k_ ≠ (.slice Ao41 t439.length co41 : Value).ownBlock ∧ some k_ ≠ (.slice Ao49 t445.length co49 : Value).ownBlock) (Kd.R_keptB (HO_438000.out) hkp (fun k_ hk_ hs_ => (hk_.2.1) hs_)) (fun k_ hk_ => ⟨hk_.1.1, hk_.1.2.1, hk_.1.2.2⟩)); have n1_ := Aside0.mk (Kd.R_mono (ok' := fun k_ => some k_ ≠ (.slice Ao27 t429.length co27 : Value).ownBlock ∧ some k_ ≠ (.slice Ao41 t439.length co41 : Value).ownBlock ∧ some k_ ≠ (.slice Ao49 t445.length co49 : Value).ownBlock) (Kd.R_keptB (HO_439000.out) hkp (fun k_ hk_ hs_ => (hk_.2.1) hs_)) (fun k_ hk_ => ⟨hk_.1.1, hk_.1.2.1, hk_.1.2.2⟩)); have n2_ := Aside0.mk (Kd.R_reok rfl hy0 (fun k_ e_ => HO_445000.out.1 k_ e_)); have n3_ := Aside0.mk (Kd.R_mono (ok' := fun k_ => some k_ ≠ (.slice Ao27 t429.length co27 : Value).ownBlock ∧ some k_ ≠ (.slice Ao30 t433.length co30 : Value).ownBlock ∧ some k_ ≠ (.slice Ao41 t439.length co41 : Value).ownBlock) (Kd.R_keptB (HO_451000.out) hkp (fun k_ hk_ hs_ => (hk_.2.2) hs_)) (fun k_ hk_ => ⟨hk_.1.1, hk_.1.2.1, hk_.1.2.2⟩)); have n4_ := Aside0.mk (blk_kept (by (with_reducible repeat (first | refine blk_drewN ?_ _ | refine blk_drew ?_ | refine blk_alloc ?_ _)); exact BK425.out) hkp (fun hs_ => (fun e_ => (Kd.R_ne HO_445000.out BK425.out (by decide)) e_) hs_)); have n5_ := Aside0.mk (blk_kept (by (with_reducible repeat (first | refine blk_drewN ?_ _ | refine blk_drew ?_ | refine blk_alloc ?_ _)); exact BK437.out) hkp (fun hs_ => (fun e_ => (Kd.R_ne HO_445000.out BK437.out (by decide)) e_) hs_)); have n6_ := Aside0.mk (blk_kept (by (with_reducible repeat (first | refine blk_drewN ?_ _ | refine blk_drew ?_ | refine blk_alloc ?_ _)); exact BK438.out) hkp (fun hs_ => (fun e_ => (Kd.R_ne HO_445000.out BK438.out (by decide)) e_) hs_)); have n7_ := Aside0.mk (blk_kept (by (with_reducible repeat (first | refine blk_drewN ?_ _ | refine blk_drew ?_ | refine blk_alloc ?_ _)); exact BK444.out) hkp (fun hs_ => (fun e_ => (Kd.R_ne HO_445000.out BK444.out (by decide)) e_) hs_)); have n8_ := Aside0.mk (blk_kept (by (with_reducible repeat (first | refine blk_drewN ?_ _ | refine blk_drew ?_ | refine blk_alloc ?_ _)); exact BK450.out) hkp (fun hs_ => (fun e_ => (Kd.R_ne HO_445000.out BK450.out (by decide)) e_) hs_)); have n9_ := Aside0.mk (hb); clear HO_438000; clear HO_439000; clear HO_445000; clear HO_451000; clear BK425; clear BK437; clear BK438; clear BK444; clear BK450; clear HB; have HO_438000 := n0_; have HO_439000 := n1_; have HO_445000 := n2_; have HO_451000 := n3_; have BK425 := n4_; have BK437 := n5_; have BK438 := n6_; have BK444 := n7_; have BK450 := n8_; have HB := n9_; clear n0_ n1_ n2_ n3_ n4_ n5_ n6_ n7_ n8_ n9_; (try clear hb); (try clear hkp); (try clear hy0); have hnb117 := NB437_425.out; have hnc117 := NB425_437.out; have hnb118 := NB437_438.out; have hnc118 := NB438_437.out; have hnb119 := NB437_450.out; have hnc119 := NB450_437.out; have hcz120_0 : w116.cell? ⟨gb437, 0, none⟩ = some (.slice Ao27 t429.length co27) := (blk_cell BK437.out 0).trans rfl; have hcz120_1 : w116.cell? ⟨gb437, 1, none⟩ = some (.int .i64 t432) := (blk_cell BK437.out 1).trans rfl; have hfz120_0 := blk_frozen BK437.out 0; have hfz120_1 := blk_frozen BK437.out 1; have hnb121 := NB425_438.out; have hnc121 := NB438_425.out; have hnb122 := NB425_450.out; have hnc122 := NB450_425.out; have hcz123_0 : w116.cell? ⟨gb425, 0, none⟩ = some (.slice A0_0 l0_0.length c0_0) := (blk_cell BK425.out 0).trans rfl; have hcz123_1 : w116.cell? ⟨gb425, 1, none⟩ = some (.int .i64 a0_1) := (blk_cell BK425.out 1).trans rfl; have hcz123_2 : w116.cell? ⟨gb425, 2, none⟩ = some (.slice A0_2 l0_2.length c0_2) := (blk_cell BK425.out 2).trans rfl; have hcz123_3 : w116.cell? ⟨gb425, 3, none⟩ = some (.int .i64 a0_3) := (blk_cell BK425.out 3).trans rfl; have hcz123_4 : w116.cell? ⟨gb425, 4, none⟩ = some (.int .i64 a0_4) := (blk_cell BK425.out 4).trans rfl; have hcz123_5 : w116.cell? ⟨gb425, 5, none⟩ = some (.int .i64 a0_5) := (blk_cell BK425.out 5).trans rfl; have hfz123_0 := blk_frozen BK425.out 0; have hfz123_1 := blk_frozen BK425.out 1; have hfz123_2 := blk_frozen BK425.out 2; have hfz123_3 := blk_frozen BK425.out 3; have hfz123_4 := blk_frozen BK425.out 4; have hfz123_5 := blk_frozen BK425.out 5) | (go_at_call 28; (with_reducible refine (familycheckref01_SameRow.calls kj19 _ _ t429 t432 _ _ l0_0 a0_1 false _ ?side1 ?side2 ?side3 ?side4 A69.out).mono ?_); (case side1 => repeat (first | exact (Kd.R_reads' HO_438000.out).2.2 | (with_reducible refine Kd.C_alloc ?_ _) | (with_reducible refine Kd.C_drewN ?_ _) | (with_reducible refine Kd.C_drew ?_))); (case side2 => exact (Kd.R_reads' HO_438000.out).2.1); (case side3 => repeat (first | exact (Kd.C_below HR0_0.out HB.out) | (with_reducible refine Kd.C_alloc ?_ _) | (with_reducible refine Kd.C_drewN ?_ _) | (with_reducible refine Kd.C_drew ?_))); (case side4 => exact HC0_0.out); rintro e w124 ⟨rfl, hb⟩; have n0_ := Aside0.mk (Kd.R_below (by (with_reducible repeat (first | apply Kd.R_alloc | apply Kd.R_drewN | apply Kd.R_drew)); exact HO_438000.out) hb); have n1_ := Aside0.mk (Kd.R_below (by (with_reducible repeat (first | apply Kd.R_alloc | apply Kd.R_drewN | apply Kd.R_drew)); exact HO_439000.out) hb); have n2_ := Aside0.mk (Kd.R_below (by (with_reducible repeat (first | apply Kd.R_alloc | apply Kd.R_drewN | apply Kd.R_drew)); exact HO_445000.out) hb); have n3_ := Aside0.mk (Kd.R_below (by (with_reducible repeat (first | apply Kd.R_alloc | apply Kd.R_drewN | apply Kd.R_drew)); exact HO_451000.out) hb); have n4_ := Aside0.mk (blk_below (g := gb425) (o := .cells #[.slice A0_0 l0_0.length c0_0, .int .i64 a0_1, .slice A0_2 l0_2.length c0_2, .int .i64 a0_3, .int .i64 a0_4, .int .i64 a0_5] 48 (0, 0)) (by (with_reducible repeat (first | refine blk_drewN ?_ _ | refine blk_drew ?_ | refine blk_alloc ?_ _)); exact BK425.out) hb); have n5_ := Aside0.mk (blk_below (g := gb437) (o := .cells #[.slice Ao27 t429.length co27, .int .i64 t432] 33 (0, 0)) (by (with_reducible repeat (first | refine blk_drewN ?_ _ | refine blk_drew ?_ | refine blk_alloc ?_ _)); exact BK437.out) hb); have n6_ := Aside0.mk (blk_below (g := gb438) (o := .cells #[.slice Ao30 t433.length co30, .int .i64 t436] 33 (0, 0)) (by (with_reducible repeat (first | refine blk_drewN ?_ _ | refine blk_drew ?_ | refine blk_alloc ?_ _)); exact BK438.out) hb); have n7_ := Aside0.mk (blk_below (g := gb444) (o := .cells #[.slice Ao41 t439.length co41, .int .i64 t442] 33 (0, 0)) (by (with_reducible repeat (first | refine blk_drewN ?_ _ | refine blk_drew ?_ | refine blk_alloc ?_ _)); exact BK444.out) hb); have n8_ := Aside0.mk (blk_below (g := gb450) (o := .cells #[.slice Ao49 t445.length co49, .int .i64 t448] 33 (0, 0)) (by (with_reducible repeat (first | refine blk_drewN ?_ _ | refine blk_drew ?_ | refine blk_alloc ?_ _)); exact BK450.out) hb); have n9_ := Aside0.mk (below_step (by repeat (first | (with_reducible first | exact HB.out | apply below_alloc | apply pw_below_drewN | apply below_drew1 | refine below_set ?_ GE425.out | refine below_set ?_ GE437.out | refine below_set ?_ GE438.out | refine below_set ?_ GE444.out | refine below_set ?_ GE450.out) | exact HB.out)) hb); clear HO_438000; clear HO_439000; clear HO_445000; clear HO_451000; clear BK425; clear BK437; clear BK438; clear BK444; clear BK450; clear HB; have HO_438000 := n0_; have HO_439000 := n1_; have HO_445000 := n2_; have HO_451000 := n3_; have BK425 := n4_; have BK437 := n5_; have BK438 := n6_; have BK444 := n7_; have BK450 := n8_; have HB := n9_; clear n0_ n1_ n2_ n3_ n4_ n5_ n6_ n7_ n8_ n9_; (try clear hb); (try clear hb2); (try clear hk); (try clear hi)))
                go_ret
                exact ⟨by first | rfl | (simp [errW_none, errW_some] <;> rfl) | (simp [*, errW_none, errW_some] <;> rfl), by repeat (first | (with_reducible first | exact HB.out | apply below_alloc | apply pw_below_drewN | apply below_drew1 | refine below_set ?_ GE425.out | refine below_set ?_ GE437.out | refine below_set ?_ GE438.out | refine below_set ?_ GE444.out | refine below_set ?_ GE450.out) | exact HB.out)⟩
            · replace c68 := Bool.eq_false_iff.mpr c68
              subst c68
              have H1 : (some false) = some r := by rw [if_neg (show ¬ (false = true) by decide)] at H; exact H
              clear H
              have H := H1
              clear H1
              obtain rfl := Option.some.inj H
              have hnb125 := NB444_425.out
              have hnc125 := NB425_444.out
              have hnb126 := NB444_437.out
              have hnc126 := NB437_444.out
              have hnb127 := NB444_438.out
              have hnc127 := NB438_444.out
              have hnb128 := NB444_450.out
              have hnc128 := NB450_444.out
              have hcz129_0 : wc.cell? ⟨gb444, 0, none⟩ = some (.slice Ao41 t439.length co41) := (blk_cell BK444.out 0).trans rfl
              have hcz129_1 : wc.cell? ⟨gb444, 1, none⟩ = some (.int .i64 t442) := (blk_cell BK444.out 1).trans rfl
              have hfz129_0 := blk_frozen BK444.out 0
              have hfz129_1 := blk_frozen BK444.out 1
              go_wp2_with (first | ((with_reducible refine gate_callee (f := 30) rfl ?_); refine goesL_ (some 57) rfl rfl Tryd.func30 (by kernel_rfl) rfl #[.slice Ao41 t439.length co41] rfl (by (try simp only [List.map_toArray, List.map_cons, List.map_nil]); first | done | rfl | (simp only [List.length_drop, List.length_take]; rfl)) ?_; (with_reducible refine (familychecklaw01_spoil.calls kj19 (fun k_ => some k_ = (.slice Ao41 t439.length co41 : Value).ownBlock) (.slice Ao41 t439.length co41) t439 t452 w _ ?side1 ?side2 A67.out).mono ?_); (case side1 => repeat (first | (with_reducible first | exact HB.out | apply below_alloc | apply pw_below_drewN | apply below_drew1 | refine below_set ?_ GE425.out | refine below_set ?_ GE437.out | refine below_set ?_ GE438.out | refine below_set ?_ GE444.out | refine below_set ?_ GE450.out) | exact HB.out)); (case side2 => exact Kd.R_tight rfl HO_445000.out); rintro e w130 ⟨rfl, hy0, hb, hkp⟩; refine ⟨_, rfl, ?_⟩; have n0_ := Aside0.mk (Kd.R_mono (ok' := fun k_ => some k_ ≠ (.slice Ao30 t433.length co30 : Value).ownBlock ∧ some k_ ≠ (.slice Ao41 t439.length co41 : Value).ownBlock ∧ some k_ ≠ (.slice Ao49 t445.length co49 : Value).ownBlock) (Kd.R_keptB (HO_438000.out) hkp (fun k_ hk_ hs_ => (hk_.2.1) hs_)) (fun k_ hk_ => ⟨hk_.1.1, hk_.1.2.1, hk_.1.2.2⟩)); have n1_ := Aside0.mk (Kd.R_mono (ok' := fun k_ => some k_ ≠ (.slice Ao27 t429.length co27 : Value).ownBlock ∧ some k_ ≠ (.slice Ao41 t439.length co41 : Value).ownBlock ∧ some k_ ≠ (.slice Ao49 t445.length co49 : Value).ownBlock) (Kd.R_keptB (HO_439000.out) hkp (fun k_ hk_ hs_ => (hk_.2.1) hs_)) (fun k_ hk_ => ⟨hk_.1.1, hk_.1.2.1, hk_.1.2.2⟩)); have n2_ := Aside0.mk (Kd.R_reok rfl hy0 (fun k_ e_ => HO_445000.out.1 k_ e_)); have n3_ := Aside0.mk (Kd.R_mono (ok' := fun k_ => some k_ ≠ (.slice Ao27 t429.length co27 : Value).ownBlock ∧ some k_ ≠ (.slice Ao30 t433.length co30 : Value).ownBlock ∧ some k_ ≠ (.slice Ao41 t439.length co41 : Value).ownBlock) (Kd.R_keptB (HO_451000.out) hkp (fun k_ hk_ hs_ => (hk_.2.2) hs_)) (fun k_ hk_ => ⟨hk_.1.1, hk_.1.2.1, hk_.1.2.2⟩)); have n4_ := Aside0.mk (blk_kept (by (with_reducible repeat (first | refine blk_drewN ?_ _ | refine blk_drew ?_ | refine blk_alloc ?_ _)); exact BK425.out) hkp (fun hs_ => (fun e_ => (Kd.R_ne HO_445000.out BK425.out (by decide)) e_) hs_)); have n5_ := Aside0.mk (blk_kept (by (with_reducible repeat (first | refine blk_drewN ?_ _ | refine blk_drew ?_ | refine blk_alloc ?_ _)); exact BK437.out) hkp (fun hs_ => (fun e_ => (Kd.R_ne HO_445000.out BK437.out (by decide)) e_) hs_)); have n6_ := Aside0.mk (blk_kept (by (with_reducible repeat (first | refine blk_drewN ?_ _ | refine blk_drew ?_ | refine blk_alloc ?_ _)); exact BK438.out) hkp (fun hs_ => (fun e_ => (Kd.R_ne HO_445000.out BK438.out (by decide)) e_) hs_)); have n7_ := Aside0.mk (blk_kept (by (with_reducible repeat (first | refine blk_drewN ?_ _ | refine blk_drew ?_ | refine blk_alloc ?_ _)); exact BK444.out) hkp (fun hs_ => (fun e_ => (Kd.R_ne HO_445000.out BK444.out (by decide)) e_) hs_)); have n8_ := Aside0.mk (blk_kept (by (with_reducible repeat (first | refine blk_drewN ?_ _ | refine blk_drew ?_ | refine blk_alloc ?_ _)); exact BK450.out) hkp (fun hs_ => (fun e_ => (Kd.R_ne HO_445000.out BK450.out (by decide)) e_) hs_)); have n9_ := Aside0.mk (hb); clear HO_438000; clear HO_439000; clear HO_445000; clear HO_451000; clear BK425; clear BK437; clear BK438; clear BK444; clear BK450; clear HB; have HO_438000 := n0_; have HO_439000 := n1_; have HO_445000 := n2_; have HO_451000 := n3_; have BK425 := n4_; have BK437 := n5_; have BK438 := n6_; have BK444 := n7_; have BK450 := n8_; have HB := n9_; clear n0_ n1_ n2_ n3_ n4_ n5_ n6_ n7_ n8_ n9_; (try clear hb); (try clear hkp); (try clear hy0)))
              go_ret
              exact ⟨by first | rfl | (simp [errW_none, errW_some] <;> rfl) | (simp [*, errW_none, errW_some] <;> rfl), by repeat (first | (with_reducible first | exact HB.out | apply below_alloc | apply pw_below_drewN | apply below_drew1 | refine below_set ?_ GE425.out | refine below_set ?_ GE437.out | refine below_set ?_ GE438.out | refine below_set ?_ GE444.out | refine below_set ?_ GE450.out) | exact HB.out)⟩

end Go.Proofs.YtbioiodjdfcooaaDoor.P
