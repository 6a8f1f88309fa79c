import Derived.Test.YtbioiodjdfcooaaDoorVGPx0
import Derived.Test.YtbioiodjdfcooaaDoorVGPx4
-- Written by a program of this session (wip/tools/doprint.sh: the kit's print, with given texts for some functions).
namespace Go.Proofs.YtbioiodjdfcooaaDoor.P
open Go.RowKit Go.Proofs.YtbioiodjdfcooaaDoorW.PrintWords Go.Proofs.YtbioiodjdfcooaaDoorW.PrintLast Go.Proofs.YtbioiodjdfcooaaDoorW.PrintMore
attribute [local go_sem] max2_int min2_int max_two min_two max_three min_three max_four min_four   -- for this text's walks alone
set_option linter.unusedVariables false
set_option linter.unusedSimpArgs false

/-! ### linear_same: function 69 -/
def linear_same.l0 : Nat → List (S33) → Int → Int → Int → List (S33) → Option (Int × (List (S33)))
  | 0, _, _, _, _, _ => none
  | k + 1, x10, x11, x12, x459000, x459001 => if x12 < x11 then (if 0 ≤ x12 then (if x12 < (x10.length : Int) then ((linear_clone.f ((rd_T33 x10 x12).f0) ((rd_T33 x10 x12).f1)).bind fun bt461 => (if x459001.length < 4398046511104 then (linear_same.l0 k x10 x11 (wrap64 (x12 + 1)) x459000 (x459001 ++ [(⟨bt461.1, bt461.2⟩ : S33)])) else (none))) else (none)) else (none)) else (some (x459000, x459001))
def linear_same.f (k : Nat) (a0_0 : Int) (l0_1 : List (S33)) : Option (Int × (List (S33))) := linear_same.l0 k l0_1 (l0_1.length : Int) 0 a0_0 ([] : List (S33))
def linear_same.T5 : Bool × List (List Nat × List Nat) := (true, [([], []), ([0], [0]), ([], []), ([2], [2]), ([3], [3]), ([1, 4, 3], [1, 4]), ([0, 1, 2, 3, 4, 5], []), ([6, 5, 5, 0, 1, 2, 3, 4, 5], [5, 6])])
def linear_same.B5 : List Nat := [0, 1, 0, 4, 12, 31, 63, 127]
theorem linear_same.tab5 : rtab .any (opsOf Tryd.f69 5) = linear_same.T5 := by kernel_rfl
theorem linear_same.bits5 : waitsOk linear_same.T5.2 linear_same.B5 = true := by kernel_rfl
set_option maxHeartbeats 8000000 in
set_option maxRecDepth 100000 in
theorem linear_same.calls (k : Nat) (a0_0 : Int) (A0_1 : Option Addr) (c0_1 : Nat) (l0_1 : List (S33)) (r1 : Int) (r2 : List (S33)) (w : World) (hr0_1 : Kd.C k33 w A0_1 l0_1.length l0_1) (hc0_1 : l0_1.length ≤ c0_1) (h : linear_same.f k a0_0 l0_1 = some (r1, r2)) :
    Calls Tryd.prog 69 #[.agg #[.int .i64 a0_0, .slice A0_1 l0_1.length c0_1]] w fun e w' => ∃ v1_ : Value, e = .returned (.agg #[.int .i64 r1, v1_]) ∧ Kd.S k33 33 w' w.heap.size (fun _ => True) v1_ r2 ∧ Below w.heap.size w w' := by
  have hu24 := Tryd.underlying24
  have hu33 := Tryd.underlying33
  have HR0_1 := Aside0.mk hr0_1
  have HC0_1 := Aside0.mk hc0_1
  clear hr0_1 hc0_1
  have HB := Aside0.mk (Below.refl w.heap.size w)
  have H : (linear_same.l0 k l0_1 (l0_1.length : Int) 0 a0_0 ([] : List (S33))) = some (r1, r2) := h
  clear h
  have H' := Aside0.mk H
  clear H
  go_enter Tryd.func69, Tryd.ntmps69
  go_wp2_with (first | ((with_reducible refine gate_dst (N := 1) rfl ?_); refine box_event ?hg (N := 1) ?hd (cs := #[.int .i64 a0_0, .slice A0_1 l0_1.length c0_1]) (t := 24) ?hr ?_; (case hd => rfl); (case hg => rfl); (case hr => first | (go_simp; done) | (go_simp; rfl)); intro gb456 hg w2 hbox hb; have n0_ := Aside0.mk (below_step (by repeat (first | (with_reducible first | exact HB.out | apply below_alloc | apply pw_below_drewN | apply below_drew1) | exact HB.out)) hb); have n1_ := Aside0.mk (hbox); have n2_ := Aside0.mk ((by rw [hg]; exact (below_size (by repeat (first | (with_reducible first | exact HB.out | apply below_alloc | apply pw_below_drewN | apply below_drew1) | exact HB.out))) : w.heap.size ≤ gb456)); have n3_ := Aside0.mk ((by rw [hg]; exact (below_size (by repeat (first | (with_reducible first | exact HB.out | apply below_alloc | apply pw_below_drewN | apply below_drew1) | exact HB.out))) : w.heap.size ≤ gb456)); clear HB; have HB := n0_; have BK456 := n1_; have GW456 := n2_; have GE456 := n3_; clear n0_ n1_ n2_ n3_; clear hb hbox hg) | ((with_reducible refine gate_dst (N := 2) rfl ?_); refine box_event ?hg (N := 2) ?hd (cs := #[.int .i64 0, .slice none 0 0]) (t := 24) ?hr ?_; (case hd => rfl); (case hg => rfl); (case hr => first | (go_simp; done) | (go_simp; rfl)); intro gb457 hg w3 hbox hb; have n0_ := Aside0.mk (blk_below (g := gb456) (o := .cells #[.int .i64 a0_0, .slice A0_1 l0_1.length c0_1] 24 (0, 0)) (by (with_reducible repeat (first | refine blk_drewN ?_ _ | refine blk_drew ?_ | refine blk_alloc ?_ _)); exact BK456.out) hb); have n1_ := Aside0.mk (below_step (by repeat (first | (with_reducible first | exact HB.out | apply below_alloc | apply pw_below_drewN | apply below_drew1 | refine below_set ?_ GE456.out) | exact HB.out)) hb); have n2_ := Aside0.mk (hbox); have n3_ := Aside0.mk ((by rw [hg]; exact (below_size (by repeat (first | (with_reducible first | exact HB.out | apply below_alloc | apply pw_below_drewN | apply below_drew1 | refine below_set ?_ GE456.out) | exact HB.out))) : w.heap.size ≤ gb457)); have n4_ := Aside0.mk ((by rw [hg]; exact (below_size (by repeat (first | (with_reducible first | exact HB.out | apply below_alloc | apply pw_below_drewN | apply below_drew1 | refine below_set ?_ GE456.out) | exact HB.out))) : w.heap.size ≤ gb457)); have n5_ := Aside0.mk ((by rw [hg]; exact Nat.ne_of_lt (blk_lt (g := gb456) (o := .cells #[.int .i64 a0_0, .slice A0_1 l0_1.length c0_1] 24 (0, 0)) (by (with_reducible repeat (first | refine blk_drewN ?_ _ | refine blk_drew ?_ | refine blk_alloc ?_ _)); exact BK456.out)) : gb456 ≠ gb457)); have n6_ := Aside0.mk ((by rw [hg]; exact Nat.ne_of_gt (blk_lt (g := gb456) (o := .cells #[.int .i64 a0_0, .slice A0_1 l0_1.length c0_1] 24 (0, 0)) (by (with_reducible repeat (first | refine blk_drewN ?_ _ | refine blk_drew ?_ | refine blk_alloc ?_ _)); exact BK456.out)) : gb457 ≠ gb456)); clear BK456; clear HB; have BK456 := n0_; have HB := n1_; have BK457 := n2_; have GW457 := n3_; have GE457 := n4_; have NB456_457 := n5_; have NB457_456 := n6_; clear n0_ n1_ n2_ n3_ n4_ n5_ n6_; clear hb hbox hg; have hnb4 := NB456_457.out; have hnc4 := NB457_456.out; have hcz5_0 : w3.cell? ⟨gb456, 0, none⟩ = some (.int .i64 a0_0) := (blk_cell BK456.out 0).trans rfl; have hcz5_1 : w3.cell? ⟨gb456, 1, none⟩ = some (.slice A0_1 l0_1.length c0_1) := (blk_cell BK456.out 1).trans rfl; have hfz5_0 := blk_frozen BK456.out 0; have hfz5_1 := blk_frozen BK456.out 1) | ((with_reducible refine gate_dst (N := 3) rfl ?_); refine box_event ?hg (N := 3) ?hd (cs := #[.int .i64 0, .slice none 0 0]) (t := 24) ?hr ?_; (case hd => rfl); (case hg => rfl); (case hr => first | (go_simp; done) | (go_simp; rfl)); intro gb458 hg w6 hbox hb; have n0_ := Aside0.mk (blk_below (g := gb456) (o := .cells #[.int .i64 a0_0, .slice A0_1 l0_1.length c0_1] 24 (0, 0)) (by (with_reducible repeat (first | refine blk_drewN ?_ _ | refine blk_drew ?_ | refine blk_alloc ?_ _)); exact BK456.out) hb); have n1_ := Aside0.mk (blk_below (g := gb457) (o := .cells #[.int .i64 0, .slice none 0 0] 24 (0, 0)) (by (with_reducible repeat (first | refine blk_drewN ?_ _ | refine blk_drew ?_ | refine blk_alloc ?_ _)); exact BK457.out) hb); have n2_ := Aside0.mk (below_step (by repeat (first | (with_reducible first | exact HB.out | apply below_alloc | apply pw_below_drewN | apply below_drew1 | refine below_set ?_ GE456.out | refine below_set ?_ GE457.out) | exact HB.out)) hb); have n3_ := Aside0.mk (hbox); have n4_ := Aside0.mk ((by rw [hg]; exact (below_size (by repeat (first | (with_reducible first | exact HB.out | apply below_alloc | apply pw_below_drewN | apply below_drew1 | refine below_set ?_ GE456.out | refine below_set ?_ GE457.out) | exact HB.out))) : w.heap.size ≤ gb458)); have n5_ := Aside0.mk ((by rw [hg]; exact (below_size (by repeat (first | (with_reducible first | exact HB.out | apply below_alloc | apply pw_below_drewN | apply below_drew1 | refine below_set ?_ GE456.out | refine below_set ?_ GE457.out) | exact HB.out))) : w.heap.size ≤ gb458)); have n6_ := Aside0.mk ((by rw [hg]; exact Nat.ne_of_lt (blk_lt (g := gb456) (o := .cells #[.int .i64 a0_0, .slice A0_1 l0_1.length c0_1] 24 (0, 0)) (by (with_reducible repeat (first | refine blk_drewN ?_ _ | refine blk_drew ?_ | refine blk_alloc ?_ _)); exact BK456.out)) : gb456 ≠ gb458)); have n7_ := Aside0.mk ((by rw [hg]; exact Nat.ne_of_gt (blk_lt (g := gb456) (o := .cells #[.int .i64 a0_0, .slice A0_1 l0_1.length c0_1] 24 (0, 0)) (by (with_reducible repeat (first | refine blk_drewN ?_ _ | refine blk_drew ?_ | refine blk_alloc ?_ _)); exact BK456.out)) : gb458 ≠ gb456)); have n8_ := Aside0.mk ((by rw [hg]; exact Nat.ne_of_lt (blk_lt (g := gb457) (o := .cells #[.int .i64 0, .slice none 0 0] 24 (0, 0)) (by (with_reducible repeat (first | refine blk_drewN ?_ _ | refine blk_drew ?_ | refine blk_alloc ?_ _)); exact BK457.out)) : gb457 ≠ gb458)); have n9_ := Aside0.mk ((by rw [hg]; exact Nat.ne_of_gt (blk_lt (g := gb457) (o := .cells #[.int .i64 0, .slice none 0 0] 24 (0, 0)) (by (with_reducible repeat (first | refine blk_drewN ?_ _ | refine blk_drew ?_ | refine blk_alloc ?_ _)); exact BK457.out)) : gb458 ≠ gb457)); clear BK456; clear BK457; clear HB; have BK456 := n0_; have BK457 := n1_; have HB := n2_; have BK458 := n3_; have GW458 := n4_; have GE458 := n5_; have NB456_458 := n6_; have NB458_456 := n7_; have NB457_458 := n8_; have NB458_457 := n9_; clear n0_ n1_ n2_ n3_ n4_ n5_ n6_ n7_ n8_ n9_; clear hb hbox hg; have hnb7 := NB458_456.out; have hnc7 := NB456_458.out; have hnb8 := NB458_457.out; have hnc8 := NB457_458.out; have hcz9_0 : w6.cell? ⟨gb458, 0, none⟩ = some (.int .i64 0) := (blk_cell BK458.out 0).trans rfl; have hcz9_1 : w6.cell? ⟨gb458, 1, none⟩ = some (.slice none 0 0) := (blk_cell BK458.out 1).trans rfl; have hfz9_0 := blk_frozen BK458.out 0; have hfz9_1 := blk_frozen BK458.out 1; have hcz10_0 : w6.cell? ⟨gb456, 0, none⟩ = some (.int .i64 a0_0) := (blk_cell BK456.out 0).trans rfl; have hcz10_1 : w6.cell? ⟨gb456, 1, none⟩ = some (.slice A0_1 l0_1.length c0_1) := (blk_cell BK456.out 1).trans rfl; have hfz10_0 := blk_frozen BK456.out 0; have hfz10_1 := blk_frozen BK456.out 1))
  go_loopg [12] k (fun kq v12 w' => ∃ (x12_1 : Int) (x459001_1 : List (S33)) (u459001 : Value), v12 = .int .i64 x12_1 ∧ Aside0 (linear_same.l0 kq l0_1 (l0_1.length : Int) x12_1 a0_0 x459001_1 = some (r1, r2)) ∧ Aside0 (kq ≤ k) ∧ Aside0 (Kd.S k33 33 w' w.heap.size (fun _ => True) u459001 x459001_1) ∧ Aside0 (w'.heap[gb456]? = some (.cells #[.int .i64 a0_0, (.slice A0_1 l0_1.length c0_1)] 24 (0, 0))) ∧ Aside0 (w'.heap[gb457]? = some (.cells #[.int .i64 0, (.slice none 0 0)] 24 (0, 0))) ∧ Aside0 (w'.heap[gb458]? = some (.cells #[.int .i64 a0_0, u459001] 24 (0, 0))) ∧ Aside0 (Below w.heap.size w w'))
  case atStart => exact ⟨(0), (([] : List (S33))), (.slice none 0 0), (by first | rfl | (simp; done) | (simp [*]; done)), H', ⟨Nat.le_refl _⟩, ⟨by first | exact Kd.S_nil _ _ _ _ _ | exact Kd.N_nil _ _ _ _ _ | exact Kd.V_nil _ _ _ _ _ | exact Kd.Q_nil _ _ _ _ _ | exact Kd.R_nil _ _ _ _ _⟩, ⟨by (with_reducible repeat (first | refine blk_drewN ?_ _ | refine blk_drew ?_ | refine blk_alloc ?_ _)); refine blk_far ?_ NB456_458.out _; (with_reducible repeat (first | refine blk_drewN ?_ _ | refine blk_drew ?_ | refine blk_alloc ?_ _)); refine blk_far ?_ NB456_458.out _; (with_reducible repeat (first | refine blk_drewN ?_ _ | refine blk_drew ?_ | refine blk_alloc ?_ _)); exact BK456.out⟩, ⟨by (with_reducible repeat (first | refine blk_drewN ?_ _ | refine blk_drew ?_ | refine blk_alloc ?_ _)); refine blk_far ?_ NB457_458.out _; (with_reducible repeat (first | refine blk_drewN ?_ _ | refine blk_drew ?_ | refine blk_alloc ?_ _)); refine blk_far ?_ NB457_458.out _; (with_reducible repeat (first | refine blk_drewN ?_ _ | refine blk_drew ?_ | refine blk_alloc ?_ _)); exact BK457.out⟩, ⟨by (with_reducible repeat (first | refine blk_drewN ?_ _ | refine blk_drew ?_ | refine blk_alloc ?_ _)); refine blk_put (cs := #[.int .i64 a0_0, .slice none 0 0]) ?_ 1 _ rfl; (with_reducible repeat (first | refine blk_drewN ?_ _ | refine blk_drew ?_ | refine blk_alloc ?_ _)); refine blk_put (cs := #[.int .i64 0, .slice none 0 0]) ?_ 0 _ rfl; (with_reducible repeat (first | refine blk_drewN ?_ _ | refine blk_drew ?_ | refine blk_alloc ?_ _)); exact BK458.out⟩, ⟨by repeat (first | (with_reducible first | exact HB.out | apply below_alloc | apply pw_below_drewN | apply below_drew1 | refine below_set ?_ GE456.out | refine below_set ?_ GE457.out | refine below_set ?_ GE458.out) | exact HB.out)⟩⟩
  case round =>
    clear H'
    try clear p2
    try clear c4
    try clear c6
    try clear c7
    try clear c8
    try clear hcz10_0
    try clear hcz10_1
    try clear hcz5_0
    try clear hcz5_1
    try clear hcz9_0
    try clear hcz9_1
    try clear hfz10_0
    try clear hfz10_1
    try clear hfz5_0
    try clear hfz5_1
    try clear hfz9_0
    try clear hfz9_1
    obtain ⟨x12_1, x459001_1, u459001, rfl, HA, HK1, HO_459001, BK456, BK457, BK458, HB⟩ := hrel
    cases gk with
    | zero => exact absurd HA.out (by simp [linear_same.l0])
    | succ k1 =>
      have H := HA.out
      clear HA
      simp only [linear_same.l0] at H
      by_cases c11 : x12_1 < (l0_1.length : Int)
      · rw [if_pos c11] at H
        have c11b0 : decide (x12_1 < (l0_1.length : Int)) = true := decide_eq_true c11
        clear c11
        by_cases c12 : 0 ≤ x12_1
        · rw [if_pos c12] at H
          have c12b0 : decide (0 ≤ x12_1) = true := decide_eq_true c12
          clear c12
          by_cases c13 : x12_1 < (l0_1.length : Int)
          · rw [if_pos c13] at H
            have c13b0 : decide (x12_1 < (l0_1.length : Int)) = true := decide_eq_true c13
            clear c13
            replace H := Option.bind_eq_some_iff.mp H
            obtain ⟨⟨t461, t464⟩, A140, H⟩ := H
            replace H : (if x459001_1.length < 4398046511104 then (linear_same.l0 k1 l0_1 (l0_1.length : Int) (wrap64 (x12_1 + 1)) a0_0 (x459001_1 ++ [(⟨t461, t464⟩ : S33)])) else (none)) = some (r1, r2) := H
            have A14 := Aside0.mk A140
            clear A140
            by_cases c15 : x459001_1.length < 4398046511104
            · rw [if_pos c15] at H
              have LMc15 := Aside0.mk c15
              clear c15
              obtain ⟨y465, hy465⟩ : ∃ y_ : List (S33), y_ = (x459001_1 ++ [(⟨t461, t464⟩ : S33)]) := ⟨_, rfl⟩
              replace H : (linear_same.l0 k1 l0_1 (l0_1.length : Int) (wrap64 (x12_1 + 1)) a0_0 y465) = some (r1, r2) := by first | (rw [hy465]; with_reducible exact H) | (have H2_ := (Option.bind_some _ _).symm.trans H; rw [hy465]; with_reducible exact H2_) | (have H2_ := (Option.bind_some _ _).symm.trans H; with_reducible exact H2_) | with_reducible exact H | (rw [hy465]; exact H) | exact H
              have Ny465 := Aside0.mk hy465
              clear hy465
              have H' := Aside0.mk H
              clear H
              have p459 : 0 ≤ (x12_1 : Int) := of_decide_eq_true (by first | (with_reducible assumption) | assumption)
              have q459 : x12_1 < (l0_1.length : Int) := of_decide_eq_true (by first | (with_reducible assumption) | assumption)
              obtain ⟨ad459, A459_0, c459_0, e459, hx459_0, hx459_1, hl459_0, hi459_0⟩ := at_T33 HR0_1.out x12_1 p459 q459
              cases e459
              replace hx459_0 := (HB.out.cell (World.block_lt_of_cell? w _ hx459_0)).trans hx459_0
              replace hx459_1 := (HB.out.cell (World.block_lt_of_cell? w _ hx459_1)).trans hx459_1
              have HR459_0 := Aside0.mk hi459_0
              have HC459_0 := Aside0.mk hl459_0
              clear hi459_0 hl459_0
              replace p459 := eq_true p459
              replace q459 := eq_true q459
              try go_wp2_with (first | ((with_reducible refine gate_dst (N := 5) rfl ?_); refine box_event ?hg (N := 5) ?hd (cs := #[.slice none 0 0, .int .i64 0]) (t := 33) ?hr ?_; (case hd => rfl); (case hg => rfl); (case hr => first | (go_simp; done) | (go_simp; rfl)); intro gb460 hg w16 hbox hb; have n0_ := Aside0.mk (Kd.S_below (Kd.S_elderB (by (with_reducible repeat (first | apply Kd.S_alloc | apply Kd.S_drewN | apply Kd.S_drew)); exact HO_459001.out) gb460 (Nat.le_of_eq hg.symm)) hb); have n1_ := Aside0.mk (blk_below (g := gb456) (o := .cells #[.int .i64 a0_0, .slice (some ad459) l0_1.length c0_1] 24 (0, 0)) (by (with_reducible repeat (first | refine blk_drewN ?_ _ | refine blk_drew ?_ | refine blk_alloc ?_ _)); exact BK456.out) hb); have n2_ := Aside0.mk (blk_below (g := gb457) (o := .cells #[.int .i64 0, .slice none 0 0] 24 (0, 0)) (by (with_reducible repeat (first | refine blk_drewN ?_ _ | refine blk_drew ?_ | refine blk_alloc ?_ _)); exact BK457.out) hb); have n3_ := Aside0.mk (blk_below (g := gb458) (o := .cells #[.int .i64 a0_0, u459001] 24 (0, 0)) (by (with_reducible repeat (first | refine blk_drewN ?_ _ | refine blk_drew ?_ | refine blk_alloc ?_ _)); exact BK458.out) hb); have n4_ := Aside0.mk (below_step (by repeat (first | (with_reducible first | exact HB.out | apply below_alloc | apply pw_below_drewN | apply below_drew1 | refine below_set ?_ GE456.out | refine below_set ?_ GE457.out | refine below_set ?_ GE458.out) | exact HB.out)) hb); have n5_ := Aside0.mk (hbox); have n6_ := Aside0.mk ((by rw [hg]; exact (below_size (by repeat (first | (with_reducible first | exact HB.out | apply below_alloc | apply pw_below_drewN | apply below_drew1 | refine below_set ?_ GE456.out | refine below_set ?_ GE457.out | refine below_set ?_ GE458.out) | exact HB.out))) : w.heap.size ≤ gb460)); have n7_ := Aside0.mk ((by rw [hg]; exact (below_size (by repeat (first | (with_reducible first | exact HB.out | apply below_alloc | apply pw_below_drewN | apply below_drew1 | refine below_set ?_ GE456.out | refine below_set ?_ GE457.out | refine below_set ?_ GE458.out) | exact HB.out))) : w.heap.size ≤ gb460)); have n8_ := Aside0.mk ((by rw [hg]; exact Nat.ne_of_lt (blk_lt (g := gb456) (o := .cells #[.int .i64 a0_0, .slice (some ad459) l0_1.length c0_1] 24 (0, 0)) (by (with_reducible repeat (first | refine blk_drewN ?_ _ | refine blk_drew ?_ | refine blk_alloc ?_ _)); exact BK456.out)) : gb456 ≠ gb460)); have n9_ := Aside0.mk ((by rw [hg]; exact Nat.ne_of_gt (blk_lt (g := gb456) (o := .cells #[.int .i64 a0_0, .slice (some ad459) l0_1.length c0_1] 24 (0, 0)) (by (with_reducible repeat (first | refine blk_drewN ?_ _ | refine blk_drew ?_ | refine blk_alloc ?_ _)); exact BK456.out)) : gb460 ≠ gb456)); have n10_ := Aside0.mk ((by rw [hg]; exact Nat.ne_of_lt (blk_lt (g := gb457) (o := .cells #[.int .i64 0, .slice none 0 0] 24 (0, 0)) (by (with_reducible repeat (first | refine blk_drewN ?_ _ | refine blk_drew ?_ | refine blk_alloc ?_ _)); exact BK457.out)) : gb457 ≠ gb460)); have n11_ := Aside0.mk ((by rw [hg]; exact Nat.ne_of_gt (blk_lt (g := gb457) (o := .cells #[.int .i64 0, .slice none 0 0] 24 (0, 0)) (by (with_reducible repeat (first | refine blk_drewN ?_ _ | refine blk_drew ?_ | refine blk_alloc ?_ _)); exact BK457.out)) : gb460 ≠ gb457)); have n12_ := Aside0.mk ((by rw [hg]; exact Nat.ne_of_lt (blk_lt (g := gb458) (o := .cells #[.int .i64 a0_0, u459001] 24 (0, 0)) (by (with_reducible repeat (first | refine blk_drewN ?_ _ | refine blk_drew ?_ | refine blk_alloc ?_ _)); exact BK458.out)) : gb458 ≠ gb460)); have n13_ := Aside0.mk ((by rw [hg]; exact Nat.ne_of_gt (blk_lt (g := gb458) (o := .cells #[.int .i64 a0_0, u459001] 24 (0, 0)) (by (with_reducible repeat (first | refine blk_drewN ?_ _ | refine blk_drew ?_ | refine blk_alloc ?_ _)); exact BK458.out)) : gb460 ≠ gb458)); clear HO_459001; clear BK456; clear BK457; clear BK458; clear HB; have HO_459001 := n0_; have BK456 := n1_; have BK457 := n2_; have BK458 := n3_; have HB := n4_; have BK460 := n5_; have GW460 := n6_; have GE460 := n7_; have NB456_460 := n8_; have NB460_456 := n9_; have NB457_460 := n10_; have NB460_457 := n11_; have NB458_460 := n12_; have NB460_458 := n13_; clear n0_ n1_ n2_ n3_ n4_ n5_ n6_ n7_ n8_ n9_ n10_ n11_ n12_ n13_; clear hb hbox hg; have hnb17 := NB460_456.out; have hnc17 := NB456_460.out; have hnb18 := NB460_457.out; have hnc18 := NB457_460.out; have hnb19 := NB460_458.out; have hnc19 := NB458_460.out; have hcz20_0 : w16.cell? ⟨gb460, 0, none⟩ = some (.slice none 0 0) := (blk_cell BK460.out 0).trans rfl; have hcz20_1 : w16.cell? ⟨gb460, 1, none⟩ = some (.int .i64 0) := (blk_cell BK460.out 1).trans rfl; have hfz20_0 := blk_frozen BK460.out 0; have hfz20_1 := blk_frozen BK460.out 1))
              have n0_ : Aside0 (Kd.S k33 33 ((w16.setCell ⟨gb460, 0, none⟩ (.slice A459_0 ((rd_T33 l0_1 x12_1).f0).length c459_0)).setCell ⟨gb460, 1, none⟩ (.int .i64 ((rd_T33 l0_1 x12_1).f1))) w.heap.size (fun k_ => k_ ≠ gb460) u459001 x459001_1) := ⟨by (with_reducible repeat (first | apply Kd.S_alloc | apply Kd.S_drewN | apply Kd.S_drew)); exact Kd.S_mono (Kd.S_far (p := ⟨gb460, 1, none⟩) (Kd.S_far (p := ⟨gb460, 0, none⟩) (Kd.S_mono HO_459001.out (fun k_ hk => (⟨hk, hk.2⟩ : _ ∧ k_ ≠ gb460))) (fun _ hk => hk.2) (.slice A459_0 ((rd_T33 l0_1 x12_1).f0).length c459_0)) (fun _ hk => hk.2) (.int .i64 ((rd_T33 l0_1 x12_1).f1))) (fun _ hk => hk.1.2)⟩
              have n1_ : Aside0 (((w16.setCell ⟨gb460, 0, none⟩ (.slice A459_0 ((rd_T33 l0_1 x12_1).f0).length c459_0)).setCell ⟨gb460, 1, none⟩ (.int .i64 ((rd_T33 l0_1 x12_1).f1))).heap[gb456]? = some (.cells #[.int .i64 a0_0, .slice (some ad459) l0_1.length c0_1] 24 (0, 0))) := ⟨by (with_reducible repeat (first | refine blk_drewN ?_ _ | refine blk_drew ?_ | refine blk_alloc ?_ _)); refine blk_far ?_ NB456_460.out _; (with_reducible repeat (first | refine blk_drewN ?_ _ | refine blk_drew ?_ | refine blk_alloc ?_ _)); refine blk_far ?_ NB456_460.out _; (with_reducible repeat (first | refine blk_drewN ?_ _ | refine blk_drew ?_ | refine blk_alloc ?_ _)); exact BK456.out⟩
              have n2_ : Aside0 (((w16.setCell ⟨gb460, 0, none⟩ (.slice A459_0 ((rd_T33 l0_1 x12_1).f0).length c459_0)).setCell ⟨gb460, 1, none⟩ (.int .i64 ((rd_T33 l0_1 x12_1).f1))).heap[gb457]? = some (.cells #[.int .i64 0, .slice none 0 0] 24 (0, 0))) := ⟨by (with_reducible repeat (first | refine blk_drewN ?_ _ | refine blk_drew ?_ | refine blk_alloc ?_ _)); refine blk_far ?_ NB457_460.out _; (with_reducible repeat (first | refine blk_drewN ?_ _ | refine blk_drew ?_ | refine blk_alloc ?_ _)); refine blk_far ?_ NB457_460.out _; (with_reducible repeat (first | refine blk_drewN ?_ _ | refine blk_drew ?_ | refine blk_alloc ?_ _)); exact BK457.out⟩
              have n3_ : Aside0 (((w16.setCell ⟨gb460, 0, none⟩ (.slice A459_0 ((rd_T33 l0_1 x12_1).f0).length c459_0)).setCell ⟨gb460, 1, none⟩ (.int .i64 ((rd_T33 l0_1 x12_1).f1))).heap[gb458]? = some (.cells #[.int .i64 a0_0, u459001] 24 (0, 0))) := ⟨by (with_reducible repeat (first | refine blk_drewN ?_ _ | refine blk_drew ?_ | refine blk_alloc ?_ _)); refine blk_far ?_ NB458_460.out _; (with_reducible repeat (first | refine blk_drewN ?_ _ | refine blk_drew ?_ | refine blk_alloc ?_ _)); refine blk_far ?_ NB458_460.out _; (with_reducible repeat (first | refine blk_drewN ?_ _ | refine blk_drew ?_ | refine blk_alloc ?_ _)); exact BK458.out⟩
              have n4_ : Aside0 (((w16.setCell ⟨gb460, 0, none⟩ (.slice A459_0 ((rd_T33 l0_1 x12_1).f0).length c459_0)).setCell ⟨gb460, 1, none⟩ (.int .i64 ((rd_T33 l0_1 x12_1).f1))).heap[gb460]? = some (.cells #[.slice A459_0 ((rd_T33 l0_1 x12_1).f0).length c459_0, .int .i64 ((rd_T33 l0_1 x12_1).f1)] 33 (0, 0))) := ⟨by (with_reducible repeat (first | refine blk_drewN ?_ _ | refine blk_drew ?_ | refine blk_alloc ?_ _)); refine blk_put (cs := #[.slice A459_0 ((rd_T33 l0_1 x12_1).f0).length c459_0, .int .i64 0]) ?_ 1 _ rfl; (with_reducible repeat (first | refine blk_drewN ?_ _ | refine blk_drew ?_ | refine blk_alloc ?_ _)); refine blk_put (cs := #[.slice none 0 0, .int .i64 0]) ?_ 0 _ rfl; (with_reducible repeat (first | refine blk_drewN ?_ _ | refine blk_drew ?_ | refine blk_alloc ?_ _)); exact BK460.out⟩
              have n5_ : Aside0 (Below w.heap.size w ((w16.setCell ⟨gb460, 0, none⟩ (.slice A459_0 ((rd_T33 l0_1 x12_1).f0).length c459_0)).setCell ⟨gb460, 1, none⟩ (.int .i64 ((rd_T33 l0_1 x12_1).f1)))) := ⟨by repeat (first | (with_reducible first | exact HB.out | apply below_alloc | apply pw_below_drewN | apply below_drew1 | refine below_set ?_ GE456.out | refine below_set ?_ GE457.out | refine below_set ?_ GE458.out | refine below_set ?_ GE460.out) | exact HB.out)⟩
              (try clear HO_459001)
              (try clear BK456)
              (try clear BK457)
              (try clear BK458)
              (try clear BK460)
              (try clear HB)
              generalize ((w16.setCell ⟨gb460, 0, none⟩ (.slice A459_0 ((rd_T33 l0_1 x12_1).f0).length c459_0)).setCell ⟨gb460, 1, none⟩ (.int .i64 ((rd_T33 l0_1 x12_1).f1))) = w21 at n0_ n1_ n2_ n3_ n4_ n5_ ⊢
              have HO_459001 := n0_
              have BK456 := n1_
              have BK457 := n2_
              have BK458 := n3_
              have BK460 := n4_
              have HB := n5_
              clear n0_ n1_ n2_ n3_ n4_ n5_
              have n0_ := Aside0.mk (Kd.S_drew HO_459001.out)
              have n1_ := Aside0.mk (blk_drew BK456.out)
              have n2_ := Aside0.mk (blk_drew BK457.out)
              have n3_ := Aside0.mk (blk_drew BK458.out)
              have n4_ := Aside0.mk (blk_drew BK460.out)
              have n5_ := Aside0.mk (below_drew1 HB.out)
              clear HO_459001
              clear BK456
              clear BK457
              clear BK458
              clear BK460
              clear HB
              have HO_459001 := n0_
              have BK456 := n1_
              have BK457 := n2_
              have BK458 := n3_
              have BK460 := n4_
              have HB := n5_
              clear n0_ n1_ n2_ n3_ n4_ n5_
              refine start_ (n := 8) (S := fun w' => w'.cell? ⟨gb458, 0, none⟩ = some (.int .i64 a0_0) ∧ w'.cell? ⟨gb458, 1, none⟩ = some (u459001) ∧ w'.cell? ⟨gb460, 0, none⟩ = some (.slice A459_0 ((rd_T33 l0_1 x12_1).f0).length c459_0) ∧ w'.cell? ⟨gb460, 1, none⟩ = some (.int .i64 ((rd_T33 l0_1 x12_1).f1))) (ds := [7]) #[false, false, false, false, false, false, false, false] (by kernel_rfl) rfl rfl ⟨(blk_cell BK458.out 0).trans rfl, (blk_cell BK458.out 1).trans rfl, (blk_cell BK460.out 0).trans rfl, (blk_cell BK460.out 1).trans rfl⟩ (fun hHeld => ?_); refine with_tabW linear_same.tab5 linear_same.bits5 (fun HT_ HW_ => ?_)
              generalize w21.drew = w22 at HO_459001 BK456 BK457 BK458 BK460 HB hHeld ⊢
              refine pure_ (i := 0) (N := some 16) (v := ?_) (a' := ?_) #[true, false, false, false, false, false, false, false] rfl rfl (any_of HT_.out (by kernel_rfl)) (fun _ _ _ h => h) (Or.inl ⟨by rfl, ?_⟩) ?_ ?_
              rotate_left
              · intro w'
                go_simp
                with_reducible rfl
              rotate_left
              · simp only [Act.put, List.setIfInBounds_toArray, List.set_cons_zero, List.set_cons_succ, i64_w, i32_w]
                rfl
              refine take_ (i := 1) (N := some 17) (v := ?_) (a' := ?_) #[true, true, false, false, false, false, false, false] rfl rfl (take_ofW HT_.out HW_.out (by kernel_rfl)) (fun _ _ _ h => h) (Or.inl ⟨by rfl, ?_⟩) hHeld ?_ ?_
              rotate_left
              · rintro w' ⟨s0, s1, s2, s3⟩
                go_simp
                with_reducible rfl
              rotate_left
              · simp only [Act.put, List.setIfInBounds_toArray, List.set_cons_zero, List.set_cons_succ, i64_w, i32_w]
                rfl
              refine take_ (i := 2) (N := some 18) (v := ?_) (a' := ?_) #[true, true, true, false, false, false, false, false] rfl rfl (take_ofW HT_.out HW_.out (by kernel_rfl)) (fun _ _ _ h => h) (Or.inl ⟨by rfl, ?_⟩) hHeld ?_ ?_
              rotate_left
              · rintro w' ⟨s0, s1, s2, s3⟩
                go_simp
                with_reducible rfl
              rotate_left
              · simp only [Act.put, List.setIfInBounds_toArray, List.set_cons_zero, List.set_cons_succ, i64_w, i32_w]
                rfl
              refine one_ (i := 3) (N := some 19) #[true, true, true, true, false, false, false, false] rfl rfl (one_of HT_.out (by kernel_rfl)) (by decide) (fun K hK => ?_)
              refine goes_ Tryd.func55 (by kernel_rfl) rfl #[.agg #[.slice A459_0 ((rd_T33 l0_1 x12_1).f0).length c459_0, .int .i64 ((rd_T33 l0_1 x12_1).f1)]] (by rfl) rfl rfl (by (try simp only [List.map_toArray, List.map_cons, List.map_nil]); first | done | rfl | (simp only [List.length_drop, List.length_take]; rfl)) ?_
              with_reducible refine (linear_clone.calls _ _ ((rd_T33 l0_1 x12_1).f0) ((rd_T33 l0_1 x12_1).f1) t461 t464 _ ?side1 ?side2 A14.out).mono ?_
              (case side1 => repeat (first | exact (Kd.C_below HR459_0.out HB.out) | (with_reducible refine Kd.C_alloc ?_ _) | (with_reducible refine Kd.C_drewN ?_ _) | (with_reducible refine Kd.C_drew ?_)))
              (case side2 => exact HC459_0.out)
              rintro e w23 ⟨v462, rfl, ho0, hb⟩
              refine ⟨_, rfl, ?_⟩
              have n0_ := Aside0.mk (Kd.S_elder' (by (with_reducible repeat (first | apply Kd.S_alloc | apply Kd.S_drewN | apply Kd.S_drew)); exact HO_459001.out) (Kd.R_base ho0) hb)
              have n1_ := Aside0.mk (Kd.R_lower ho0 (below_size (by repeat (first | (with_reducible first | exact HB.out | apply below_alloc | apply pw_below_drewN | apply below_drew1 | refine below_set ?_ GE456.out | refine below_set ?_ GE457.out | refine below_set ?_ GE458.out | refine below_set ?_ GE460.out) | exact HB.out))))
              have n2_ := Aside0.mk (blk_below (g := gb456) (o := .cells #[.int .i64 a0_0, .slice (some ad459) l0_1.length c0_1] 24 (0, 0)) (by (with_reducible repeat (first | refine blk_drewN ?_ _ | refine blk_drew ?_ | refine blk_alloc ?_ _)); exact BK456.out) hb)
              have n3_ := Aside0.mk (blk_below (g := gb457) (o := .cells #[.int .i64 0, .slice none 0 0] 24 (0, 0)) (by (with_reducible repeat (first | refine blk_drewN ?_ _ | refine blk_drew ?_ | refine blk_alloc ?_ _)); exact BK457.out) hb)
              have n4_ := Aside0.mk (blk_below (g := gb458) (o := .cells #[.int .i64 a0_0, u459001] 24 (0, 0)) (by (with_reducible repeat (first | refine blk_drewN ?_ _ | refine blk_drew ?_ | refine blk_alloc ?_ _)); exact BK458.out) hb)
              have n5_ := Aside0.mk (blk_below (g := gb460) (o := .cells #[.slice A459_0 ((rd_T33 l0_1 x12_1).f0).length c459_0, .int .i64 ((rd_T33 l0_1 x12_1).f1)] 33 (0, 0)) (by (with_reducible repeat (first | refine blk_drewN ?_ _ | refine blk_drew ?_ | refine blk_alloc ?_ _)); exact BK460.out) hb)
              have n6_ := Aside0.mk (below_step (by repeat (first | (with_reducible first | exact HB.out | apply below_alloc | apply pw_below_drewN | apply below_drew1 | refine below_set ?_ GE456.out | refine below_set ?_ GE457.out | refine below_set ?_ GE458.out | refine below_set ?_ GE460.out) | exact HB.out)) hb)
              clear HO_459001
              clear BK456
              clear BK457
              clear BK458
              clear BK460
              clear HB
              have HO_459001 := n0_
              have HO463 := n1_
              have BK456 := n2_
              have BK457 := n3_
              have BK458 := n4_
              have BK460 := n5_
              have HB := n6_
              clear n0_ n1_ n2_ n3_ n4_ n5_ n6_
              (try clear hb)
              (try clear hb2)
              (try clear hk)
              (try clear hi)
              (try clear ho0)
              obtain ⟨Ao25, co25, eo25⟩ := Kd.R_slice HO463.out
              (first | subst eo25 | (injection eo25 with f1_ f2_ f3_; have f4_ := f1_.symm; have f5_ := f3_.symm; clear f1_ f2_ f3_; subst f4_; subst f5_))
              refine hK.out _ _ ⟨(blk_cell BK458.out 0).trans rfl, (blk_cell BK458.out 1).trans rfl, (blk_cell BK460.out 0).trans rfl, (blk_cell BK460.out 1).trans rfl⟩ (fun hHeld => ?_)
              clear hK K
              refine norm_ (a' := ?_) ?_ ?_
              rotate_left
              · show Act.put _ (some 19) _ = _
                simp only [Act.put, List.setIfInBounds_toArray, List.set_cons_zero, List.set_cons_succ, i64_w, i32_w]
                rfl
              refine one_ (i := 4) (N := some 20) #[true, true, true, true, true, false, false, false] rfl rfl (one_of HT_.out (by kernel_rfl)) (by decide) (fun K hK => ?_)
              refine value_ (w1 := ?_) (v := ?_) (by rfl) rfl ?_ ?_
              rotate_left 2
              · go_simp
                constructor
                · rfl
                · rfl
              refine hK.out _ _ ⟨(blk_cell (blk_alloc BK458.out _) 0).trans rfl, (blk_cell (blk_alloc BK458.out _) 1).trans rfl, (blk_cell (blk_alloc BK460.out _) 0).trans rfl, (blk_cell (blk_alloc BK460.out _) 1).trans rfl⟩ (fun hHeld => ?_)
              clear hK K
              refine norm_ (a' := ?_) ?_ ?_
              rotate_left
              · show Act.put _ (some 20) _ = _
                simp only [Act.put, List.setIfInBounds_toArray, List.set_cons_zero, List.set_cons_succ, i64_w, i32_w]
                rfl
              refine one_ (i := 5) (N := some 21) #[true, true, true, true, true, true, false, false] rfl rfl (one_of HT_.out (by kernel_rfl)) (by decide) (fun K hK => ?_)
              refine Kd.S_append_step k33 (w0 := w) w.heap.size (by rfl) (.tmp 17) (.tmp 20) 22 33 (.agg #[(.slice none 0 0), (.int .i64 0)]) 32 rfl Tryd.underlying22 info33 rfl (by decide) (by omega) u459001 x459001_1 (⟨t461, t464⟩ : S33) [.slice Ao25 t461.length co25, .int .i64 t464] (fun k_ => k_ ≠ gb460) (fun k_ => some k_ = (.slice Ao25 t461.length co25 : Value).ownBlock) rfl rfl ?aP (fun k_ hk_ => ((Kd.R_mono (ok' := fun k_ => ((fun k_ => k_ ≠ gb460)) k_ ∧ some k_ ≠ (u459001 : Value).ownBlock) (Kd.R_types (Kd.R_apart' (HO463.out) (Kd.S_typed HO_459001.out) (by decide)) BK460.out (by decide)) (fun k_ hk => ⟨hk.2, hk.1.2⟩))).1 k_ hk_.symm) ?aF ?aO ?aB ?aS ?aL ?_
              (case aP => exact k33_mkM _ _ _ (⟨t461, t464⟩ : S33) (Kd.R_mono (Kd.R_tight rfl (Kd.R_mono (ok' := fun k_ => ((fun k_ => k_ ≠ gb460)) k_ ∧ some k_ ≠ (u459001 : Value).ownBlock) (Kd.R_types (Kd.R_apart' (HO463.out) (Kd.S_typed HO_459001.out) (by decide)) BK460.out (by decide)) (fun k_ hk => ⟨hk.2, hk.1.2⟩))) (fun _ h_ => h_)))
              (case aB => exact (by repeat (first | (with_reducible first | exact HB.out | apply below_alloc | apply pw_below_drewN | apply below_drew1 | refine below_set ?_ GE456.out | refine below_set ?_ GE457.out | refine below_set ?_ GE458.out | refine below_set ?_ GE460.out) | exact HB.out)))
              (case aF => exact (fun k_ hk => Kd.freshB (g := gb460) (o := .cells #[.slice A459_0 ((rd_T33 l0_1 x12_1).f0).length c459_0, .int .i64 ((rd_T33 l0_1 x12_1).f1)] 33 (0, 0)) (by (with_reducible repeat (first | refine blk_drewN ?_ _ | refine blk_drew ?_ | refine blk_alloc ?_ _)); exact BK460.out) k_ hk))
              (case aO => exact (by (with_reducible repeat (first | apply Kd.S_alloc | apply Kd.S_drewN | apply Kd.S_drew)); exact Kd.S_mono HO_459001.out (fun k_ hk => ⟨hk.1, fun e_ => hk.2 e_⟩)))
              (case aS => exact (below_size (by repeat (first | (with_reducible first | exact HB.out | apply below_alloc | apply pw_below_drewN | apply below_drew1 | refine below_set ?_ GE456.out | refine below_set ?_ GE457.out | refine below_set ?_ GE458.out | refine below_set ?_ GE460.out) | exact HB.out))))
              (case aL => have := LMc15.out; omega)
              intro v466 w24 ho hb hg hat
              rw [← Ny465.out] at ho
              have n0_ := Aside0.mk (blk_grown (g := gb456) (o := .cells #[.int .i64 a0_0, .slice (some ad459) l0_1.length c0_1] 24 (0, 0)) (by (with_reducible repeat (first | refine blk_drewN ?_ _ | refine blk_drew ?_ | refine blk_alloc ?_ _)); exact BK456.out) hg (Kd.S_ne HO_459001.out BK456.out (by decide)))
              have n1_ := Aside0.mk (blk_grown (g := gb457) (o := .cells #[.int .i64 0, .slice none 0 0] 24 (0, 0)) (by (with_reducible repeat (first | refine blk_drewN ?_ _ | refine blk_drew ?_ | refine blk_alloc ?_ _)); exact BK457.out) hg (Kd.S_ne HO_459001.out BK457.out (by decide)))
              have n2_ := Aside0.mk (blk_grown (g := gb458) (o := .cells #[.int .i64 a0_0, u459001] 24 (0, 0)) (by (with_reducible repeat (first | refine blk_drewN ?_ _ | refine blk_drew ?_ | refine blk_alloc ?_ _)); exact BK458.out) hg (Kd.S_ne HO_459001.out BK458.out (by decide)))
              have n3_ := Aside0.mk (blk_grown (g := gb460) (o := .cells #[.slice A459_0 ((rd_T33 l0_1 x12_1).f0).length c459_0, .int .i64 ((rd_T33 l0_1 x12_1).f1)] 33 (0, 0)) (by (with_reducible repeat (first | refine blk_drewN ?_ _ | refine blk_drew ?_ | refine blk_alloc ?_ _)); exact BK460.out) hg (Kd.S_away HO_459001.out (fun _ hk => hk.1)))
              have n4_ := Aside0.mk (hb)
              have n5_ := Aside0.mk (ho)
              clear BK456
              clear BK457
              clear BK458
              clear BK460
              clear HB
              clear HO_459001
              clear HO463
              have BK456 := n0_
              have BK457 := n1_
              have BK458 := n2_
              have BK460 := n3_
              have HB := n4_
              have HO467 := n5_
              clear n0_ n1_ n2_ n3_ n4_ n5_
              clear ho hb hg hat
              obtain ⟨Ao26, co26, eo26⟩ := Kd.S_slice HO467.out
              (first | subst eo26 | (injection eo26 with f1_ f2_ f3_; have f4_ := f1_.symm; have f5_ := f3_.symm; clear f1_ f2_ f3_; subst f4_; subst f5_))
              refine hK.out _ _ ⟨(blk_cell BK458.out 0).trans rfl, (blk_cell BK458.out 1).trans rfl, (blk_cell BK460.out 0).trans rfl, (blk_cell BK460.out 1).trans rfl⟩ (fun hHeld => ?_)
              clear hK K
              refine norm_ (a' := ?_) ?_ ?_
              rotate_left
              · show Act.put _ (some 21) _ = _
                simp only [Act.put, List.setIfInBounds_toArray, List.set_cons_zero, List.set_cons_succ, i64_w, i32_w]
                rfl
              refine pure_ (i := 6) (N := some 22) (v := ?_) (a' := ?_) #[true, true, true, true, true, true, true, false] rfl rfl (any_of HT_.out (by kernel_rfl)) (fun _ _ _ h => h) (Or.inl ⟨by rfl, ?_⟩) ?_ ?_
              rotate_left
              · intro w'
                go_simp
                with_reducible rfl
              rotate_left
              · simp only [Act.put, List.setIfInBounds_toArray, List.set_cons_zero, List.set_cons_succ, i64_w, i32_w]
                rfl
              refine last_ (i := 7) (N := none) #[true, true, true, true, true, true, true, true] rfl rfl (one_of HT_.out (by kernel_rfl)) (by decide) (fun K hK => ?_)
              have hs27 : w24.cell? ⟨gb458, 1, none⟩ = some (u459001) := (blk_cell BK458.out 1).trans rfl
              have hfs27 := blk_frozen BK458.out 1
              have hns27_0 := NB456_458.out
              have hns27_1 := NB457_458.out
              have hns27_3 := NB460_458.out
              have hms27_0 := NB458_456.out
              have hms27_1 := NB458_457.out
              have hms27_3 := NB458_460.out
              refine skip_ (w1 := ?_) (by rfl) rfl ?_ ?_
              rotate_left
              · go_simp
                rfl
              refine hK.out _ _ ?_
              clear hK K
              refine done_ (done_of HT_.out (by kernel_rfl)) ?_
              try go_wp2
              go_roundg k1
              case measure => have := HK1.out; omega
              case rel => exact ⟨(wrap64 (x12_1 + 1)), (y465), (.slice Ao26 y465.length co26), (by first | rfl | (simp; done) | (simp [*]; done)), H', ⟨by have := HK1.out; omega⟩, ⟨by (with_reducible repeat (first | apply Kd.S_alloc | apply Kd.S_drewN | apply Kd.S_drew)); exact Kd.S_mono (Kd.S_far (p := ⟨gb458, 1, none⟩) (Kd.S_types HO467.out BK458.out (by decide)) (fun _ hk => hk.2) (.slice Ao26 y465.length co26)) (fun _ hk => trivial)⟩, ⟨by (with_reducible repeat (first | refine blk_drewN ?_ _ | refine blk_drew ?_ | refine blk_alloc ?_ _)); refine blk_far ?_ NB456_458.out _; (with_reducible repeat (first | refine blk_drewN ?_ _ | refine blk_drew ?_ | refine blk_alloc ?_ _)); exact BK456.out⟩, ⟨by (with_reducible repeat (first | refine blk_drewN ?_ _ | refine blk_drew ?_ | refine blk_alloc ?_ _)); refine blk_far ?_ NB457_458.out _; (with_reducible repeat (first | refine blk_drewN ?_ _ | refine blk_drew ?_ | refine blk_alloc ?_ _)); exact BK457.out⟩, ⟨by (with_reducible repeat (first | refine blk_drewN ?_ _ | refine blk_drew ?_ | refine blk_alloc ?_ _)); refine blk_put (cs := #[.int .i64 a0_0, u459001]) ?_ 1 _ rfl; (with_reducible repeat (first | refine blk_drewN ?_ _ | refine blk_drew ?_ | refine blk_alloc ?_ _)); exact BK458.out⟩, ⟨by repeat (first | (with_reducible first | exact HB.out | apply below_alloc | apply pw_below_drewN | apply below_drew1 | refine below_set ?_ GE456.out | refine below_set ?_ GE457.out | refine below_set ?_ GE458.out | refine below_set ?_ GE460.out) | exact HB.out)⟩⟩
            · rw [if_neg c15] at H
              exact absurd H (by simp)
          · rw [if_neg c13] at H
            exact absurd H (by simp)
        · rw [if_neg c12] at H
          exact absurd H (by simp)
      · rw [if_neg c11] at H
        have c11b0 : decide (x12_1 < (l0_1.length : Int)) = false := decide_eq_false c11
        clear c11
        simp only [Option.some.injEq, Prod.mk.injEq] at H
        obtain ⟨rfl, rfl⟩ := H
        have hnb28 := NB458_456.out
        have hnc28 := NB456_458.out
        have hnb29 := NB458_457.out
        have hnc29 := NB457_458.out
        have hcz30_0 : wr.cell? ⟨gb458, 0, none⟩ = some (.int .i64 a0_0) := (blk_cell BK458.out 0).trans rfl
        have hcz30_1 : wr.cell? ⟨gb458, 1, none⟩ = some (u459001) := (blk_cell BK458.out 1).trans rfl
        have hfz30_0 := blk_frozen BK458.out 0
        have hfz30_1 := blk_frozen BK458.out 1
        have hnb31 := NB457_456.out
        have hnc31 := NB456_457.out
        have hcz32_0 : wr.cell? ⟨gb457, 0, none⟩ = some (.int .i64 0) := (blk_cell BK457.out 0).trans rfl
        have hcz32_1 : wr.cell? ⟨gb457, 1, none⟩ = some (.slice none 0 0) := (blk_cell BK457.out 1).trans rfl
        have hfz32_0 := blk_frozen BK457.out 0
        have hfz32_1 := blk_frozen BK457.out 1
        obtain ⟨Ao33, co33, eo33⟩ := Kd.S_slice HO_459001.out
        subst eo33
        go_wp2
        refine bodyPost_ret (results_cell_row rfl _ _ gb457 24 #[.int .i64 a0_0, .slice Ao33 x459001_1.length co33] (0, 0) _ rfl (by (with_reducible repeat (first | refine blk_drewN ?_ _ | refine blk_drew ?_ | refine blk_alloc ?_ _)); refine blk_put (cs := #[.int .i64 a0_0, .slice none 0 0]) ?_ 1 _ rfl; (with_reducible repeat (first | refine blk_drewN ?_ _ | refine blk_drew ?_ | refine blk_alloc ?_ _)); refine blk_put (cs := #[.int .i64 0, .slice none 0 0]) ?_ 0 _ rfl; (with_reducible repeat (first | refine blk_drewN ?_ _ | refine blk_drew ?_ | refine blk_alloc ?_ _)); exact BK457.out) Tryd.underlying24 rfl (by kernel_rfl)) rfl ?_
        exact ⟨_, by first | rfl | (simp [errW_none, errW_some] <;> rfl) | (simp [*, errW_none, errW_some] <;> rfl), by (with_reducible repeat (first | apply Kd.S_alloc | apply Kd.S_drewN | apply Kd.S_drew)); exact Kd.S_mono (Kd.S_far (p := ⟨gb457, 1, none⟩) (Kd.S_far (p := ⟨gb457, 0, none⟩) (Kd.S_types HO_459001.out BK457.out (by decide)) (fun _ hk => hk.2) (.int .i64 a0_0)) (fun _ hk => hk.2) (.slice Ao33 x459001_1.length co33)) (fun _ hk => trivial), by repeat (first | (with_reducible first | exact HB.out | apply below_alloc | apply pw_below_drewN | apply below_drew1 | refine below_set ?_ GE456.out | refine below_set ?_ GE457.out | refine below_set ?_ GE458.out) | exact HB.out)⟩

end Go.Proofs.YtbioiodjdfcooaaDoor.P
