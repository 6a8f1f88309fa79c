import Derived.Test.YtbioiodjdfcooaaDoorVBPx0
import Derived.Test.YtbioiodjdfcooaaDoorVBPx1
import Derived.Test.YtbioiodjdfcooaaDoorVBPx27
-- Written by a program of this session (wip/tools/doprint.sh: the kit's print, with given texts for some functions).
namespace Go.Proofs.YtbioiodjdfcooaaDoor.P
open Go.RowKit Go.Proofs.YtbioiodjdfcooaaDoorW.PrintWords Go.Proofs.YtbioiodjdfcooaaDoorW.PrintLast Go.Proofs.YtbioiodjdfcooaaDoorW.PrintMore
attribute [local go_sem] max2_int min2_int max_two min_two max_three min_three max_four min_four   -- for this text's walks alone
set_option linter.unusedVariables false
set_option linter.unusedSimpArgs false

/-! ### linear_Combine: function 39 -/
mutual
def linear_Combine.j0 : Nat → Int → Int → Bool → List Int → Int → List Int → Int → Option (List Int × Int × Int)
  | 0, _, _, _, _, _, _, _ => none
  | k + 1, x1, x3, x34, x389000, x389001, x390000, x390001 => if x34 = true then (some (([] : List Int), 0, 1)) else ((linear_small.f k x389000 x389001).bind fun t393 => (if t393 = true then ((linear_small.f k x390000 x390001).bind fun t394 => (linear_Combine.j1 k x1 x3 (!t394) x389000 x389001 x390000 x390001)) else (linear_Combine.j1 k x1 x3 true x389000 x389001 x390000 x390001)))
def linear_Combine.j1 : Nat → Int → Int → Bool → List Int → Int → List Int → Int → Option (List Int × Int × Int)
  | 0, _, _, _, _, _, _, _ => none
  | k + 1, x1, x3, x43, x389000, x389001, x390000, x390001 => if x43 = true then (some (([] : List Int), 0, 4)) else (if 0 ≤ (x389000.length : Int) then (if ((x389000.length : Int) : Int).toNat ≤ 35184372088832 then (linear_Combine.l0 k x1 x3 (x389000.length : Int) 0 x389000 x389001 x390000 x390001 (List.replicate ((x389000.length : Int) : Int).toNat 0) (wrap64 ((wrap64 (x1 * x389001)) + (wrap64 (x3 * x390001))))) else (none)) else (none))
def linear_Combine.l0 : Nat → Int → Int → Int → Int → List Int → Int → List Int → Int → List Int → Int → Option (List Int × Int × Int)
  | 0, _, _, _, _, _, _, _, _, _, _ => none
  | k + 1, x1, x3, x61, x62, x389000, x389001, x390000, x390001, x399000, x399001 => if x62 < x61 then (if 0 ≤ x62 then (if x62 < (x389000.length : Int) then (if x62 < (x390000.length : Int) then (if x62 < (x399000.length : Int) then (linear_Combine.l0 k x1 x3 x61 (wrap64 (x62 + 1)) x389000 x389001 x390000 x390001 (x399000.set (x62 : Int).toNat (wrap64 ((wrap64 (x1 * (rd x389000 x62))) + (wrap64 (x3 * (rd x390000 x62)))))) x399001) else (none)) else (none)) else (none)) else (none)) else ((linear_small.f k x399000 x399001).bind fun t402 => (if t402 = true then (some (x399000, x399001, 0)) else (some (([] : List Int), 0, 4))))
end
def linear_Combine.f (k : Nat) (l0_0 : List Int) (a0_1 : Int) (a1 : Int) (l2_0 : List Int) (a2_1 : Int) (a3 : Int) : Option (List Int × Int × Int) := if (l0_0.length : Int) = (l2_0.length : Int) then (if (l0_0.length : Int) > 96 then (linear_Combine.j0 k a1 a3 true l0_0 a0_1 l2_0 a2_1) else ((linear_factor.f a1).bind fun t391 => (if t391 = true then ((linear_factor.f a3).bind fun t392 => (linear_Combine.j0 k a1 a3 (!t392) l0_0 a0_1 l2_0 a2_1)) else (linear_Combine.j0 k a1 a3 true l0_0 a0_1 l2_0 a2_1)))) else (linear_Combine.j0 k a1 a3 true l0_0 a0_1 l2_0 a2_1)
def linear_Combine.T5 : Bool × List (List Nat × List Nat) := (true, [([], []), ([0], [0]), ([1], [1]), ([2, 2], [2]), ([], []), ([], []), ([5], [5]), ([4, 6], [4, 6]), ([], []), ([], []), ([9], [9]), ([8, 10], [8, 10]), ([7, 11], [7, 11]), ([3, 12], [3, 12]), ([], []), ([14, 13, 0, 1, 2, 3, 4, 5, 6, 7, 8, 9, 10, 11, 12, 13, 14], [13, 14])])
def linear_Combine.B5 : List Nat := [0, 1, 3, 7, 0, 0, 32, 112, 0, 0, 512, 1792, 4080, 8191, 0, 32767]
theorem linear_Combine.tab5 : rtab .any (opsOf Tryd.f39 5) = linear_Combine.T5 := by kernel_rfl
theorem linear_Combine.bits5 : waitsOk linear_Combine.T5.2 linear_Combine.B5 = true := by kernel_rfl
def linear_Combine.T9 : Bool × List (List Nat × List Nat) := (true, [([], []), ([0], [0]), ([], []), ([], []), ([], []), ([4], [4]), ([], []), ([5, 6], [5, 6]), ([7], [7]), ([3, 8], [3, 8]), ([], []), ([], []), ([11], [11]), ([], []), ([12, 13], [12, 13]), ([14], [14]), ([10, 15], [10, 15]), ([9, 16], [9, 16]), ([1, 2, 0, 1, 2, 3, 4, 5, 6, 7, 8, 9, 10, 11, 12, 13, 14, 15, 16, 17], [1, 2]), ([18, 17, 0, 1, 2, 3, 4, 5, 6, 7, 8, 9, 10, 11, 12, 13, 14, 15, 16, 17], [17, 18])])
def linear_Combine.B9 : List Nat := [0, 1, 0, 0, 0, 16, 0, 112, 240, 504, 0, 0, 2048, 0, 14336, 30720, 64512, 131064, 262143, 524287]
theorem linear_Combine.tab9 : rtab .any (opsOf Tryd.f39 9) = linear_Combine.T9 := by kernel_rfl
theorem linear_Combine.bits9 : waitsOk linear_Combine.T9.2 linear_Combine.B9 = true := by kernel_rfl
set_option maxHeartbeats 8000000 in
set_option maxRecDepth 100000 in
theorem linear_Combine.calls (k : Nat) (A0_0 : Option Addr) (c0_0 : Nat) (l0_0 : List Int) (a0_1 : Int) (a1 : Int) (A2_0 : Option Addr) (c2_0 : Nat) (l2_0 : List Int) (a2_1 : Int) (a3 : Int) (r1 : List Int) (r2 : Int) (r3 : Int) (w : World) (hr0_0 : Kd.C (Kd.int .i64) w A0_0 l0_0.length l0_0) (hc0_0 : l0_0.length ≤ c0_0) (hr2_0 : Kd.C (Kd.int .i64) w A2_0 l2_0.length l2_0) (hc2_0 : l2_0.length ≤ c2_0) (h : linear_Combine.f k l0_0 a0_1 a1 l2_0 a2_1 a3 = some (r1, r2, r3)) :
    Calls Tryd.prog 39 #[.agg #[.slice A0_0 l0_0.length c0_0, .int .i64 a0_1], .int .i64 a1, .agg #[.slice A2_0 l2_0.length c2_0, .int .i64 a2_1], .int .i64 a3] w fun e w' => ∃ v0_ : Value, e = .returned (.tuple #[.agg #[v0_, .int .i64 r2], .int .i64 r3]) ∧ Kd.R (Kd.int .i64) 3 w' w.heap.size (fun _ => True) v0_ r1 ∧ Below w.heap.size w w' := by
  have hu33 := Tryd.underlying33
  have HR0_0 := Aside0.mk hr0_0
  have HC0_0 := Aside0.mk hc0_0
  clear hr0_0 hc0_0
  have HR2_0 := Aside0.mk hr2_0
  have HC2_0 := Aside0.mk hc2_0
  clear hr2_0 hc2_0
  have HB := Aside0.mk (Below.refl w.heap.size w)
  have H : (if (l0_0.length : Int) = (l2_0.length : Int) then (if (l0_0.length : Int) > 96 then (linear_Combine.j0 k a1 a3 true l0_0 a0_1 l2_0 a2_1) else ((linear_factor.f a1).bind fun t391 => (if t391 = true then ((linear_factor.f a3).bind fun t392 => (linear_Combine.j0 k a1 a3 (!t392) l0_0 a0_1 l2_0 a2_1)) else (linear_Combine.j0 k a1 a3 true l0_0 a0_1 l2_0 a2_1)))) else (linear_Combine.j0 k a1 a3 true l0_0 a0_1 l2_0 a2_1)) = some (r1, r2, r3) := h
  clear h
  have HC5 := Aside0.mk H
  clear H
  go_enter Tryd.func39, Tryd.ntmps39
  go_upto_region 1 with (first | ((with_reducible refine gate_dst (N := 4) rfl ?_); (try (refine gate_guard (by rfl) ?_; dsimp only)); refine box_event ?hg (N := 4) ?hd (cs := #[.slice A0_0 l0_0.length c0_0, .int .i64 a0_1]) (t := 33) ?hr ?_; (case hd => rfl); (case hg => rfl); (case hr => first | (go_simp; done) | (go_simp; rfl)); intro gb388 hg w6 hbox hb; have n0_ := Aside0.mk (below_step (by repeat (first | (with_reducible first | exact HB.out | apply below_alloc | apply pw_below_drewN | apply below_drew1) | exact HB.out)) hb); have n1_ := Aside0.mk (hbox); have n2_ := Aside0.mk ((by rw [hg]; exact (below_size (by repeat (first | (with_reducible first | exact HB.out | apply below_alloc | apply pw_below_drewN | apply below_drew1) | exact HB.out))) : w.heap.size ≤ gb388)); have n3_ := Aside0.mk ((by rw [hg]; exact (below_size (by repeat (first | (with_reducible first | exact HB.out | apply below_alloc | apply pw_below_drewN | apply below_drew1) | exact HB.out))) : w.heap.size ≤ gb388)); clear HB; have HB := n0_; have BK388 := n1_; have GW388 := n2_; have GE388 := n3_; clear n0_ n1_ n2_ n3_; clear hb hbox hg) | ((with_reducible refine gate_dst (N := 6) rfl ?_); (try (refine gate_guard (by rfl) ?_; dsimp only)); refine box_event ?hg (N := 6) ?hd (cs := #[.slice A2_0 l2_0.length c2_0, .int .i64 a2_1]) (t := 33) ?hr ?_; (case hd => rfl); (case hg => rfl); (case hr => first | (go_simp; done) | (go_simp; rfl)); intro gb389 hg w7 hbox hb; have n0_ := Aside0.mk (blk_below (g := gb388) (o := .cells #[.slice A0_0 l0_0.length c0_0, .int .i64 a0_1] 33 (0, 0)) (by (with_reducible repeat (first | refine blk_drewN ?_ _ | refine blk_drew ?_ | refine blk_alloc ?_ _)); exact BK388.out) hb); have n1_ := Aside0.mk (below_step (by repeat (first | (with_reducible first | exact HB.out | apply below_alloc | apply pw_below_drewN | apply below_drew1 | refine below_set ?_ GE388.out) | exact HB.out)) hb); have n2_ := Aside0.mk (hbox); have n3_ := Aside0.mk ((by rw [hg]; exact (below_size (by repeat (first | (with_reducible first | exact HB.out | apply below_alloc | apply pw_below_drewN | apply below_drew1 | refine below_set ?_ GE388.out) | exact HB.out))) : w.heap.size ≤ gb389)); have n4_ := Aside0.mk ((by rw [hg]; exact (below_size (by repeat (first | (with_reducible first | exact HB.out | apply below_alloc | apply pw_below_drewN | apply below_drew1 | refine below_set ?_ GE388.out) | exact HB.out))) : w.heap.size ≤ gb389)); have n5_ := Aside0.mk ((by rw [hg]; exact Nat.ne_of_lt (blk_lt (g := gb388) (o := .cells #[.slice A0_0 l0_0.length c0_0, .int .i64 a0_1] 33 (0, 0)) (by (with_reducible repeat (first | refine blk_drewN ?_ _ | refine blk_drew ?_ | refine blk_alloc ?_ _)); exact BK388.out)) : gb388 ≠ gb389)); have n6_ := Aside0.mk ((by rw [hg]; exact Nat.ne_of_gt (blk_lt (g := gb388) (o := .cells #[.slice A0_0 l0_0.length c0_0, .int .i64 a0_1] 33 (0, 0)) (by (with_reducible repeat (first | refine blk_drewN ?_ _ | refine blk_drew ?_ | refine blk_alloc ?_ _)); exact BK388.out)) : gb389 ≠ gb388)); clear BK388; clear HB; have BK388 := n0_; have HB := n1_; have BK389 := n2_; have GW389 := n3_; have GE389 := n4_; have NB388_389 := n5_; have NB389_388 := n6_; clear n0_ n1_ n2_ n3_ n4_ n5_ n6_; clear hb hbox hg) | ((with_reducible refine gate_dst (N := 8) rfl ?_); (try (refine gate_guard (by rfl) ?_; dsimp only)); refine box_event ?hg (N := 8) ?hd (cs := #[.slice none 0 0, .int .i64 0]) (t := 33) ?hr ?_; (case hd => rfl); (case hg => rfl); (case hr => first | (go_simp; done) | (go_simp; rfl)); intro gb390 hg w8 hbox hb; have n0_ := Aside0.mk (blk_below (g := gb388) (o := .cells #[.slice A0_0 l0_0.length c0_0, .int .i64 a0_1] 33 (0, 0)) (by (with_reducible repeat (first | refine blk_drewN ?_ _ | refine blk_drew ?_ | refine blk_alloc ?_ _)); exact BK388.out) hb); have n1_ := Aside0.mk (blk_below (g := gb389) (o := .cells #[.slice A2_0 l2_0.length c2_0, .int .i64 a2_1] 33 (0, 0)) (by (with_reducible repeat (first | refine blk_drewN ?_ _ | refine blk_drew ?_ | refine blk_alloc ?_ _)); exact BK389.out) hb); have n2_ := Aside0.mk (below_step (by repeat (first | (with_reducible first | exact HB.out | apply below_alloc | apply pw_below_drewN | apply below_drew1 | refine below_set ?_ GE388.out | refine below_set ?_ GE389.out) | exact HB.out)) hb); have n3_ := Aside0.mk (hbox); have n4_ := Aside0.mk ((by rw [hg]; exact (below_size (by repeat (first | (with_reducible first | exact HB.out | apply below_alloc | apply pw_below_drewN | apply below_drew1 | refine below_set ?_ GE388.out | refine below_set ?_ GE389.out) | exact HB.out))) : w.heap.size ≤ gb390)); have n5_ := Aside0.mk ((by rw [hg]; exact (below_size (by repeat (first | (with_reducible first | exact HB.out | apply below_alloc | apply pw_below_drewN | apply below_drew1 | refine below_set ?_ GE388.out | refine below_set ?_ GE389.out) | exact HB.out))) : w.heap.size ≤ gb390)); have n6_ := Aside0.mk ((by rw [hg]; exact Nat.ne_of_lt (blk_lt (g := gb388) (o := .cells #[.slice A0_0 l0_0.length c0_0, .int .i64 a0_1] 33 (0, 0)) (by (with_reducible repeat (first | refine blk_drewN ?_ _ | refine blk_drew ?_ | refine blk_alloc ?_ _)); exact BK388.out)) : gb388 ≠ gb390)); have n7_ := Aside0.mk ((by rw [hg]; exact Nat.ne_of_gt (blk_lt (g := gb388) (o := .cells #[.slice A0_0 l0_0.length c0_0, .int .i64 a0_1] 33 (0, 0)) (by (with_reducible repeat (first | refine blk_drewN ?_ _ | refine blk_drew ?_ | refine blk_alloc ?_ _)); exact BK388.out)) : gb390 ≠ gb388)); have n8_ := Aside0.mk ((by rw [hg]; exact Nat.ne_of_lt (blk_lt (g := gb389) (o := .cells #[.slice A2_0 l2_0.length c2_0, .int .i64 a2_1] 33 (0, 0)) (by (with_reducible repeat (first | refine blk_drewN ?_ _ | refine blk_drew ?_ | refine blk_alloc ?_ _)); exact BK389.out)) : gb389 ≠ gb390)); have n9_ := Aside0.mk ((by rw [hg]; exact Nat.ne_of_gt (blk_lt (g := gb389) (o := .cells #[.slice A2_0 l2_0.length c2_0, .int .i64 a2_1] 33 (0, 0)) (by (with_reducible repeat (first | refine blk_drewN ?_ _ | refine blk_drew ?_ | refine blk_alloc ?_ _)); exact BK389.out)) : gb390 ≠ gb389)); clear BK388; clear BK389; clear HB; have BK388 := n0_; have BK389 := n1_; have HB := n2_; have BK390 := n3_; have GW390 := n4_; have GE390 := n5_; have NB388_390 := n6_; have NB390_388 := n7_; have NB389_390 := n8_; have NB390_389 := n9_; clear n0_ n1_ n2_ n3_ n4_ n5_ n6_ n7_ n8_ n9_; clear hb hbox hg))
  (try simp only [Act.put, List.setIfInBounds_toArray, List.set_cons_zero, List.set_cons_succ])
  go_cut [34] (fun v34 wc => ∃ (kq : Nat) (x34_4 : Bool), v34 = .bool x34_4 ∧ Aside0 (linear_Combine.j0 kq a1 a3 x34_4 l0_0 a0_1 l2_0 a2_1 = some (r1, r2, r3)) ∧ Aside0 (kq ≤ k) ∧ Aside0 (wc.heap[gb388]? = some (.cells #[(.slice A0_0 l0_0.length c0_0), .int .i64 a0_1] 33 (0, 0))) ∧ Aside0 (wc.heap[gb389]? = some (.cells #[(.slice A2_0 l2_0.length c2_0), .int .i64 a2_1] 33 (0, 0))) ∧ Aside0 (wc.heap[gb390]? = some (.cells #[(.slice none 0 0), .int .i64 0] 33 (0, 0))) ∧ Aside0 (Below w.heap.size w wc))
  case first =>
    have H := HC5.out
    clear HC5
    by_cases c9 : (l0_0.length : Int) = (l2_0.length : Int)
    · rw [if_pos c9] at H
      have c9b0 : ((l0_0.length : Int) == (l2_0.length : Int)) = true := beq_iff_eq.mpr c9
      have c9b1 : ((l0_0.length : Int) != (l2_0.length : Int)) = false := bne_eq_false_iff_eq.mpr c9
      have c9b2 : (l0_0.length == l2_0.length) = true := by first | simpa using c9 | (simp at c9 ⊢; omega)
      clear c9
      (first | rw [c9b0] | (simp only [i64_w, i32_w]; rw [c9b0]) | skip)
      by_cases c10 : (l0_0.length : Int) > 96
      · rw [if_pos c10] at H
        have c10b0 : decide (96 < (l0_0.length : Int)) = true := decide_eq_true c10
        have c10b1 : decide (96 < l0_0.length) = true := decide_eq_true (by omega)
        clear c10
        have H' := Aside0.mk H
        clear H
        have hnb11 := NB388_389.out
        have hnc11 := NB389_388.out
        have hnb12 := NB388_390.out
        have hnc12 := NB390_388.out
        have hcz13_0 : w8.cell? ⟨gb388, 0, none⟩ = some (.slice A0_0 l0_0.length c0_0) := (blk_cell BK388.out 0).trans rfl
        have hcz13_1 : w8.cell? ⟨gb388, 1, none⟩ = some (.int .i64 a0_1) := (blk_cell BK388.out 1).trans rfl
        have hfz13_0 := blk_frozen BK388.out 0
        have hfz13_1 := blk_frozen BK388.out 1
        have hnb14 := NB389_390.out
        have hnc14 := NB390_389.out
        have hcz15_0 : w8.cell? ⟨gb389, 0, none⟩ = some (.slice A2_0 l2_0.length c2_0) := (blk_cell BK389.out 0).trans rfl
        have hcz15_1 : w8.cell? ⟨gb389, 1, none⟩ = some (.int .i64 a2_1) := (blk_cell BK389.out 1).trans rfl
        have hfz15_0 := blk_frozen BK389.out 0
        have hfz15_1 := blk_frozen BK389.out 1
        go_wp2
        go_meet
        case rel => exact ⟨_, (true), (by first | rfl | (simp; done) | (simp [*]; done)), H', ⟨by first | omega | exact Nat.le_refl _⟩, ⟨by (with_reducible repeat (first | refine blk_drewN ?_ _ | refine blk_drew ?_ | refine blk_alloc ?_ _)); exact BK388.out⟩, ⟨by (with_reducible repeat (first | refine blk_drewN ?_ _ | refine blk_drew ?_ | refine blk_alloc ?_ _)); exact BK389.out⟩, ⟨by (with_reducible repeat (first | refine blk_drewN ?_ _ | refine blk_drew ?_ | refine blk_alloc ?_ _)); exact BK390.out⟩, ⟨by repeat (first | (with_reducible first | exact HB.out | apply below_alloc | apply pw_below_drewN | apply below_drew1 | refine below_set ?_ GE388.out | refine below_set ?_ GE389.out | refine below_set ?_ GE390.out) | exact HB.out)⟩⟩
      · rw [if_neg c10] at H
        have c10b0 : decide (96 < (l0_0.length : Int)) = false := decide_eq_false c10
        have c10b1 : decide (96 < l0_0.length) = false := decide_eq_false (by omega)
        clear c10
        replace H := Option.bind_eq_some_iff.mp H
        obtain ⟨t391, A160, H⟩ := H
        replace H : (if t391 = true then ((linear_factor.f a3).bind fun t392 => (linear_Combine.j0 k a1 a3 (!t392) l0_0 a0_1 l2_0 a2_1)) else (linear_Combine.j0 k a1 a3 true l0_0 a0_1 l2_0 a2_1)) = some (r1, r2, r3) := H
        have A16 := Aside0.mk A160
        clear A160
        by_cases c17 : t391 = true
        · subst c17
          have H1 : ((linear_factor.f a3).bind fun t392 => (linear_Combine.j0 k a1 a3 (!t392) l0_0 a0_1 l2_0 a2_1)) = some (r1, r2, r3) := by rw [if_pos rfl] at H; exact H
          clear H
          have H := H1
          clear H1
          replace H := Option.bind_eq_some_iff.mp H
          obtain ⟨t392, A180, H⟩ := H
          replace H : (linear_Combine.j0 k a1 a3 (!t392) l0_0 a0_1 l2_0 a2_1) = some (r1, r2, r3) := H
          have A18 := Aside0.mk A180
          clear A180
          have H' := Aside0.mk H
          clear H
          have hnb19 := NB388_389.out
          have hnc19 := NB389_388.out
          have hnb20 := NB388_390.out
          have hnc20 := NB390_388.out
          have hcz21_0 : w8.cell? ⟨gb388, 0, none⟩ = some (.slice A0_0 l0_0.length c0_0) := (blk_cell BK388.out 0).trans rfl
          have hcz21_1 : w8.cell? ⟨gb388, 1, none⟩ = some (.int .i64 a0_1) := (blk_cell BK388.out 1).trans rfl
          have hfz21_0 := blk_frozen BK388.out 0
          have hfz21_1 := blk_frozen BK388.out 1
          have hnb22 := NB389_390.out
          have hnc22 := NB390_389.out
          have hcz23_0 : w8.cell? ⟨gb389, 0, none⟩ = some (.slice A2_0 l2_0.length c2_0) := (blk_cell BK389.out 0).trans rfl
          have hcz23_1 : w8.cell? ⟨gb389, 1, none⟩ = some (.int .i64 a2_1) := (blk_cell BK389.out 1).trans rfl
          have hfz23_0 := blk_frozen BK389.out 0
          have hfz23_1 := blk_frozen BK389.out 1
          go_wp2_with (first | (go_at_call 67; (with_reducible refine (linear_factor.calls a1 true _ A16.out).mono ?_); rintro e w' ⟨rfl, ⟨nd, rfl⟩⟩) | (go_at_call 67; (with_reducible refine (linear_factor.calls a3 t392 _ A18.out).mono ?_); rintro e w' ⟨rfl, ⟨nd, rfl⟩⟩))
          go_meet
          case rel => exact ⟨_, (!t392), (by first | rfl | (simp; done) | (simp [*]; done)), H', ⟨by first | omega | exact Nat.le_refl _⟩, ⟨by (with_reducible repeat (first | refine blk_drewN ?_ _ | refine blk_drew ?_ | refine blk_alloc ?_ _)); exact BK388.out⟩, ⟨by (with_reducible repeat (first | refine blk_drewN ?_ _ | refine blk_drew ?_ | refine blk_alloc ?_ _)); exact BK389.out⟩, ⟨by (with_reducible repeat (first | refine blk_drewN ?_ _ | refine blk_drew ?_ | refine blk_alloc ?_ _)); exact BK390.out⟩, ⟨by repeat (first | (with_reducible first | exact HB.out | apply below_alloc | apply pw_below_drewN | apply below_drew1 | refine below_set ?_ GE388.out | refine below_set ?_ GE389.out | refine below_set ?_ GE390.out) | exact HB.out)⟩⟩
        · replace c17 := Bool.eq_false_iff.mpr c17
          subst c17
          have H1 : (linear_Combine.j0 k a1 a3 true l0_0 a0_1 l2_0 a2_1) = some (r1, r2, r3) := by rw [if_neg (show ¬ (false = true) by decide)] at H; exact H
          clear H
          have H := H1
          clear H1
          have H' := Aside0.mk H
          clear H
          have hnb24 := NB388_389.out
          have hnc24 := NB389_388.out
          have hnb25 := NB388_390.out
          have hnc25 := NB390_388.out
          have hcz26_0 : w8.cell? ⟨gb388, 0, none⟩ = some (.slice A0_0 l0_0.length c0_0) := (blk_cell BK388.out 0).trans rfl
          have hcz26_1 : w8.cell? ⟨gb388, 1, none⟩ = some (.int .i64 a0_1) := (blk_cell BK388.out 1).trans rfl
          have hfz26_0 := blk_frozen BK388.out 0
          have hfz26_1 := blk_frozen BK388.out 1
          have hnb27 := NB389_390.out
          have hnc27 := NB390_389.out
          have hcz28_0 : w8.cell? ⟨gb389, 0, none⟩ = some (.slice A2_0 l2_0.length c2_0) := (blk_cell BK389.out 0).trans rfl
          have hcz28_1 : w8.cell? ⟨gb389, 1, none⟩ = some (.int .i64 a2_1) := (blk_cell BK389.out 1).trans rfl
          have hfz28_0 := blk_frozen BK389.out 0
          have hfz28_1 := blk_frozen BK389.out 1
          go_wp2_with (first | (go_at_call 67; (with_reducible refine (linear_factor.calls a1 false _ A16.out).mono ?_); rintro e w' ⟨rfl, ⟨nd, rfl⟩⟩))
          go_meet
          case rel => exact ⟨_, (true), (by first | rfl | (simp; done) | (simp [*]; done)), H', ⟨by first | omega | exact Nat.le_refl _⟩, ⟨by (with_reducible repeat (first | refine blk_drewN ?_ _ | refine blk_drew ?_ | refine blk_alloc ?_ _)); exact BK388.out⟩, ⟨by (with_reducible repeat (first | refine blk_drewN ?_ _ | refine blk_drew ?_ | refine blk_alloc ?_ _)); exact BK389.out⟩, ⟨by (with_reducible repeat (first | refine blk_drewN ?_ _ | refine blk_drew ?_ | refine blk_alloc ?_ _)); exact BK390.out⟩, ⟨by repeat (first | (with_reducible first | exact HB.out | apply below_alloc | apply pw_below_drewN | apply below_drew1 | refine below_set ?_ GE388.out | refine below_set ?_ GE389.out | refine below_set ?_ GE390.out) | exact HB.out)⟩⟩
    · rw [if_neg c9] at H
      have c9b0 : ((l0_0.length : Int) == (l2_0.length : Int)) = false := beq_eq_false_iff_ne.mpr c9
      have c9b1 : ((l0_0.length : Int) != (l2_0.length : Int)) = true := bne_iff_ne.mpr c9
      have c9b2 : (l0_0.length == l2_0.length) = false := by first | simpa using c9 | (simp at c9 ⊢; omega)
      (first | rw [c9b0] | (simp only [i64_w, i32_w]; rw [c9b0]) | skip)
      have H' := Aside0.mk H
      clear H
      have hnb29 := NB388_389.out
      have hnc29 := NB389_388.out
      have hnb30 := NB388_390.out
      have hnc30 := NB390_388.out
      have hcz31_0 : w8.cell? ⟨gb388, 0, none⟩ = some (.slice A0_0 l0_0.length c0_0) := (blk_cell BK388.out 0).trans rfl
      have hcz31_1 : w8.cell? ⟨gb388, 1, none⟩ = some (.int .i64 a0_1) := (blk_cell BK388.out 1).trans rfl
      have hfz31_0 := blk_frozen BK388.out 0
      have hfz31_1 := blk_frozen BK388.out 1
      have hnb32 := NB389_390.out
      have hnc32 := NB390_389.out
      have hcz33_0 : w8.cell? ⟨gb389, 0, none⟩ = some (.slice A2_0 l2_0.length c2_0) := (blk_cell BK389.out 0).trans rfl
      have hcz33_1 : w8.cell? ⟨gb389, 1, none⟩ = some (.int .i64 a2_1) := (blk_cell BK389.out 1).trans rfl
      have hfz33_0 := blk_frozen BK389.out 0
      have hfz33_1 := blk_frozen BK389.out 1
      go_wp2
      go_meet
      case rel => exact ⟨_, (true), (by first | rfl | (simp; done) | (simp [*]; done)), H', ⟨by first | omega | exact Nat.le_refl _⟩, ⟨by (with_reducible repeat (first | refine blk_drewN ?_ _ | refine blk_drew ?_ | refine blk_alloc ?_ _)); exact BK388.out⟩, ⟨by (with_reducible repeat (first | refine blk_drewN ?_ _ | refine blk_drew ?_ | refine blk_alloc ?_ _)); exact BK389.out⟩, ⟨by (with_reducible repeat (first | refine blk_drewN ?_ _ | refine blk_drew ?_ | refine blk_alloc ?_ _)); exact BK390.out⟩, ⟨by repeat (first | (with_reducible first | exact HB.out | apply below_alloc | apply pw_below_drewN | apply below_drew1 | refine below_set ?_ GE388.out | refine below_set ?_ GE389.out | refine below_set ?_ GE390.out) | exact HB.out)⟩⟩
  case rest =>
    clear HC5
    try clear c1
    try clear c2
    try clear p2
    try clear c3
    try clear c9
    try clear c9b0
    try clear c9b1
    try clear c9b2
    try clear c10
    try clear c10b0
    try clear c10b1
    try clear c11
    try clear c12
    try clear c14
    try clear c17
    try clear c19
    try clear c20
    try clear c22
    try clear c24
    try clear c25
    try clear c27
    try clear c29
    try clear c30
    try clear c32
    try clear hcz13_0
    try clear hcz13_1
    try clear hcz15_0
    try clear hcz15_1
    try clear hcz21_0
    try clear hcz21_1
    try clear hcz23_0
    try clear hcz23_1
    try clear hcz26_0
    try clear hcz26_1
    try clear hcz28_0
    try clear hcz28_1
    try clear hcz31_0
    try clear hcz31_1
    try clear hcz33_0
    try clear hcz33_1
    try clear hfz13_0
    try clear hfz13_1
    try clear hfz15_0
    try clear hfz15_1
    try clear hfz21_0
    try clear hfz21_1
    try clear hfz23_0
    try clear hfz23_1
    try clear hfz26_0
    try clear hfz26_1
    try clear hfz28_0
    try clear hfz28_1
    try clear hfz31_0
    try clear hfz31_1
    try clear hfz33_0
    try clear hfz33_1
    obtain ⟨kq, x34_4, rfl, HA, HJ4, BK388, BK389, BK390, HB⟩ := hcut
    cases kq with
    | zero => exact absurd HA.out (by simp [linear_Combine.j0])
    | succ kj4 =>
      have H := HA.out
      clear HA
      simp only [linear_Combine.j0] at H
      by_cases c34 : x34_4 = true
      · subst c34
        have H1 : (some (([] : List Int), 0, 1)) = some (r1, r2, r3) := by rw [if_pos rfl] at H; exact H
        clear H
        have H := H1
        clear H1
        simp only [Option.some.injEq, Prod.mk.injEq] at H
        obtain ⟨rfl, rfl, rfl⟩ := H
        have hnb35 := NB390_388.out
        have hnc35 := NB388_390.out
        have hnb36 := NB390_389.out
        have hnc36 := NB389_390.out
        have hcz37_0 : wc.cell? ⟨gb390, 0, none⟩ = some (.slice none 0 0) := (blk_cell BK390.out 0).trans rfl
        have hcz37_1 : wc.cell? ⟨gb390, 1, none⟩ = some (.int .i64 0) := (blk_cell BK390.out 1).trans rfl
        have hfz37_0 := blk_frozen BK390.out 0
        have hfz37_1 := blk_frozen BK390.out 1
        go_wp2
        refine bodyPost_ret (results_ct rfl _ _ gb390 33 #[.slice none 0 0, .int .i64 0] (0, 0) _ rfl (by (with_reducible repeat (first | refine blk_drewN ?_ _ | refine blk_drew ?_ | refine blk_alloc ?_ _)); refine blk_put (cs := #[.slice none 0 0, .int .i64 0]) ?_ 1 _ rfl; (with_reducible repeat (first | refine blk_drewN ?_ _ | refine blk_drew ?_ | refine blk_alloc ?_ _)); refine blk_put (cs := #[.slice none 0 0, .int .i64 0]) ?_ 0 _ rfl; (with_reducible repeat (first | refine blk_drewN ?_ _ | refine blk_drew ?_ | refine blk_alloc ?_ _)); exact BK390.out) Tryd.underlying33 rfl (by kernel_rfl)) rfl ?_
        exact ⟨_, by first | rfl | (simp [errW_none, errW_some] <;> rfl) | (simp [*, errW_none, errW_some] <;> rfl), by first | exact Kd.R_nil _ _ _ _ _ | exact Kd.N_nil _ _ _ _ _ | exact Kd.V_nil _ _ _ _ _ | exact Kd.Q_nil _ _ _ _ _ | exact Kd.S_nil _ _ _ _ _, by repeat (first | (with_reducible first | exact HB.out | apply below_alloc | apply pw_below_drewN | apply below_drew1 | refine below_set ?_ GE388.out | refine below_set ?_ GE389.out | refine below_set ?_ GE390.out) | exact HB.out)⟩
      · replace c34 := Bool.eq_false_iff.mpr c34
        subst c34
        have H1 : ((linear_small.f kj4 l0_0 a0_1).bind fun t393 => (if t393 = true then ((linear_small.f kj4 l2_0 a2_1).bind fun t394 => (linear_Combine.j1 kj4 a1 a3 (!t394) l0_0 a0_1 l2_0 a2_1)) else (linear_Combine.j1 kj4 a1 a3 true l0_0 a0_1 l2_0 a2_1))) = some (r1, r2, r3) := by rw [if_neg (show ¬ (false = true) by decide)] at H; exact H
        clear H
        have H := H1
        clear H1
        have HC38 := Aside0.mk H
        clear H
        go_upto_region 3 with (fail)
        go_cut [43] (fun v43 wc => ∃ (kq : Nat) (x43_37 : Bool), v43 = .bool x43_37 ∧ Aside0 (linear_Combine.j1 kq a1 a3 x43_37 l0_0 a0_1 l2_0 a2_1 = some (r1, r2, r3)) ∧ Aside0 (kq ≤ kj4) ∧ Aside0 (wc.heap[gb388]? = some (.cells #[(.slice A0_0 l0_0.length c0_0), .int .i64 a0_1] 33 (0, 0))) ∧ Aside0 (wc.heap[gb389]? = some (.cells #[(.slice A2_0 l2_0.length c2_0), .int .i64 a2_1] 33 (0, 0))) ∧ Aside0 (wc.heap[gb390]? = some (.cells #[(.slice none 0 0), .int .i64 0] 33 (0, 0))) ∧ Aside0 (Below w.heap.size w wc))
        case first =>
          have H := HC38.out
          clear HC38
          replace H := Option.bind_eq_some_iff.mp H
          obtain ⟨t393, A390, H⟩ := H
          replace H : (if t393 = true then ((linear_small.f kj4 l2_0 a2_1).bind fun t394 => (linear_Combine.j1 kj4 a1 a3 (!t394) l0_0 a0_1 l2_0 a2_1)) else (linear_Combine.j1 kj4 a1 a3 true l0_0 a0_1 l2_0 a2_1)) = some (r1, r2, r3) := H
          have A39 := Aside0.mk A390
          clear A390
          by_cases c40 : t393 = true
          · subst c40
            have H1 : ((linear_small.f kj4 l2_0 a2_1).bind fun t394 => (linear_Combine.j1 kj4 a1 a3 (!t394) l0_0 a0_1 l2_0 a2_1)) = some (r1, r2, r3) := by rw [if_pos rfl] at H; exact H
            clear H
            have H := H1
            clear H1
            replace H := Option.bind_eq_some_iff.mp H
            obtain ⟨t394, A410, H⟩ := H
            replace H : (linear_Combine.j1 kj4 a1 a3 (!t394) l0_0 a0_1 l2_0 a2_1) = some (r1, r2, r3) := H
            have A41 := Aside0.mk A410
            clear A410
            have H' := Aside0.mk H
            clear H
            have hnb42 := NB388_389.out
            have hnc42 := NB389_388.out
            have hnb43 := NB388_390.out
            have hnc43 := NB390_388.out
            have hcz44_0 : wc.cell? ⟨gb388, 0, none⟩ = some (.slice A0_0 l0_0.length c0_0) := (blk_cell BK388.out 0).trans rfl
            have hcz44_1 : wc.cell? ⟨gb388, 1, none⟩ = some (.int .i64 a0_1) := (blk_cell BK388.out 1).trans rfl
            have hfz44_0 := blk_frozen BK388.out 0
            have hfz44_1 := blk_frozen BK388.out 1
            go_wp2_with (first | ((with_reducible refine gate_callee (f := 49) rfl ?_); refine goesL_ (some 37) rfl rfl Tryd.func49 (by kernel_rfl) rfl #[.agg #[.slice A0_0 l0_0.length c0_0, .int .i64 a0_1]] rfl (by (try simp only [List.map_toArray, List.map_cons, List.map_nil]); first | done | rfl | (simp only [List.length_drop, List.length_take]; rfl)) ?_; (with_reducible refine (linear_small.calls kj4 _ _ l0_0 a0_1 true _ ?side1 ?side2 A39.out).mono ?_); (case side1 => repeat (first | exact (Kd.C_below HR0_0.out HB.out) | (with_reducible refine Kd.C_alloc ?_ _) | (with_reducible refine Kd.C_drewN ?_ _) | (with_reducible refine Kd.C_drew ?_))); (case side2 => exact HC0_0.out); rintro e w45 ⟨rfl, hb⟩; refine ⟨_, rfl, ?_⟩; have n0_ := Aside0.mk (blk_below (g := gb388) (o := .cells #[.slice A0_0 l0_0.length c0_0, .int .i64 a0_1] 33 (0, 0)) (by (with_reducible repeat (first | refine blk_drewN ?_ _ | refine blk_drew ?_ | refine blk_alloc ?_ _)); exact BK388.out) hb); have n1_ := Aside0.mk (blk_below (g := gb389) (o := .cells #[.slice A2_0 l2_0.length c2_0, .int .i64 a2_1] 33 (0, 0)) (by (with_reducible repeat (first | refine blk_drewN ?_ _ | refine blk_drew ?_ | refine blk_alloc ?_ _)); exact BK389.out) hb); have n2_ := Aside0.mk (blk_below (g := gb390) (o := .cells #[.slice none 0 0, .int .i64 0] 33 (0, 0)) (by (with_reducible repeat (first | refine blk_drewN ?_ _ | refine blk_drew ?_ | refine blk_alloc ?_ _)); exact BK390.out) hb); have n3_ := Aside0.mk (below_step (by repeat (first | (with_reducible first | exact HB.out | apply below_alloc | apply pw_below_drewN | apply below_drew1 | refine below_set ?_ GE388.out | refine below_set ?_ GE389.out | refine below_set ?_ GE390.out) | exact HB.out)) hb); clear BK388; clear BK389; clear BK390; clear HB; have BK388 := n0_; have BK389 := n1_; have BK390 := n2_; have HB := n3_; clear n0_ n1_ n2_ n3_; (try clear hb); (try clear hb2); (try clear hk); (try clear hi); have hnb46 := NB389_390.out; have hnc46 := NB390_389.out; have hcz47_0 : w45.cell? ⟨gb389, 0, none⟩ = some (.slice A2_0 l2_0.length c2_0) := (blk_cell BK389.out 0).trans rfl; have hcz47_1 : w45.cell? ⟨gb389, 1, none⟩ = some (.int .i64 a2_1) := (blk_cell BK389.out 1).trans rfl; have hfz47_0 := blk_frozen BK389.out 0; have hfz47_1 := blk_frozen BK389.out 1) | (go_at_call 49; (with_reducible refine (linear_small.calls kj4 _ _ l2_0 a2_1 t394 _ ?side1 ?side2 A41.out).mono ?_); (case side1 => repeat (first | exact (Kd.C_below HR2_0.out HB.out) | (with_reducible refine Kd.C_alloc ?_ _) | (with_reducible refine Kd.C_drewN ?_ _) | (with_reducible refine Kd.C_drew ?_))); (case side2 => exact HC2_0.out); rintro e w48 ⟨rfl, hb⟩; have n0_ := Aside0.mk (blk_below (g := gb388) (o := .cells #[.slice A0_0 l0_0.length c0_0, .int .i64 a0_1] 33 (0, 0)) (by (with_reducible repeat (first | refine blk_drewN ?_ _ | refine blk_drew ?_ | refine blk_alloc ?_ _)); exact BK388.out) hb); have n1_ := Aside0.mk (blk_below (g := gb389) (o := .cells #[.slice A2_0 l2_0.length c2_0, .int .i64 a2_1] 33 (0, 0)) (by (with_reducible repeat (first | refine blk_drewN ?_ _ | refine blk_drew ?_ | refine blk_alloc ?_ _)); exact BK389.out) hb); have n2_ := Aside0.mk (blk_below (g := gb390) (o := .cells #[.slice none 0 0, .int .i64 0] 33 (0, 0)) (by (with_reducible repeat (first | refine blk_drewN ?_ _ | refine blk_drew ?_ | refine blk_alloc ?_ _)); exact BK390.out) hb); have n3_ := Aside0.mk (below_step (by repeat (first | (with_reducible first | exact HB.out | apply below_alloc | apply pw_below_drewN | apply below_drew1 | refine below_set ?_ GE388.out | refine below_set ?_ GE389.out | refine below_set ?_ GE390.out) | exact HB.out)) hb); clear BK388; clear BK389; clear BK390; clear HB; have BK388 := n0_; have BK389 := n1_; have BK390 := n2_; have HB := n3_; clear n0_ n1_ n2_ n3_; (try clear hb); (try clear hb2); (try clear hk); (try clear hi)))
            go_meet
            case rel => exact ⟨_, (!t394), (by first | rfl | (simp; done) | (simp [*]; done)), H', ⟨by have := HJ4.out; first | omega | exact Nat.le_refl _⟩, ⟨by (with_reducible repeat (first | refine blk_drewN ?_ _ | refine blk_drew ?_ | refine blk_alloc ?_ _)); exact BK388.out⟩, ⟨by (with_reducible repeat (first | refine blk_drewN ?_ _ | refine blk_drew ?_ | refine blk_alloc ?_ _)); exact BK389.out⟩, ⟨by (with_reducible repeat (first | refine blk_drewN ?_ _ | refine blk_drew ?_ | refine blk_alloc ?_ _)); exact BK390.out⟩, ⟨by repeat (first | (with_reducible first | exact HB.out | apply below_alloc | apply pw_below_drewN | apply below_drew1 | refine below_set ?_ GE388.out | refine below_set ?_ GE389.out | refine below_set ?_ GE390.out) | exact HB.out)⟩⟩
          · replace c40 := Bool.eq_false_iff.mpr c40
            subst c40
            have H1 : (linear_Combine.j1 kj4 a1 a3 true l0_0 a0_1 l2_0 a2_1) = some (r1, r2, r3) := by rw [if_neg (show ¬ (false = true) by decide)] at H; exact H
            clear H
            have H := H1
            clear H1
            have H' := Aside0.mk H
            clear H
            have hnb49 := NB388_389.out
            have hnc49 := NB389_388.out
            have hnb50 := NB388_390.out
            have hnc50 := NB390_388.out
            have hcz51_0 : wc.cell? ⟨gb388, 0, none⟩ = some (.slice A0_0 l0_0.length c0_0) := (blk_cell BK388.out 0).trans rfl
            have hcz51_1 : wc.cell? ⟨gb388, 1, none⟩ = some (.int .i64 a0_1) := (blk_cell BK388.out 1).trans rfl
            have hfz51_0 := blk_frozen BK388.out 0
            have hfz51_1 := blk_frozen BK388.out 1
            go_wp2_with (first | ((with_reducible refine gate_callee (f := 49) rfl ?_); refine goesL_ (some 37) rfl rfl Tryd.func49 (by kernel_rfl) rfl #[.agg #[.slice A0_0 l0_0.length c0_0, .int .i64 a0_1]] rfl (by (try simp only [List.map_toArray, List.map_cons, List.map_nil]); first | done | rfl | (simp only [List.length_drop, List.length_take]; rfl)) ?_; (with_reducible refine (linear_small.calls kj4 _ _ l0_0 a0_1 false _ ?side1 ?side2 A39.out).mono ?_); (case side1 => repeat (first | exact (Kd.C_below HR0_0.out HB.out) | (with_reducible refine Kd.C_alloc ?_ _) | (with_reducible refine Kd.C_drewN ?_ _) | (with_reducible refine Kd.C_drew ?_))); (case side2 => exact HC0_0.out); rintro e w52 ⟨rfl, hb⟩; refine ⟨_, rfl, ?_⟩; have n0_ := Aside0.mk (blk_below (g := gb388) (o := .cells #[.slice A0_0 l0_0.length c0_0, .int .i64 a0_1] 33 (0, 0)) (by (with_reducible repeat (first | refine blk_drewN ?_ _ | refine blk_drew ?_ | refine blk_alloc ?_ _)); exact BK388.out) hb); have n1_ := Aside0.mk (blk_below (g := gb389) (o := .cells #[.slice A2_0 l2_0.length c2_0, .int .i64 a2_1] 33 (0, 0)) (by (with_reducible repeat (first | refine blk_drewN ?_ _ | refine blk_drew ?_ | refine blk_alloc ?_ _)); exact BK389.out) hb); have n2_ := Aside0.mk (blk_below (g := gb390) (o := .cells #[.slice none 0 0, .int .i64 0] 33 (0, 0)) (by (with_reducible repeat (first | refine blk_drewN ?_ _ | refine blk_drew ?_ | refine blk_alloc ?_ _)); exact BK390.out) hb); have n3_ := Aside0.mk (below_step (by repeat (first | (with_reducible first | exact HB.out | apply below_alloc | apply pw_below_drewN | apply below_drew1 | refine below_set ?_ GE388.out | refine below_set ?_ GE389.out | refine below_set ?_ GE390.out) | exact HB.out)) hb); clear BK388; clear BK389; clear BK390; clear HB; have BK388 := n0_; have BK389 := n1_; have BK390 := n2_; have HB := n3_; clear n0_ n1_ n2_ n3_; (try clear hb); (try clear hb2); (try clear hk); (try clear hi)))
            go_meet
            case rel => exact ⟨_, (true), (by first | rfl | (simp; done) | (simp [*]; done)), H', ⟨by have := HJ4.out; first | omega | exact Nat.le_refl _⟩, ⟨by (with_reducible repeat (first | refine blk_drewN ?_ _ | refine blk_drew ?_ | refine blk_alloc ?_ _)); exact BK388.out⟩, ⟨by (with_reducible repeat (first | refine blk_drewN ?_ _ | refine blk_drew ?_ | refine blk_alloc ?_ _)); exact BK389.out⟩, ⟨by (with_reducible repeat (first | refine blk_drewN ?_ _ | refine blk_drew ?_ | refine blk_alloc ?_ _)); exact BK390.out⟩, ⟨by repeat (first | (with_reducible first | exact HB.out | apply below_alloc | apply pw_below_drewN | apply below_drew1 | refine below_set ?_ GE388.out | refine below_set ?_ GE389.out | refine below_set ?_ GE390.out) | exact HB.out)⟩⟩
        case rest =>
          clear HC38
          try clear c1
          try clear c2
          try clear p2
          try clear c3
          try clear c4
          try clear c5
          try clear c9
          try clear c9b0
          try clear c9b1
          try clear c9b2
          try clear c10
          try clear c10b0
          try clear c10b1
          try clear c11
          try clear c12
          try clear c14
          try clear c17
          try clear c19
          try clear c20
          try clear c22
          try clear c24
          try clear c25
          try clear c27
          try clear c29
          try clear c30
          try clear c32
          try clear c34
          try clear c35
          try clear c36
          try clear c39
          try clear c40
          try clear c42
          try clear c43
          try clear c46
          try clear c49
          try clear c50
          try clear hcz13_0
          try clear hcz13_1
          try clear hcz15_0
          try clear hcz15_1
          try clear hcz21_0
          try clear hcz21_1
          try clear hcz23_0
          try clear hcz23_1
          try clear hcz26_0
          try clear hcz26_1
          try clear hcz28_0
          try clear hcz28_1
          try clear hcz31_0
          try clear hcz31_1
          try clear hcz33_0
          try clear hcz33_1
          try clear hcz37_0
          try clear hcz37_1
          try clear hcz44_0
          try clear hcz44_1
          try clear hcz47_0
          try clear hcz47_1
          try clear hcz51_0
          try clear hcz51_1
          try clear hfz13_0
          try clear hfz13_1
          try clear hfz15_0
          try clear hfz15_1
          try clear hfz21_0
          try clear hfz21_1
          try clear hfz23_0
          try clear hfz23_1
          try clear hfz26_0
          try clear hfz26_1
          try clear hfz28_0
          try clear hfz28_1
          try clear hfz31_0
          try clear hfz31_1
          try clear hfz33_0
          try clear hfz33_1
          try clear hfz37_0
          try clear hfz37_1
          try clear hfz44_0
          try clear hfz44_1
          try clear hfz47_0
          try clear hfz47_1
          try clear hfz51_0
          try clear hfz51_1
          try clear p2
          obtain ⟨kq, x43_37, rfl, HA, HJ37, BK388, BK389, BK390, HB⟩ := hcut
          cases kq with
          | zero => exact absurd HA.out (by simp [linear_Combine.j1])
          | succ kj37 =>
            have H := HA.out
            clear HA
            simp only [linear_Combine.j1] at H
            by_cases c53 : x43_37 = true
            · subst c53
              have H1 : (some (([] : List Int), 0, 4)) = some (r1, r2, r3) := by rw [if_pos rfl] at H; exact H
              clear H
              have H := H1
              clear H1
              simp only [Option.some.injEq, Prod.mk.injEq] at H
              obtain ⟨rfl, rfl, rfl⟩ := H
              have hnb54 := NB390_388.out
              have hnc54 := NB388_390.out
              have hnb55 := NB390_389.out
              have hnc55 := NB389_390.out
              have hcz56_0 : wc.cell? ⟨gb390, 0, none⟩ = some (.slice none 0 0) := (blk_cell BK390.out 0).trans rfl
              have hcz56_1 : wc.cell? ⟨gb390, 1, none⟩ = some (.int .i64 0) := (blk_cell BK390.out 1).trans rfl
              have hfz56_0 := blk_frozen BK390.out 0
              have hfz56_1 := blk_frozen BK390.out 1
              go_wp2
              refine bodyPost_ret (results_ct rfl _ _ gb390 33 #[.slice none 0 0, .int .i64 0] (0, 0) _ rfl (by (with_reducible repeat (first | refine blk_drewN ?_ _ | refine blk_drew ?_ | refine blk_alloc ?_ _)); refine blk_put (cs := #[.slice none 0 0, .int .i64 0]) ?_ 1 _ rfl; (with_reducible repeat (first | refine blk_drewN ?_ _ | refine blk_drew ?_ | refine blk_alloc ?_ _)); refine blk_put (cs := #[.slice none 0 0, .int .i64 0]) ?_ 0 _ rfl; (with_reducible repeat (first | refine blk_drewN ?_ _ | refine blk_drew ?_ | refine blk_alloc ?_ _)); exact BK390.out) Tryd.underlying33 rfl (by kernel_rfl)) rfl ?_
              exact ⟨_, by first | rfl | (simp [errW_none, errW_some] <;> rfl) | (simp [*, errW_none, errW_some] <;> rfl), by first | exact Kd.R_nil _ _ _ _ _ | exact Kd.N_nil _ _ _ _ _ | exact Kd.V_nil _ _ _ _ _ | exact Kd.Q_nil _ _ _ _ _ | exact Kd.S_nil _ _ _ _ _, by repeat (first | (with_reducible first | exact HB.out | apply below_alloc | apply pw_below_drewN | apply below_drew1 | refine below_set ?_ GE388.out | refine below_set ?_ GE389.out | refine below_set ?_ GE390.out) | exact HB.out)⟩
            · replace c53 := Bool.eq_false_iff.mpr c53
              subst c53
              have H1 : (if 0 ≤ (l0_0.length : Int) then (if ((l0_0.length : Int) : Int).toNat ≤ 35184372088832 then (linear_Combine.l0 kj37 a1 a3 (l0_0.length : Int) 0 l0_0 a0_1 l2_0 a2_1 (List.replicate ((l0_0.length : Int) : Int).toNat 0) (wrap64 ((wrap64 (a1 * a0_1)) + (wrap64 (a3 * a2_1))))) else (none)) else (none)) = some (r1, r2, r3) := by rw [if_neg (show ¬ (false = true) by decide)] at H; exact H
              clear H
              have H := H1
              clear H1
              by_cases c57 : 0 ≤ (l0_0.length : Int)
              · rw [if_pos c57] at H
                have c57b0 := eq_true c57
                have c57b1 : decide (0 ≤ (l0_0.length : Int)) = true := decide_eq_true c57
                clear c57
                by_cases c58 : ((l0_0.length : Int) : Int).toNat ≤ 35184372088832
                · rw [if_pos c58] at H
                  have c58b0 := eq_true c58
                  have c58b1 : decide (((l0_0.length : Int) : Int).toNat ≤ 35184372088832) = true := decide_eq_true c58
                  clear c58
                  obtain ⟨y395, hy395⟩ : ∃ y_ : List Int, y_ = (List.replicate ((l0_0.length : Int) : Int).toNat 0) := ⟨_, rfl⟩
                  replace H : (linear_Combine.l0 kj37 a1 a3 (l0_0.length : Int) 0 l0_0 a0_1 l2_0 a2_1 y395 (wrap64 ((wrap64 (a1 * a0_1)) + (wrap64 (a3 * a2_1))))) = some (r1, r2, r3) := by first | (rw [hy395]; with_reducible exact H) | (have H2_ := (Option.bind_some _ _).symm.trans H; rw [hy395]; with_reducible exact H2_) | (have H2_ := (Option.bind_some _ _).symm.trans H; with_reducible exact H2_) | with_reducible exact H | (rw [hy395]; exact H) | exact H
                  have Ny395 := Aside0.mk hy395
                  clear hy395
                  have H' := Aside0.mk H
                  clear H
                  try go_wp2
                  have n0_ := Aside0.mk (blk_drew BK388.out)
                  have n1_ := Aside0.mk (blk_drew BK389.out)
                  have n2_ := Aside0.mk (blk_drew BK390.out)
                  have n3_ := Aside0.mk (below_drew1 HB.out)
                  clear BK388
                  clear BK389
                  clear BK390
                  clear HB
                  have BK388 := n0_
                  have BK389 := n1_
                  have BK390 := n2_
                  have HB := n3_
                  clear n0_ n1_ n2_ n3_
                  refine start_ (n := 16) (S := fun w' => w'.cell? ⟨gb388, 0, none⟩ = some (.slice A0_0 l0_0.length c0_0) ∧ w'.cell? ⟨gb388, 1, none⟩ = some (.int .i64 a0_1) ∧ w'.cell? ⟨gb389, 0, none⟩ = some (.slice A2_0 l2_0.length c2_0) ∧ w'.cell? ⟨gb389, 1, none⟩ = some (.int .i64 a2_1)) (ds := []) #[false, false, false, false, false, false, false, false, false, false, false, false, false, false, false, false] (by kernel_rfl) rfl rfl ⟨(blk_cell BK388.out 0).trans rfl, (blk_cell BK388.out 1).trans rfl, (blk_cell BK389.out 0).trans rfl, (blk_cell BK389.out 1).trans rfl⟩ (fun hHeld => ?_); refine with_tabW linear_Combine.tab5 linear_Combine.bits5 (fun HT_ HW_ => ?_)
                  generalize wc.drew = w59 at BK388 BK389 BK390 HB hHeld ⊢
                  refine pure_ (i := 0) (N := some 45) (v := ?_) (a' := ?_) #[true, false, false, false, false, false, false, false, false, false, false, false, false, false, false, false] rfl rfl (any_of HT_.out (by kernel_rfl)) (fun _ _ _ h => h) (Or.inl ⟨by rfl, ?_⟩) ?_ ?_
                  rotate_left
                  · intro w'
                    go_simp
                    with_reducible rfl
                  rotate_left
                  · simp only [Act.put, List.setIfInBounds_toArray, List.set_cons_zero, List.set_cons_succ, i64_w, i32_w]
                    rfl
                  refine pure_ (i := 4) (N := some 49) (v := ?_) (a' := ?_) #[true, false, false, false, true, false, false, false, false, false, false, false, false, false, false, false] rfl rfl (any_of HT_.out (by kernel_rfl)) (fun _ _ _ h => h) (Or.inl ⟨by rfl, ?_⟩) ?_ ?_
                  rotate_left
                  · intro w'
                    go_simp
                    with_reducible rfl
                  rotate_left
                  · simp only [Act.put, List.setIfInBounds_toArray, List.set_cons_zero, List.set_cons_succ, i64_w, i32_w]
                    rfl
                  refine pure_ (i := 5) (N := some 50) (v := ?_) (a' := ?_) #[true, false, false, false, true, true, false, false, false, false, false, false, false, false, false, false] rfl rfl (any_of HT_.out (by kernel_rfl)) (fun _ _ _ h => h) (Or.inl ⟨by rfl, ?_⟩) ?_ ?_
                  rotate_left
                  · intro w'
                    go_simp
                    with_reducible rfl
                  rotate_left
                  · simp only [Act.put, List.setIfInBounds_toArray, List.set_cons_zero, List.set_cons_succ, i64_w, i32_w]
                    rfl
                  refine pure_ (i := 8) (N := some 53) (v := ?_) (a' := ?_) #[true, false, false, false, true, true, false, false, true, false, false, false, false, false, false, false] rfl rfl (any_of HT_.out (by kernel_rfl)) (fun _ _ _ h => h) (Or.inl ⟨by rfl, ?_⟩) ?_ ?_
                  rotate_left
                  · intro w'
                    go_simp
                    with_reducible rfl
                  rotate_left
                  · simp only [Act.put, List.setIfInBounds_toArray, List.set_cons_zero, List.set_cons_succ, i64_w, i32_w]
                    rfl
                  refine pure_ (i := 9) (N := some 54) (v := ?_) (a' := ?_) #[true, false, false, false, true, true, false, false, true, true, false, false, false, false, false, false] rfl rfl (any_of HT_.out (by kernel_rfl)) (fun _ _ _ h => h) (Or.inl ⟨by rfl, ?_⟩) ?_ ?_
                  rotate_left
                  · intro w'
                    go_simp
                    with_reducible rfl
                  rotate_left
                  · simp only [Act.put, List.setIfInBounds_toArray, List.set_cons_zero, List.set_cons_succ, i64_w, i32_w]
                    rfl
                  refine take_ (i := 1) (N := some 46) (v := ?_) (a' := ?_) #[true, true, false, false, true, true, false, false, true, true, false, false, false, false, false, false] rfl rfl (take_ofW HT_.out HW_.out (by kernel_rfl)) (fun _ _ _ h => h) (Or.inl ⟨by rfl, ?_⟩) hHeld ?_ ?_
                  rotate_left
                  · rintro w' ⟨s0, s1, s2, s3⟩
                    go_simp
                    with_reducible rfl
                  rotate_left
                  · simp only [Act.put, List.setIfInBounds_toArray, List.set_cons_zero, List.set_cons_succ, i64_w, i32_w]
                    rfl
                  refine pure_ (i := 2) (N := some 47) (v := ?_) (a' := ?_) #[true, true, true, false, true, true, false, false, true, true, false, false, false, false, false, false] rfl rfl (any_of HT_.out (by kernel_rfl)) (fun _ _ _ h => h) (Or.inl ⟨by rfl, ?_⟩) ?_ ?_
                  rotate_left
                  · intro w'
                    go_simp
                    with_reducible rfl
                  rotate_left
                  · simp only [Act.put, List.setIfInBounds_toArray, List.set_cons_zero, List.set_cons_succ, i64_w, i32_w]
                    rfl
                  refine take_ (i := 6) (N := some 51) (v := ?_) (a' := ?_) #[true, true, true, false, true, true, true, false, true, true, false, false, false, false, false, false] rfl rfl (take_ofW HT_.out HW_.out (by kernel_rfl)) (fun _ _ _ h => h) (Or.inl ⟨by rfl, ?_⟩) hHeld ?_ ?_
                  rotate_left
                  · rintro w' ⟨s0, s1, s2, s3⟩
                    go_simp
                    with_reducible rfl
                  rotate_left
                  · simp only [Act.put, List.setIfInBounds_toArray, List.set_cons_zero, List.set_cons_succ, i64_w, i32_w]
                    rfl
                  refine pure_ (i := 7) (N := some 52) (v := ?_) (a' := ?_) #[true, true, true, false, true, true, true, true, true, true, false, false, false, false, false, false] rfl rfl (any_of HT_.out (by kernel_rfl)) (fun _ _ _ h => h) (Or.inl ⟨by rfl, ?_⟩) ?_ ?_
                  rotate_left
                  · intro w'
                    go_simp
                    with_reducible rfl
                  rotate_left
                  · simp only [Act.put, List.setIfInBounds_toArray, List.set_cons_zero, List.set_cons_succ, i64_w, i32_w]
                    rfl
                  refine take_ (i := 10) (N := some 55) (v := ?_) (a' := ?_) #[true, true, true, false, true, true, true, true, true, true, true, false, false, false, false, false] rfl rfl (take_ofW HT_.out HW_.out (by kernel_rfl)) (fun _ _ _ h => h) (Or.inl ⟨by rfl, ?_⟩) hHeld ?_ ?_
                  rotate_left
                  · rintro w' ⟨s0, s1, s2, s3⟩
                    go_simp
                    with_reducible rfl
                  rotate_left
                  · simp only [Act.put, List.setIfInBounds_toArray, List.set_cons_zero, List.set_cons_succ, i64_w, i32_w]
                    rfl
                  refine pure_ (i := 11) (N := some 56) (v := ?_) (a' := ?_) #[true, true, true, false, true, true, true, true, true, true, true, true, false, false, false, false] rfl rfl (any_of HT_.out (by kernel_rfl)) (fun _ _ _ h => h) (Or.inl ⟨by rfl, ?_⟩) ?_ ?_
                  rotate_left
                  · intro w'
                    go_simp
                    with_reducible rfl
                  rotate_left
                  · simp only [Act.put, List.setIfInBounds_toArray, List.set_cons_zero, List.set_cons_succ, i64_w, i32_w]
                    rfl
                  refine pure_ (i := 12) (N := some 57) (v := ?_) (a' := ?_) #[true, true, true, false, true, true, true, true, true, true, true, true, true, false, false, false] rfl rfl (any_of HT_.out (by kernel_rfl)) (fun _ _ _ h => h) (Or.inl ⟨by rfl, ?_⟩) ?_ ?_
                  rotate_left
                  · intro w'
                    go_simp
                    with_reducible rfl
                  rotate_left
                  · simp only [Act.put, List.setIfInBounds_toArray, List.set_cons_zero, List.set_cons_succ, i64_w, i32_w]
                    rfl
                  refine join_ (σ := Value × Nat) 1 #[true, true, true, true, true, true, true, true, true, true, true, true, true, true, true, false] (fun s_ => [(48, s_.1), (10, .pointer (some ⟨s_.2, 0, none⟩)), (58, .agg #[s_.1, .int .i64 (wrap64 ((wrap64 (a1 * a0_1)) + (wrap64 (a3 * a2_1))))])]) (fun s_ w' => (w'.cell? ⟨gb388, 0, none⟩ = some (.slice A0_0 l0_0.length c0_0) ∧ w'.cell? ⟨gb388, 1, none⟩ = some (.int .i64 a0_1) ∧ w'.cell? ⟨gb389, 0, none⟩ = some (.slice A2_0 l2_0.length c2_0) ∧ w'.cell? ⟨gb389, 1, none⟩ = some (.int .i64 a2_1)) ∧ (Kd.R (Kd.int .i64) 3 w' w.heap.size (fun _ => True) s_.1 y395) ∧ (w'.heap[gb388]? = some (.cells #[.slice A0_0 l0_0.length c0_0, .int .i64 a0_1] 33 (0, 0))) ∧ (w'.heap[gb389]? = some (.cells #[.slice A2_0 l2_0.length c2_0, .int .i64 a2_1] 33 (0, 0))) ∧ (w'.heap[gb390]? = some (.cells #[.slice none 0 0, .int .i64 0] 33 (0, 0))) ∧ (w'.heap[s_.2]? = some (.cells #[.slice none 0 0, .int .i64 0] 33 (0, 0))) ∧ (w.heap.size ≤ s_.2) ∧ (w.heap.size ≤ s_.2) ∧ (gb388 ≠ s_.2) ∧ (s_.2 ≠ gb388) ∧ (gb389 ≠ s_.2) ∧ (s_.2 ≠ gb389) ∧ (gb390 ≠ s_.2) ∧ (s_.2 ≠ gb390) ∧ (Below w.heap.size w w')) ?_ ?_
                  rotate_left
                  · intro hCont
                    refine two_ (i := 3) (j := 14) (Ni := some 48) (Nj := some 10) #[true, true, true, true, true, true, true, true, true, true, true, true, true, false, false, false] #[true, true, true, false, true, true, true, true, true, true, true, true, true, false, true, false] rfl rfl rfl rfl (two_of HT_.out (by kernel_rfl)) (by decide) (by decide) (fun K hK => ?_) (fun K hK => ?_)
                    · skip
                      refine Kd.R_make_step (Kd.int .i64) _ 3 (by rfl) (N := 48) rfl 31 _ _ rfl (l0_0.length : Int) rfl rfl Tryd.underlying31 (.int .i64 0) 8 info3 rfl (by decide) (by omega) 0 (ok := fun _ => True) (okp := fun _ => True) rfl (fun _ hk => hk) trivial (of_decide_eq_true (by first | (with_reducible assumption) | assumption)) (Nat.le_trans (Nat.mul_le_mul_right _ (of_decide_eq_true (by first | (with_reducible assumption) | assumption) : (l0_0.length : Int).toNat ≤ 35184372088832)) (by omega)) (Below.refl _ _) (Nat.le_refl _) ?_
                      intro v396 w60 ho61 hb hg_ hnew_
                      clear hg_ hnew_
                      (first | rw [← Ny395.out] at ho61 | (simp only [Int.reduceToNat] at ho61; rw [← Ny395.out] at ho61))
                      have n0_ := Aside0.mk (Kd.R_lower ho61 (below_size (by repeat (first | (with_reducible first | exact HB.out | apply below_alloc | apply pw_below_drewN | apply below_drew1 | refine below_set ?_ GE388.out | refine below_set ?_ GE389.out | refine below_set ?_ GE390.out) | exact HB.out))))
                      have n1_ := Aside0.mk (blk_below (g := gb388) (o := .cells #[.slice A0_0 l0_0.length c0_0, .int .i64 a0_1] 33 (0, 0)) (by (with_reducible repeat (first | refine blk_drewN ?_ _ | refine blk_drew ?_ | refine blk_alloc ?_ _)); exact BK388.out) hb)
                      have n2_ := Aside0.mk (blk_below (g := gb389) (o := .cells #[.slice A2_0 l2_0.length c2_0, .int .i64 a2_1] 33 (0, 0)) (by (with_reducible repeat (first | refine blk_drewN ?_ _ | refine blk_drew ?_ | refine blk_alloc ?_ _)); exact BK389.out) hb)
                      have n3_ := Aside0.mk (blk_below (g := gb390) (o := .cells #[.slice none 0 0, .int .i64 0] 33 (0, 0)) (by (with_reducible repeat (first | refine blk_drewN ?_ _ | refine blk_drew ?_ | refine blk_alloc ?_ _)); exact BK390.out) hb)
                      have n4_ := Aside0.mk (below_step (by repeat (first | (with_reducible first | exact HB.out | apply below_alloc | apply pw_below_drewN | apply below_drew1 | refine below_set ?_ GE388.out | refine below_set ?_ GE389.out | refine below_set ?_ GE390.out) | exact HB.out)) hb)
                      clear BK388
                      clear BK389
                      clear BK390
                      clear HB
                      have HO397 := n0_
                      have BK388 := n1_
                      have BK389 := n2_
                      have BK390 := n3_
                      have HB := n4_
                      clear n0_ n1_ n2_ n3_ n4_
                      clear hb ho61
                      obtain ⟨Ao62, co62, eo62⟩ := Kd.R_slice HO397.out
                      (first | subst eo62 | (injection eo62 with f1_ f2_ f3_; have f4_ := f1_.symm; have f5_ := f3_.symm; clear f1_ f2_ f3_; subst f4_; subst f5_))
                      refine hK.out _ _ ⟨(blk_cell BK388.out 0).trans rfl, (blk_cell BK388.out 1).trans rfl, (blk_cell BK389.out 0).trans rfl, (blk_cell BK389.out 1).trans rfl⟩ (fun hHeld => ?_)
                      clear hK K
                      refine norm_ (a' := ?_) ?_ ?_
                      rotate_left
                      · show Act.put _ (some 48) _ = _
                        simp only [Act.put, List.setIfInBounds_toArray, List.set_cons_zero, List.set_cons_succ, i64_w, i32_w]
                        rfl
                      refine pure_ (i := 13) (N := some 58) (v := ?_) (a' := ?_) #[true, true, true, true, true, true, true, true, true, true, true, true, true, true, false, false] rfl rfl (any_of HT_.out (by kernel_rfl)) (fun _ _ _ h => h) (Or.inl ⟨by rfl, ?_⟩) ?_ ?_
                      rotate_left
                      · intro w'
                        go_simp
                        with_reducible rfl
                      rotate_left
                      · simp only [Act.put, List.setIfInBounds_toArray, List.set_cons_zero, List.set_cons_succ, i64_w, i32_w]
                        rfl
                      refine one_ (i := 14) (N := some 10) #[true, true, true, true, true, true, true, true, true, true, true, true, true, true, true, false] rfl rfl (one_of HT_.out (by kernel_rfl)) (by decide) (fun K hK => ?_)
                      refine box_step ?hg (N := 10) ?hd (cs := #[.slice none 0 0, .int .i64 0]) (t := 33) ?hr ?_; (case hd => rfl); (case hg => rfl); (case hr => first | (go_simp; done) | (go_simp; rfl))
                      intro gb398 hg w63 hbox hb
                      have n0_ := Aside0.mk (Kd.R_below (by (with_reducible repeat (first | apply Kd.R_alloc | apply Kd.R_drewN | apply Kd.R_drew)); exact HO397.out) hb)
                      have n1_ := Aside0.mk (blk_below (g := gb388) (o := .cells #[.slice A0_0 l0_0.length c0_0, .int .i64 a0_1] 33 (0, 0)) (by (with_reducible repeat (first | refine blk_drewN ?_ _ | refine blk_drew ?_ | refine blk_alloc ?_ _)); exact BK388.out) hb)
                      have n2_ := Aside0.mk (blk_below (g := gb389) (o := .cells #[.slice A2_0 l2_0.length c2_0, .int .i64 a2_1] 33 (0, 0)) (by (with_reducible repeat (first | refine blk_drewN ?_ _ | refine blk_drew ?_ | refine blk_alloc ?_ _)); exact BK389.out) hb)
                      have n3_ := Aside0.mk (blk_below (g := gb390) (o := .cells #[.slice none 0 0, .int .i64 0] 33 (0, 0)) (by (with_reducible repeat (first | refine blk_drewN ?_ _ | refine blk_drew ?_ | refine blk_alloc ?_ _)); exact BK390.out) hb)
                      have n4_ := Aside0.mk (below_step (by repeat (first | (with_reducible first | exact HB.out | apply below_alloc | apply pw_below_drewN | apply below_drew1 | refine below_set ?_ GE388.out | refine below_set ?_ GE389.out | refine below_set ?_ GE390.out) | exact HB.out)) hb)
                      have n5_ := Aside0.mk (hbox)
                      have n6_ := Aside0.mk ((by rw [hg]; exact (below_size (by repeat (first | (with_reducible first | exact HB.out | apply below_alloc | apply pw_below_drewN | apply below_drew1 | refine below_set ?_ GE388.out | refine below_set ?_ GE389.out | refine below_set ?_ GE390.out) | exact HB.out))) : w.heap.size ≤ gb398))
                      have n7_ := Aside0.mk ((by rw [hg]; exact (below_size (by repeat (first | (with_reducible first | exact HB.out | apply below_alloc | apply pw_below_drewN | apply below_drew1 | refine below_set ?_ GE388.out | refine below_set ?_ GE389.out | refine below_set ?_ GE390.out) | exact HB.out))) : w.heap.size ≤ gb398))
                      have n8_ := Aside0.mk ((by rw [hg]; exact Nat.ne_of_lt (blk_lt (g := gb388) (o := .cells #[.slice A0_0 l0_0.length c0_0, .int .i64 a0_1] 33 (0, 0)) (by (with_reducible repeat (first | refine blk_drewN ?_ _ | refine blk_drew ?_ | refine blk_alloc ?_ _)); exact BK388.out)) : gb388 ≠ gb398))
                      have n9_ := Aside0.mk ((by rw [hg]; exact Nat.ne_of_gt (blk_lt (g := gb388) (o := .cells #[.slice A0_0 l0_0.length c0_0, .int .i64 a0_1] 33 (0, 0)) (by (with_reducible repeat (first | refine blk_drewN ?_ _ | refine blk_drew ?_ | refine blk_alloc ?_ _)); exact BK388.out)) : gb398 ≠ gb388))
                      have n10_ := Aside0.mk ((by rw [hg]; exact Nat.ne_of_lt (blk_lt (g := gb389) (o := .cells #[.slice A2_0 l2_0.length c2_0, .int .i64 a2_1] 33 (0, 0)) (by (with_reducible repeat (first | refine blk_drewN ?_ _ | refine blk_drew ?_ | refine blk_alloc ?_ _)); exact BK389.out)) : gb389 ≠ gb398))
                      have n11_ := Aside0.mk ((by rw [hg]; exact Nat.ne_of_gt (blk_lt (g := gb389) (o := .cells #[.slice A2_0 l2_0.length c2_0, .int .i64 a2_1] 33 (0, 0)) (by (with_reducible repeat (first | refine blk_drewN ?_ _ | refine blk_drew ?_ | refine blk_alloc ?_ _)); exact BK389.out)) : gb398 ≠ gb389))
                      have n12_ := Aside0.mk ((by rw [hg]; exact Nat.ne_of_lt (blk_lt (g := gb390) (o := .cells #[.slice none 0 0, .int .i64 0] 33 (0, 0)) (by (with_reducible repeat (first | refine blk_drewN ?_ _ | refine blk_drew ?_ | refine blk_alloc ?_ _)); exact BK390.out)) : gb390 ≠ gb398))
                      have n13_ := Aside0.mk ((by rw [hg]; exact Nat.ne_of_gt (blk_lt (g := gb390) (o := .cells #[.slice none 0 0, .int .i64 0] 33 (0, 0)) (by (with_reducible repeat (first | refine blk_drewN ?_ _ | refine blk_drew ?_ | refine blk_alloc ?_ _)); exact BK390.out)) : gb398 ≠ gb390))
                      clear HO397
                      clear BK388
                      clear BK389
                      clear BK390
                      clear HB
                      have HO397 := n0_
                      have BK388 := n1_
                      have BK389 := n2_
                      have BK390 := n3_
                      have HB := n4_
                      have BK398 := n5_
                      have GW398 := n6_
                      have GE398 := n7_
                      have NB388_398 := n8_
                      have NB398_388 := n9_
                      have NB389_398 := n10_
                      have NB398_389 := n11_
                      have NB390_398 := n12_
                      have NB398_390 := n13_
                      clear n0_ n1_ n2_ n3_ n4_ n5_ n6_ n7_ n8_ n9_ n10_ n11_ n12_ n13_
                      clear hb hbox hg
                      refine hK.out _ _ ⟨(blk_cell BK388.out 0).trans rfl, (blk_cell BK388.out 1).trans rfl, (blk_cell BK389.out 0).trans rfl, (blk_cell BK389.out 1).trans rfl⟩ (fun hHeld => ?_)
                      clear hK K
                      refine norm_ (a' := ?_) ?_ ?_
                      rotate_left
                      · show Act.put _ (some 10) _ = _
                        simp only [Act.put, List.setIfInBounds_toArray, List.set_cons_zero, List.set_cons_succ, i64_w, i32_w]
                        rfl
                      exact norm_ (by simp only [putAll, Act.put, List.setIfInBounds_toArray, List.set_cons_zero, List.set_cons_succ]) (hCont (.slice Ao62 y395.length co62, gb398) _ ⟨hHeld, (by (with_reducible repeat (first | apply Kd.R_alloc | apply Kd.R_drewN | apply Kd.R_drew)); exact HO397.out), (by (with_reducible repeat (first | refine blk_drewN ?_ _ | refine blk_drew ?_ | refine blk_alloc ?_ _)); exact BK388.out), (by (with_reducible repeat (first | refine blk_drewN ?_ _ | refine blk_drew ?_ | refine blk_alloc ?_ _)); exact BK389.out), (by (with_reducible repeat (first | refine blk_drewN ?_ _ | refine blk_drew ?_ | refine blk_alloc ?_ _)); exact BK390.out), (by (with_reducible repeat (first | refine blk_drewN ?_ _ | refine blk_drew ?_ | refine blk_alloc ?_ _)); exact BK398.out), GW398.out, GE398.out, NB388_398.out, NB398_388.out, NB389_398.out, NB398_389.out, NB390_398.out, NB398_390.out, (by repeat (first | (with_reducible first | exact HB.out | apply below_alloc | apply pw_below_drewN | apply below_drew1 | refine below_set ?_ GE388.out | refine below_set ?_ GE389.out | refine below_set ?_ GE390.out | refine below_set ?_ GE398.out) | exact HB.out))⟩)
                    · skip
                      refine box_step ?hg (N := 10) ?hd (cs := #[.slice none 0 0, .int .i64 0]) (t := 33) ?hr ?_; (case hd => rfl); (case hg => rfl); (case hr => first | (go_simp; done) | (go_simp; rfl))
                      intro gb398 hg w60 hbox hb
                      have n0_ := Aside0.mk (blk_below (g := gb388) (o := .cells #[.slice A0_0 l0_0.length c0_0, .int .i64 a0_1] 33 (0, 0)) (by (with_reducible repeat (first | refine blk_drewN ?_ _ | refine blk_drew ?_ | refine blk_alloc ?_ _)); exact BK388.out) hb)
                      have n1_ := Aside0.mk (blk_below (g := gb389) (o := .cells #[.slice A2_0 l2_0.length c2_0, .int .i64 a2_1] 33 (0, 0)) (by (with_reducible repeat (first | refine blk_drewN ?_ _ | refine blk_drew ?_ | refine blk_alloc ?_ _)); exact BK389.out) hb)
                      have n2_ := Aside0.mk (blk_below (g := gb390) (o := .cells #[.slice none 0 0, .int .i64 0] 33 (0, 0)) (by (with_reducible repeat (first | refine blk_drewN ?_ _ | refine blk_drew ?_ | refine blk_alloc ?_ _)); exact BK390.out) hb)
                      have n3_ := Aside0.mk (below_step (by repeat (first | (with_reducible first | exact HB.out | apply below_alloc | apply pw_below_drewN | apply below_drew1 | refine below_set ?_ GE388.out | refine below_set ?_ GE389.out | refine below_set ?_ GE390.out) | exact HB.out)) hb)
                      have n4_ := Aside0.mk (hbox)
                      have n5_ := Aside0.mk ((by rw [hg]; exact (below_size (by repeat (first | (with_reducible first | exact HB.out | apply below_alloc | apply pw_below_drewN | apply below_drew1 | refine below_set ?_ GE388.out | refine below_set ?_ GE389.out | refine below_set ?_ GE390.out) | exact HB.out))) : w.heap.size ≤ gb398))
                      have n6_ := Aside0.mk ((by rw [hg]; exact (below_size (by repeat (first | (with_reducible first | exact HB.out | apply below_alloc | apply pw_below_drewN | apply below_drew1 | refine below_set ?_ GE388.out | refine below_set ?_ GE389.out | refine below_set ?_ GE390.out) | exact HB.out))) : w.heap.size ≤ gb398))
                      have n7_ := Aside0.mk ((by rw [hg]; exact Nat.ne_of_lt (blk_lt (g := gb388) (o := .cells #[.slice A0_0 l0_0.length c0_0, .int .i64 a0_1] 33 (0, 0)) (by (with_reducible repeat (first | refine blk_drewN ?_ _ | refine blk_drew ?_ | refine blk_alloc ?_ _)); exact BK388.out)) : gb388 ≠ gb398))
                      have n8_ := Aside0.mk ((by rw [hg]; exact Nat.ne_of_gt (blk_lt (g := gb388) (o := .cells #[.slice A0_0 l0_0.length c0_0, .int .i64 a0_1] 33 (0, 0)) (by (with_reducible repeat (first | refine blk_drewN ?_ _ | refine blk_drew ?_ | refine blk_alloc ?_ _)); exact BK388.out)) : gb398 ≠ gb388))
                      have n9_ := Aside0.mk ((by rw [hg]; exact Nat.ne_of_lt (blk_lt (g := gb389) (o := .cells #[.slice A2_0 l2_0.length c2_0, .int .i64 a2_1] 33 (0, 0)) (by (with_reducible repeat (first | refine blk_drewN ?_ _ | refine blk_drew ?_ | refine blk_alloc ?_ _)); exact BK389.out)) : gb389 ≠ gb398))
                      have n10_ := Aside0.mk ((by rw [hg]; exact Nat.ne_of_gt (blk_lt (g := gb389) (o := .cells #[.slice A2_0 l2_0.length c2_0, .int .i64 a2_1] 33 (0, 0)) (by (with_reducible repeat (first | refine blk_drewN ?_ _ | refine blk_drew ?_ | refine blk_alloc ?_ _)); exact BK389.out)) : gb398 ≠ gb389))
                      have n11_ := Aside0.mk ((by rw [hg]; exact Nat.ne_of_lt (blk_lt (g := gb390) (o := .cells #[.slice none 0 0, .int .i64 0] 33 (0, 0)) (by (with_reducible repeat (first | refine blk_drewN ?_ _ | refine blk_drew ?_ | refine blk_alloc ?_ _)); exact BK390.out)) : gb390 ≠ gb398))
                      have n12_ := Aside0.mk ((by rw [hg]; exact Nat.ne_of_gt (blk_lt (g := gb390) (o := .cells #[.slice none 0 0, .int .i64 0] 33 (0, 0)) (by (with_reducible repeat (first | refine blk_drewN ?_ _ | refine blk_drew ?_ | refine blk_alloc ?_ _)); exact BK390.out)) : gb398 ≠ gb390))
                      clear BK388
                      clear BK389
                      clear BK390
                      clear HB
                      have BK388 := n0_
                      have BK389 := n1_
                      have BK390 := n2_
                      have HB := n3_
                      have BK398 := n4_
                      have GW398 := n5_
                      have GE398 := n6_
                      have NB388_398 := n7_
                      have NB398_388 := n8_
                      have NB389_398 := n9_
                      have NB398_389 := n10_
                      have NB390_398 := n11_
                      have NB398_390 := n12_
                      clear n0_ n1_ n2_ n3_ n4_ n5_ n6_ n7_ n8_ n9_ n10_ n11_ n12_
                      clear hb hbox hg
                      refine hK.out _ _ ⟨(blk_cell BK388.out 0).trans rfl, (blk_cell BK388.out 1).trans rfl, (blk_cell BK389.out 0).trans rfl, (blk_cell BK389.out 1).trans rfl⟩ (fun hHeld => ?_)
                      clear hK K
                      refine norm_ (a' := ?_) ?_ ?_
                      rotate_left
                      · show Act.put _ (some 10) _ = _
                        simp only [Act.put, List.setIfInBounds_toArray, List.set_cons_zero, List.set_cons_succ, i64_w, i32_w]
                        rfl
                      refine one_ (i := 3) (N := some 48) #[true, true, true, true, true, true, true, true, true, true, true, true, true, false, true, false] rfl rfl (one_of HT_.out (by kernel_rfl)) (by decide) (fun K hK => ?_)
                      refine Kd.R_make_step (Kd.int .i64) _ 3 (by rfl) (N := 48) rfl 31 _ _ rfl (l0_0.length : Int) rfl rfl Tryd.underlying31 (.int .i64 0) 8 info3 rfl (by decide) (by omega) 0 (ok := fun _ => True) (okp := fun _ => True) rfl (fun _ hk => hk) trivial (of_decide_eq_true (by first | (with_reducible assumption) | assumption)) (Nat.le_trans (Nat.mul_le_mul_right _ (of_decide_eq_true (by first | (with_reducible assumption) | assumption) : (l0_0.length : Int).toNat ≤ 35184372088832)) (by omega)) (Below.refl _ _) (Nat.le_refl _) ?_
                      intro v396 w61 ho62 hb hg_ hnew_
                      clear hg_ hnew_
                      (first | rw [← Ny395.out] at ho62 | (simp only [Int.reduceToNat] at ho62; rw [← Ny395.out] at ho62))
                      have n0_ := Aside0.mk (Kd.R_lower ho62 (below_size (by repeat (first | (with_reducible first | exact HB.out | apply below_alloc | apply pw_below_drewN | apply below_drew1 | refine below_set ?_ GE388.out | refine below_set ?_ GE389.out | refine below_set ?_ GE390.out | refine below_set ?_ GE398.out) | exact HB.out))))
                      have n1_ := Aside0.mk (blk_below (g := gb388) (o := .cells #[.slice A0_0 l0_0.length c0_0, .int .i64 a0_1] 33 (0, 0)) (by (with_reducible repeat (first | refine blk_drewN ?_ _ | refine blk_drew ?_ | refine blk_alloc ?_ _)); exact BK388.out) hb)
                      have n2_ := Aside0.mk (blk_below (g := gb389) (o := .cells #[.slice A2_0 l2_0.length c2_0, .int .i64 a2_1] 33 (0, 0)) (by (with_reducible repeat (first | refine blk_drewN ?_ _ | refine blk_drew ?_ | refine blk_alloc ?_ _)); exact BK389.out) hb)
                      have n3_ := Aside0.mk (blk_below (g := gb390) (o := .cells #[.slice none 0 0, .int .i64 0] 33 (0, 0)) (by (with_reducible repeat (first | refine blk_drewN ?_ _ | refine blk_drew ?_ | refine blk_alloc ?_ _)); exact BK390.out) hb)
                      have n4_ := Aside0.mk (blk_below (g := gb398) (o := .cells #[.slice none 0 0, .int .i64 0] 33 (0, 0)) (by (with_reducible repeat (first | refine blk_drewN ?_ _ | refine blk_drew ?_ | refine blk_alloc ?_ _)); exact BK398.out) hb)
                      have n5_ := Aside0.mk (below_step (by repeat (first | (with_reducible first | exact HB.out | apply below_alloc | apply pw_below_drewN | apply below_drew1 | refine below_set ?_ GE388.out | refine below_set ?_ GE389.out | refine below_set ?_ GE390.out | refine below_set ?_ GE398.out) | exact HB.out)) hb)
                      clear BK388
                      clear BK389
                      clear BK390
                      clear BK398
                      clear HB
                      have HO397 := n0_
                      have BK388 := n1_
                      have BK389 := n2_
                      have BK390 := n3_
                      have BK398 := n4_
                      have HB := n5_
                      clear n0_ n1_ n2_ n3_ n4_ n5_
                      clear hb ho62
                      obtain ⟨Ao63, co63, eo63⟩ := Kd.R_slice HO397.out
                      (first | subst eo63 | (injection eo63 with f1_ f2_ f3_; have f4_ := f1_.symm; have f5_ := f3_.symm; clear f1_ f2_ f3_; subst f4_; subst f5_))
                      refine hK.out _ _ ⟨(blk_cell BK388.out 0).trans rfl, (blk_cell BK388.out 1).trans rfl, (blk_cell BK389.out 0).trans rfl, (blk_cell BK389.out 1).trans rfl⟩ (fun hHeld => ?_)
                      clear hK K
                      refine norm_ (a' := ?_) ?_ ?_
                      rotate_left
                      · show Act.put _ (some 48) _ = _
                        simp only [Act.put, List.setIfInBounds_toArray, List.set_cons_zero, List.set_cons_succ, i64_w, i32_w]
                        rfl
                      refine pure_ (i := 13) (N := some 58) (v := ?_) (a' := ?_) #[true, true, true, true, true, true, true, true, true, true, true, true, true, true, true, false] rfl rfl (any_of HT_.out (by kernel_rfl)) (fun _ _ _ h => h) (Or.inl ⟨by rfl, ?_⟩) ?_ ?_
                      rotate_left
                      · intro w'
                        go_simp
                        with_reducible rfl
                      rotate_left
                      · simp only [Act.put, List.setIfInBounds_toArray, List.set_cons_zero, List.set_cons_succ, i64_w, i32_w]
                        rfl
                      exact norm_ (by simp only [putAll, Act.put, List.setIfInBounds_toArray, List.set_cons_zero, List.set_cons_succ]) (hCont (.slice Ao63 y395.length co63, gb398) _ ⟨hHeld, (by (with_reducible repeat (first | apply Kd.R_alloc | apply Kd.R_drewN | apply Kd.R_drew)); exact HO397.out), (by (with_reducible repeat (first | refine blk_drewN ?_ _ | refine blk_drew ?_ | refine blk_alloc ?_ _)); exact BK388.out), (by (with_reducible repeat (first | refine blk_drewN ?_ _ | refine blk_drew ?_ | refine blk_alloc ?_ _)); exact BK389.out), (by (with_reducible repeat (first | refine blk_drewN ?_ _ | refine blk_drew ?_ | refine blk_alloc ?_ _)); exact BK390.out), (by (with_reducible repeat (first | refine blk_drewN ?_ _ | refine blk_drew ?_ | refine blk_alloc ?_ _)); exact BK398.out), GW398.out, GE398.out, NB388_398.out, NB398_388.out, NB389_398.out, NB398_389.out, NB390_398.out, NB398_390.out, (by repeat (first | (with_reducible first | exact HB.out | apply below_alloc | apply pw_below_drewN | apply below_drew1 | refine below_set ?_ GE388.out | refine below_set ?_ GE389.out | refine below_set ?_ GE390.out | refine below_set ?_ GE398.out) | exact HB.out))⟩)
                  rintro ⟨v396, gb398⟩ w64 ⟨hS_, h0_, h1_, h2_, h3_, h4_, h5_, h6_, h7_, h8_, h9_, h10_, h11_, h12_, h13_⟩
                  have n0_ : Aside0 (Kd.R (Kd.int .i64) 3 w64 w.heap.size (fun _ => True) v396 y395) := ⟨h0_⟩
                  have n1_ : Aside0 (w64.heap[gb388]? = some (.cells #[.slice A0_0 l0_0.length c0_0, .int .i64 a0_1] 33 (0, 0))) := ⟨h1_⟩
                  have n2_ : Aside0 (w64.heap[gb389]? = some (.cells #[.slice A2_0 l2_0.length c2_0, .int .i64 a2_1] 33 (0, 0))) := ⟨h2_⟩
                  have n3_ : Aside0 (w64.heap[gb390]? = some (.cells #[.slice none 0 0, .int .i64 0] 33 (0, 0))) := ⟨h3_⟩
                  have n4_ : Aside0 (w64.heap[gb398]? = some (.cells #[.slice none 0 0, .int .i64 0] 33 (0, 0))) := ⟨h4_⟩
                  have n5_ : Aside0 (w.heap.size ≤ gb398) := ⟨h5_⟩
                  have n6_ : Aside0 (w.heap.size ≤ gb398) := ⟨h6_⟩
                  have n7_ : Aside0 (gb388 ≠ gb398) := ⟨h7_⟩
                  have n8_ : Aside0 (gb398 ≠ gb388) := ⟨h8_⟩
                  have n9_ : Aside0 (gb389 ≠ gb398) := ⟨h9_⟩
                  have n10_ : Aside0 (gb398 ≠ gb389) := ⟨h10_⟩
                  have n11_ : Aside0 (gb390 ≠ gb398) := ⟨h11_⟩
                  have n12_ : Aside0 (gb398 ≠ gb390) := ⟨h12_⟩
                  have n13_ : Aside0 (Below w.heap.size w w64) := ⟨h13_⟩
                  clear BK388
                  clear BK389
                  clear BK390
                  clear HB
                  clear h0_ h1_ h2_ h3_ h4_ h5_ h6_ h7_ h8_ h9_ h10_ h11_ h12_ h13_
                  have HO397 := n0_
                  have BK388 := n1_
                  have BK389 := n2_
                  have BK390 := n3_
                  have BK398 := n4_
                  have GW398 := n5_
                  have GE398 := n6_
                  have NB388_398 := n7_
                  have NB398_388 := n8_
                  have NB389_398 := n9_
                  have NB398_389 := n10_
                  have NB390_398 := n11_
                  have NB398_390 := n12_
                  have HB := n13_
                  clear n0_ n1_ n2_ n3_ n4_ n5_ n6_ n7_ n8_ n9_ n10_ n11_ n12_ n13_
                  have hHeld : w64.cell? ⟨gb388, 0, none⟩ = some (.slice A0_0 l0_0.length c0_0) ∧ w64.cell? ⟨gb388, 1, none⟩ = some (.int .i64 a0_1) ∧ w64.cell? ⟨gb389, 0, none⟩ = some (.slice A2_0 l2_0.length c2_0) ∧ w64.cell? ⟨gb389, 1, none⟩ = some (.int .i64 a2_1) := hS_
                  obtain ⟨Ao65, co65, eo65⟩ := Kd.R_slice HO397.out
                  (first | subst eo65 | (injection eo65 with f1_ f2_ f3_; have f4_ := f1_.symm; have f5_ := f3_.symm; clear f1_ f2_ f3_; subst f4_; subst f5_))
                  refine norm_ (a' := ?_) ?_ ?_
                  rotate_left
                  · simp only [putAll, Act.put, List.setIfInBounds_toArray, List.set_cons_zero, List.set_cons_succ]
                    rfl
                  refine one_ (i := 15) (N := none) #[true, true, true, true, true, true, true, true, true, true, true, true, true, true, true, true] rfl rfl (one_of HT_.out (by kernel_rfl)) (by decide) (fun K hK => ?_)
                  have hs66 : w64.cell? ⟨gb398, 0, none⟩ = some (.slice none 0 0) := (blk_cell BK398.out 0).trans rfl
                  have hfs66 := blk_frozen BK398.out 0
                  have hns66_0 := NB388_398.out
                  have hns66_1 := NB389_398.out
                  have hns66_2 := NB390_398.out
                  have hms66_0 := NB398_388.out
                  have hms66_1 := NB398_389.out
                  have hms66_2 := NB398_390.out
                  have hs67 : w64.cell? ⟨gb398, 1, none⟩ = some (.int .i64 0) := (blk_cell BK398.out 1).trans rfl
                  have hfs67 := blk_frozen BK398.out 1
                  have hns67_0 := NB388_398.out
                  have hns67_1 := NB389_398.out
                  have hns67_2 := NB390_398.out
                  have hms67_0 := NB398_388.out
                  have hms67_1 := NB398_389.out
                  have hms67_2 := NB398_390.out
                  refine skip_ (w1 := ?_) (by rfl) rfl ?_ ?_
                  rotate_left
                  · go_simp
                    rfl
                  refine hK.out _ _ ⟨((cell_far (p := ⟨gb398, _, none⟩) NB388_398.out _).trans (((cell_far (p := ⟨gb398, _, none⟩) NB388_398.out _).trans (hHeld.1)))), ((cell_far (p := ⟨gb398, _, none⟩) NB388_398.out _).trans (((cell_far (p := ⟨gb398, _, none⟩) NB388_398.out _).trans (hHeld.2.1)))), ((cell_far (p := ⟨gb398, _, none⟩) NB389_398.out _).trans (((cell_far (p := ⟨gb398, _, none⟩) NB389_398.out _).trans (hHeld.2.2.1)))), ((cell_far (p := ⟨gb398, _, none⟩) NB389_398.out _).trans (((cell_far (p := ⟨gb398, _, none⟩) NB389_398.out _).trans (hHeld.2.2.2))))⟩ (fun hHeld => ?_)
                  clear hK K
                  refine done_ (done_of HT_.out (by kernel_rfl)) ?_
                  have hnb68 := NB388_389.out
                  have hnc68 := NB389_388.out
                  have hnb69 := NB388_390.out
                  have hnc69 := NB390_388.out
                  have hnb70 := NB388_398.out
                  have hnc70 := NB398_388.out
                  have hcz71_0 : w64.cell? ⟨gb388, 0, none⟩ = some (.slice A0_0 l0_0.length c0_0) := (blk_cell BK388.out 0).trans rfl
                  have hcz71_1 : w64.cell? ⟨gb388, 1, none⟩ = some (.int .i64 a0_1) := (blk_cell BK388.out 1).trans rfl
                  have hfz71_0 := blk_frozen BK388.out 0
                  have hfz71_1 := blk_frozen BK388.out 1
                  try go_wp2
                  go_loopg [62] kj37 (fun kq v62 w' => ∃ (x62_3 : Int) (x399000_3 : List Int) (u399000 : Value), v62 = .int .i64 x62_3 ∧ Aside0 (linear_Combine.l0 kq a1 a3 (l0_0.length : Int) x62_3 l0_0 a0_1 l2_0 a2_1 x399000_3 (wrap64 ((wrap64 (a1 * a0_1)) + (wrap64 (a3 * a2_1)))) = some (r1, r2, r3)) ∧ Aside0 (kq ≤ kj37) ∧ Aside0 (Kd.R (Kd.int .i64) 3 w' w.heap.size (fun _ => True) u399000 x399000_3) ∧ Aside0 (w'.heap[gb388]? = some (.cells #[(.slice A0_0 l0_0.length c0_0), .int .i64 a0_1] 33 (0, 0))) ∧ Aside0 (w'.heap[gb389]? = some (.cells #[(.slice A2_0 l2_0.length c2_0), .int .i64 a2_1] 33 (0, 0))) ∧ Aside0 (w'.heap[gb390]? = some (.cells #[(.slice none 0 0), .int .i64 0] 33 (0, 0))) ∧ Aside0 (w'.heap[gb398]? = some (.cells #[u399000, .int .i64 (wrap64 ((wrap64 (a1 * a0_1)) + (wrap64 (a3 * a2_1))))] 33 (0, 0))) ∧ Aside0 (Below w.heap.size w w'))
                  case atStart => exact ⟨(0), (y395), (.slice Ao65 y395.length co65), (by first | rfl | (simp; done) | (simp [*]; done)), H', ⟨Nat.le_refl _⟩, ⟨by (with_reducible repeat (first | apply Kd.R_alloc | apply Kd.R_drewN | apply Kd.R_drew)); exact Kd.R_mono (Kd.R_far (p := ⟨gb398, 1, none⟩) (Kd.R_far (p := ⟨gb398, 0, none⟩) (Kd.R_types HO397.out BK398.out (by decide)) (fun _ hk => hk.2) (.slice Ao65 y395.length co65)) (fun _ hk => hk.2) (.int .i64 (wrap64 ((wrap64 (a1 * a0_1)) + (wrap64 (a3 * a2_1)))))) (fun _ hk => trivial)⟩, ⟨by (with_reducible repeat (first | refine blk_drewN ?_ _ | refine blk_drew ?_ | refine blk_alloc ?_ _)); refine blk_far ?_ NB388_398.out _; (with_reducible repeat (first | refine blk_drewN ?_ _ | refine blk_drew ?_ | refine blk_alloc ?_ _)); refine blk_far ?_ NB388_398.out _; (with_reducible repeat (first | refine blk_drewN ?_ _ | refine blk_drew ?_ | refine blk_alloc ?_ _)); exact BK388.out⟩, ⟨by (with_reducible repeat (first | refine blk_drewN ?_ _ | refine blk_drew ?_ | refine blk_alloc ?_ _)); refine blk_far ?_ NB389_398.out _; (with_reducible repeat (first | refine blk_drewN ?_ _ | refine blk_drew ?_ | refine blk_alloc ?_ _)); refine blk_far ?_ NB389_398.out _; (with_reducible repeat (first | refine blk_drewN ?_ _ | refine blk_drew ?_ | refine blk_alloc ?_ _)); exact BK389.out⟩, ⟨by (with_reducible repeat (first | refine blk_drewN ?_ _ | refine blk_drew ?_ | refine blk_alloc ?_ _)); refine blk_far ?_ NB390_398.out _; (with_reducible repeat (first | refine blk_drewN ?_ _ | refine blk_drew ?_ | refine blk_alloc ?_ _)); refine blk_far ?_ NB390_398.out _; (with_reducible repeat (first | refine blk_drewN ?_ _ | refine blk_drew ?_ | refine blk_alloc ?_ _)); exact BK390.out⟩, ⟨by (with_reducible repeat (first | refine blk_drewN ?_ _ | refine blk_drew ?_ | refine blk_alloc ?_ _)); refine blk_put (cs := #[.slice Ao65 y395.length co65, .int .i64 0]) ?_ 1 _ rfl; (with_reducible repeat (first | refine blk_drewN ?_ _ | refine blk_drew ?_ | refine blk_alloc ?_ _)); refine blk_put (cs := #[.slice none 0 0, .int .i64 0]) ?_ 0 _ rfl; (with_reducible repeat (first | refine blk_drewN ?_ _ | refine blk_drew ?_ | refine blk_alloc ?_ _)); exact BK398.out⟩, ⟨by repeat (first | (with_reducible first | exact HB.out | apply below_alloc | apply pw_below_drewN | apply below_drew1 | refine below_set ?_ GE388.out | refine below_set ?_ GE389.out | refine below_set ?_ GE390.out | refine below_set ?_ GE398.out) | exact HB.out)⟩⟩
                  case round =>
                    clear H'
                    try clear c1
                    try clear c2
                    try clear p2
                    try clear c3
                    try clear c4
                    try clear c5
                    try clear c6
                    try clear p6
                    try clear c7
                    try clear c9
                    try clear c9b0
                    try clear c9b1
                    try clear c9b2
                    try clear c10
                    try clear c10b0
                    try clear c10b1
                    try clear c11
                    try clear c12
                    try clear c14
                    try clear c17
                    try clear c19
                    try clear c20
                    try clear c22
                    try clear c24
                    try clear c25
                    try clear c27
                    try clear c29
                    try clear c30
                    try clear c32
                    try clear c34
                    try clear c35
                    try clear c36
                    try clear c39
                    try clear c40
                    try clear c42
                    try clear c43
                    try clear c46
                    try clear c49
                    try clear c50
                    try clear c53
                    try clear c54
                    try clear c55
                    try clear c57
                    try clear c57b0
                    try clear c57b1
                    try clear c58
                    try clear c58b0
                    try clear c58b1
                    try clear p64
                    try clear c68
                    try clear c69
                    try clear c70
                    try clear hcz13_0
                    try clear hcz13_1
                    try clear hcz15_0
                    try clear hcz15_1
                    try clear hcz21_0
                    try clear hcz21_1
                    try clear hcz23_0
                    try clear hcz23_1
                    try clear hcz26_0
                    try clear hcz26_1
                    try clear hcz28_0
                    try clear hcz28_1
                    try clear hcz31_0
                    try clear hcz31_1
                    try clear hcz33_0
                    try clear hcz33_1
                    try clear hcz37_0
                    try clear hcz37_1
                    try clear hcz44_0
                    try clear hcz44_1
                    try clear hcz47_0
                    try clear hcz47_1
                    try clear hcz51_0
                    try clear hcz51_1
                    try clear hcz56_0
                    try clear hcz56_1
                    try clear hcz71_0
                    try clear hcz71_1
                    try clear hfz13_0
                    try clear hfz13_1
                    try clear hfz15_0
                    try clear hfz15_1
                    try clear hfz21_0
                    try clear hfz21_1
                    try clear hfz23_0
                    try clear hfz23_1
                    try clear hfz26_0
                    try clear hfz26_1
                    try clear hfz28_0
                    try clear hfz28_1
                    try clear hfz31_0
                    try clear hfz31_1
                    try clear hfz33_0
                    try clear hfz33_1
                    try clear hfz37_0
                    try clear hfz37_1
                    try clear hfz44_0
                    try clear hfz44_1
                    try clear hfz47_0
                    try clear hfz47_1
                    try clear hfz51_0
                    try clear hfz51_1
                    try clear hfz56_0
                    try clear hfz56_1
                    try clear hfz71_0
                    try clear hfz71_1
                    try clear p2
                    obtain ⟨x62_3, x399000_3, u399000, rfl, HA, HK3, HO_399000, BK388, BK389, BK390, BK398, HB⟩ := hrel
                    cases gk with
                    | zero => exact absurd HA.out (by simp [linear_Combine.l0])
                    | succ k3 =>
                      have H := HA.out
                      clear HA
                      simp only [linear_Combine.l0] at H
                      by_cases c72 : x62_3 < (l0_0.length : Int)
                      · rw [if_pos c72] at H
                        have c72b0 : decide (x62_3 < (l0_0.length : Int)) = true := decide_eq_true c72
                        clear c72
                        by_cases c73 : 0 ≤ x62_3
                        · rw [if_pos c73] at H
                          have c73b0 : decide (0 ≤ x62_3) = true := decide_eq_true c73
                          clear c73
                          by_cases c74 : x62_3 < (l0_0.length : Int)
                          · rw [if_pos c74] at H
                            have c74b0 : decide (x62_3 < (l0_0.length : Int)) = true := decide_eq_true c74
                            clear c74
                            by_cases c75 : x62_3 < (l2_0.length : Int)
                            · rw [if_pos c75] at H
                              have c75b0 : decide (x62_3 < (l2_0.length : Int)) = true := decide_eq_true c75
                              clear c75
                              by_cases c76 : x62_3 < (x399000_3.length : Int)
                              · rw [if_pos c76] at H
                                have c76b0 : decide (x62_3 < (x399000_3.length : Int)) = true := decide_eq_true c76
                                clear c76
                                obtain ⟨y401, hy401⟩ : ∃ y_ : List Int, y_ = (x399000_3.set (x62_3 : Int).toNat (wrap64 ((wrap64 (a1 * (rd l0_0 x62_3))) + (wrap64 (a3 * (rd l2_0 x62_3)))))) := ⟨_, rfl⟩
                                replace H : (linear_Combine.l0 k3 a1 a3 (l0_0.length : Int) (wrap64 (x62_3 + 1)) l0_0 a0_1 l2_0 a2_1 y401 (wrap64 ((wrap64 (a1 * a0_1)) + (wrap64 (a3 * a2_1))))) = some (r1, r2, r3) := by first | (rw [hy401]; with_reducible exact H) | (have H2_ := (Option.bind_some _ _).symm.trans H; rw [hy401]; with_reducible exact H2_) | (have H2_ := (Option.bind_some _ _).symm.trans H; with_reducible exact H2_) | with_reducible exact H | (rw [hy401]; exact H) | exact H
                                have Ny401 := Aside0.mk hy401
                                clear hy401
                                have H' := Aside0.mk H
                                clear H
                                try go_wp2
                                have n0_ := Aside0.mk (Kd.R_drew HO_399000.out)
                                have n1_ := Aside0.mk (blk_drew BK388.out)
                                have n2_ := Aside0.mk (blk_drew BK389.out)
                                have n3_ := Aside0.mk (blk_drew BK390.out)
                                have n4_ := Aside0.mk (blk_drew BK398.out)
                                have n5_ := Aside0.mk (below_drew1 HB.out)
                                clear HO_399000
                                clear BK388
                                clear BK389
                                clear BK390
                                clear BK398
                                clear HB
                                have HO_399000 := n0_
                                have BK388 := n1_
                                have BK389 := n2_
                                have BK390 := n3_
                                have BK398 := n4_
                                have HB := n5_
                                clear n0_ n1_ n2_ n3_ n4_ n5_
                                have p399 : 0 ≤ (x62_3 : Int) := of_decide_eq_true (by first | (with_reducible assumption) | assumption)
                                have q399 : x62_3 < (l0_0.length : Int) := of_decide_eq_true (by first | (with_reducible assumption) | assumption)
                                obtain ⟨ad399, e399, hx399_0⟩ := Kd.at_int HR0_0.out x62_3 p399 q399
                                have hw399_0 := hx399_0
                                cases e399
                                replace hx399_0 := (HB.out.cell (World.block_lt_of_cell? w _ hx399_0)).trans hx399_0
                                replace p399 := eq_true p399
                                replace q399 := eq_true q399
                                have p400 : 0 ≤ (x62_3 : Int) := of_decide_eq_true (by first | (with_reducible assumption) | assumption)
                                have q400 : x62_3 < (l2_0.length : Int) := of_decide_eq_true (by first | (with_reducible assumption) | assumption)
                                obtain ⟨ad400, e400, hx400_0⟩ := Kd.at_int HR2_0.out x62_3 p400 q400
                                have hw400_0 := hx400_0
                                cases e400
                                replace hx400_0 := (HB.out.cell (World.block_lt_of_cell? w _ hx400_0)).trans hx400_0
                                replace p400 := eq_true p400
                                replace q400 := eq_true q400
                                have p77 : 0 ≤ (x62_3 : Int) := of_decide_eq_true (by first | (with_reducible assumption) | assumption)
                                have q77 : (x62_3 : Int) < ((x399000_3.length : Int) : Int) := of_decide_eq_true (by first | (with_reducible assumption) | assumption)
                                obtain ⟨go77, co77, eo77, gb77, gl77, cl77, HG77⟩ := Kd.R_form HO_399000.out (by omega)
                                (first | cases eo77 | (injection eo77 with ea_ en_ ec_; (first | subst ea_ | (injection ea_ with ea_; subst ea_)); subst ec_; clear en_))
                                have GB77 := Aside0.mk gb77
                                have GG77 := Aside0.mk HG77
                                clear gb77 gl77 HG77
                                obtain ⟨hx77_0, hf77_0⟩ := Kd.R_celln 0 HO_399000.out (x62_3 : Int) p77 q77
                                replace p77 := eq_true p77
                                replace q77 := eq_true q77
                                have HP79 := Kd.R_putn HO_399000.out (x62_3 : Int) (wrap64 ((wrap64 (a1 * (rd l0_0 x62_3))) + (wrap64 (a3 * (rd l2_0 x62_3)))))
                                rw [← Ny401.out] at HP79
                                have HQ79 := Aside0.mk HP79
                                clear HP79
                                refine start_ (n := 20) (S := fun w' => w'.cell? ⟨gb398, 0, none⟩ = some (.slice (some ⟨go77, 0, none⟩) x399000_3.length co77) ∧ w'.cell? ⟨gb398, 1, none⟩ = some (.int .i64 (wrap64 ((wrap64 (a1 * a0_1)) + (wrap64 (a3 * a2_1))))) ∧ w'.cell? ⟨gb388, 0, none⟩ = some (.slice (some ad399) l0_0.length c0_0) ∧ w'.cell? ⟨gb388, 1, none⟩ = some (.int .i64 a0_1) ∧ w'.cell? ⟨gb389, 0, none⟩ = some (.slice (some ad400) l2_0.length c2_0) ∧ w'.cell? ⟨gb389, 1, none⟩ = some (.int .i64 a2_1) ∧ w'.cell? (ad399.add (x62_3).toNat) = some (.int .i64 (rd l0_0 x62_3)) ∧ w'.cell? (ad400.add (x62_3).toNat) = some (.int .i64 (rd l2_0 x62_3))) (ds := [19]) #[false, false, false, false, false, false, false, false, false, false, false, false, false, false, false, false, false, false, false, false] (by kernel_rfl) rfl rfl ⟨(blk_cell BK398.out 0).trans rfl, (blk_cell BK398.out 1).trans rfl, (blk_cell BK388.out 0).trans rfl, (blk_cell BK388.out 1).trans rfl, (blk_cell BK389.out 0).trans rfl, (blk_cell BK389.out 1).trans rfl, ((HB.out.cell (World.block_lt_of_cell? w _ hw399_0)).trans hw399_0), ((HB.out.cell (World.block_lt_of_cell? w _ hw400_0)).trans hw400_0)⟩ (fun hHeld => ?_); refine with_tabW linear_Combine.tab9 linear_Combine.bits9 (fun HT_ HW_ => ?_)
                                generalize wr.drew = w78 at HO_399000 BK388 BK389 BK390 BK398 HB GG77 HQ79 hf77_0 hx399_0 hx400_0 hx77_0 hHeld ⊢
                                refine pure_ (i := 0) (N := some 65) (v := ?_) (a' := ?_) #[true, false, false, false, false, false, false, false, false, false, false, false, false, false, false, false, false, false, false, false] rfl rfl (any_of HT_.out (by kernel_rfl)) (fun _ _ _ h => h) (Or.inl ⟨by rfl, ?_⟩) ?_ ?_
                                rotate_left
                                · intro w'
                                  go_simp
                                  with_reducible rfl
                                rotate_left
                                · simp only [Act.put, List.setIfInBounds_toArray, List.set_cons_zero, List.set_cons_succ, i64_w, i32_w]
                                  rfl
                                refine pure_ (i := 2) (N := some 67) (v := ?_) (a' := ?_) #[true, false, true, false, false, false, false, false, false, false, false, false, false, false, false, false, false, false, false, false] rfl rfl (any_of HT_.out (by kernel_rfl)) (fun _ _ _ h => h) (Or.inl ⟨by rfl, ?_⟩) ?_ ?_
                                rotate_left
                                · intro w'
                                  go_simp
                                  with_reducible rfl
                                rotate_left
                                · simp only [Act.put, List.setIfInBounds_toArray, List.set_cons_zero, List.set_cons_succ, i64_w, i32_w]
                                  rfl
                                refine pure_ (i := 3) (N := some 68) (v := ?_) (a' := ?_) #[true, false, true, true, false, false, false, false, false, false, false, false, false, false, false, false, false, false, false, false] rfl rfl (any_of HT_.out (by kernel_rfl)) (fun _ _ _ h => h) (Or.inl ⟨by rfl, ?_⟩) ?_ ?_
                                rotate_left
                                · intro w'
                                  go_simp
                                  with_reducible rfl
                                rotate_left
                                · simp only [Act.put, List.setIfInBounds_toArray, List.set_cons_zero, List.set_cons_succ, i64_w, i32_w]
                                  rfl
                                refine pure_ (i := 4) (N := some 69) (v := ?_) (a' := ?_) #[true, false, true, true, true, false, false, false, false, false, false, false, false, false, false, false, false, false, false, false] rfl rfl (any_of HT_.out (by kernel_rfl)) (fun _ _ _ h => h) (Or.inl ⟨by rfl, ?_⟩) ?_ ?_
                                rotate_left
                                · intro w'
                                  go_simp
                                  with_reducible rfl
                                rotate_left
                                · simp only [Act.put, List.setIfInBounds_toArray, List.set_cons_zero, List.set_cons_succ, i64_w, i32_w]
                                  rfl
                                refine pure_ (i := 6) (N := some 71) (v := ?_) (a' := ?_) #[true, false, true, true, true, false, true, false, false, false, false, false, false, false, false, false, false, false, false, false] rfl rfl (any_of HT_.out (by kernel_rfl)) (fun _ _ _ h => h) (Or.inl ⟨by rfl, ?_⟩) ?_ ?_
                                rotate_left
                                · intro w'
                                  go_simp
                                  with_reducible rfl
                                rotate_left
                                · simp only [Act.put, List.setIfInBounds_toArray, List.set_cons_zero, List.set_cons_succ, i64_w, i32_w]
                                  rfl
                                refine pure_ (i := 10) (N := some 75) (v := ?_) (a' := ?_) #[true, false, true, true, true, false, true, false, false, false, true, false, false, false, false, false, false, false, false, false] rfl rfl (any_of HT_.out (by kernel_rfl)) (fun _ _ _ h => h) (Or.inl ⟨by rfl, ?_⟩) ?_ ?_
                                rotate_left
                                · intro w'
                                  go_simp
                                  with_reducible rfl
                                rotate_left
                                · simp only [Act.put, List.setIfInBounds_toArray, List.set_cons_zero, List.set_cons_succ, i64_w, i32_w]
                                  rfl
                                refine pure_ (i := 11) (N := some 76) (v := ?_) (a' := ?_) #[true, false, true, true, true, false, true, false, false, false, true, true, false, false, false, false, false, false, false, false] rfl rfl (any_of HT_.out (by kernel_rfl)) (fun _ _ _ h => h) (Or.inl ⟨by rfl, ?_⟩) ?_ ?_
                                rotate_left
                                · intro w'
                                  go_simp
                                  with_reducible rfl
                                rotate_left
                                · simp only [Act.put, List.setIfInBounds_toArray, List.set_cons_zero, List.set_cons_succ, i64_w, i32_w]
                                  rfl
                                refine pure_ (i := 13) (N := some 78) (v := ?_) (a' := ?_) #[true, false, true, true, true, false, true, false, false, false, true, true, false, true, false, false, false, false, false, false] rfl rfl (any_of HT_.out (by kernel_rfl)) (fun _ _ _ h => h) (Or.inl ⟨by rfl, ?_⟩) ?_ ?_
                                rotate_left
                                · intro w'
                                  go_simp
                                  with_reducible rfl
                                rotate_left
                                · simp only [Act.put, List.setIfInBounds_toArray, List.set_cons_zero, List.set_cons_succ, i64_w, i32_w]
                                  rfl
                                refine take_ (i := 1) (N := some 66) (v := ?_) (a' := ?_) #[true, true, true, true, true, false, true, false, false, false, true, true, false, true, false, false, false, false, false, false] rfl rfl (take_ofW HT_.out HW_.out (by kernel_rfl)) (fun _ _ _ h => h) (Or.inl ⟨by rfl, ?_⟩) hHeld ?_ ?_
                                rotate_left
                                · rintro w' ⟨s0, s1, s2, s3, s4, s5, s6, s7⟩
                                  go_simp
                                  with_reducible rfl
                                rotate_left
                                · simp only [Act.put, List.setIfInBounds_toArray, List.set_cons_zero, List.set_cons_succ, i64_w, i32_w]
                                  rfl
                                refine take_ (i := 5) (N := some 70) (v := ?_) (a' := ?_) #[true, true, true, true, true, true, true, false, false, false, true, true, false, true, false, false, false, false, false, false] rfl rfl (take_ofW HT_.out HW_.out (by kernel_rfl)) (fun _ _ _ h => h) (Or.inl ⟨by rfl, ?_⟩) hHeld ?_ ?_
                                rotate_left
                                · rintro w' ⟨s0, s1, s2, s3, s4, s5, s6, s7⟩
                                  go_simp
                                  with_reducible rfl
                                rotate_left
                                · simp only [Act.put, List.setIfInBounds_toArray, List.set_cons_zero, List.set_cons_succ, i64_w, i32_w]
                                  rfl
                                refine pure_ (i := 7) (N := some 72) (v := ?_) (a' := ?_) #[true, true, true, true, true, true, true, true, false, false, true, true, false, true, false, false, false, false, false, false] rfl rfl (any_of HT_.out (by kernel_rfl)) (fun _ _ _ h => h) (Or.inl ⟨by rfl, ?_⟩) ?_ ?_
                                rotate_left
                                · intro w'
                                  go_simp
                                  with_reducible rfl
                                rotate_left
                                · simp only [Act.put, List.setIfInBounds_toArray, List.set_cons_zero, List.set_cons_succ, i64_w, i32_w]
                                  rfl
                                refine take_ (i := 8) (N := some 73) (v := ?_) (a' := ?_) #[true, true, true, true, true, true, true, true, true, false, true, true, false, true, false, false, false, false, false, false] rfl rfl (take_ofW HT_.out HW_.out (by kernel_rfl)) (fun _ _ _ h => h) (Or.inl ⟨by rfl, ?_⟩) hHeld ?_ ?_
                                rotate_left
                                · rintro w' ⟨s0, s1, s2, s3, s4, s5, s6, s7⟩
                                  go_simp
                                  with_reducible rfl
                                rotate_left
                                · simp only [Act.put, List.setIfInBounds_toArray, List.set_cons_zero, List.set_cons_succ, i64_w, i32_w]
                                  rfl
                                refine pure_ (i := 9) (N := some 74) (v := ?_) (a' := ?_) #[true, true, true, true, true, true, true, true, true, true, true, true, false, true, false, false, false, false, false, false] rfl rfl (any_of HT_.out (by kernel_rfl)) (fun _ _ _ h => h) (Or.inl ⟨by rfl, ?_⟩) ?_ ?_
                                rotate_left
                                · intro w'
                                  go_simp
                                  with_reducible rfl
                                rotate_left
                                · simp only [Act.put, List.setIfInBounds_toArray, List.set_cons_zero, List.set_cons_succ, i64_w, i32_w]
                                  rfl
                                refine take_ (i := 12) (N := some 77) (v := ?_) (a' := ?_) #[true, true, true, true, true, true, true, true, true, true, true, true, true, true, false, false, false, false, false, false] rfl rfl (take_ofW HT_.out HW_.out (by kernel_rfl)) (fun _ _ _ h => h) (Or.inl ⟨by rfl, ?_⟩) hHeld ?_ ?_
                                rotate_left
                                · rintro w' ⟨s0, s1, s2, s3, s4, s5, s6, s7⟩
                                  go_simp
                                  with_reducible rfl
                                rotate_left
                                · simp only [Act.put, List.setIfInBounds_toArray, List.set_cons_zero, List.set_cons_succ, i64_w, i32_w]
                                  rfl
                                refine pure_ (i := 14) (N := some 79) (v := ?_) (a' := ?_) #[true, true, true, true, true, true, true, true, true, true, true, true, true, true, true, false, false, false, false, false] rfl rfl (any_of HT_.out (by kernel_rfl)) (fun _ _ _ h => h) (Or.inl ⟨by rfl, ?_⟩) ?_ ?_
                                rotate_left
                                · intro w'
                                  go_simp
                                  with_reducible rfl
                                rotate_left
                                · simp only [Act.put, List.setIfInBounds_toArray, List.set_cons_zero, List.set_cons_succ, i64_w, i32_w]
                                  rfl
                                refine take_ (i := 15) (N := some 80) (v := ?_) (a' := ?_) #[true, true, true, true, true, true, true, true, true, true, true, true, true, true, true, true, false, false, false, false] rfl rfl (take_ofW HT_.out HW_.out (by kernel_rfl)) (fun _ _ _ h => h) (Or.inl ⟨by rfl, ?_⟩) hHeld ?_ ?_
                                rotate_left
                                · rintro w' ⟨s0, s1, s2, s3, s4, s5, s6, s7⟩
                                  go_simp
                                  with_reducible rfl
                                rotate_left
                                · simp only [Act.put, List.setIfInBounds_toArray, List.set_cons_zero, List.set_cons_succ, i64_w, i32_w]
                                  rfl
                                refine pure_ (i := 16) (N := some 81) (v := ?_) (a' := ?_) #[true, true, true, true, true, true, true, true, true, true, true, true, true, true, true, true, true, false, false, false] rfl rfl (any_of HT_.out (by kernel_rfl)) (fun _ _ _ h => h) (Or.inl ⟨by rfl, ?_⟩) ?_ ?_
                                rotate_left
                                · intro w'
                                  go_simp
                                  with_reducible rfl
                                rotate_left
                                · simp only [Act.put, List.setIfInBounds_toArray, List.set_cons_zero, List.set_cons_succ, i64_w, i32_w]
                                  rfl
                                refine pure_ (i := 17) (N := some 82) (v := ?_) (a' := ?_) #[true, true, true, true, true, true, true, true, true, true, true, true, true, true, true, true, true, true, false, false] rfl rfl (any_of HT_.out (by kernel_rfl)) (fun _ _ _ h => h) (Or.inl ⟨by rfl, ?_⟩) ?_ ?_
                                rotate_left
                                · intro w'
                                  go_simp
                                  with_reducible rfl
                                rotate_left
                                · simp only [Act.put, List.setIfInBounds_toArray, List.set_cons_zero, List.set_cons_succ, i64_w, i32_w]
                                  rfl
                                refine pure_ (i := 18) (N := some 83) (v := ?_) (a' := ?_) #[true, true, true, true, true, true, true, true, true, true, true, true, true, true, true, true, true, true, true, false] rfl rfl (any_of HT_.out (by kernel_rfl)) (fun _ _ _ h => h) (Or.inl ⟨by rfl, ?_⟩) ?_ ?_
                                rotate_left
                                · intro w'
                                  go_simp
                                  with_reducible rfl
                                rotate_left
                                · simp only [Act.put, List.setIfInBounds_toArray, List.set_cons_zero, List.set_cons_succ, i64_w, i32_w]
                                  rfl
                                refine last_ (i := 19) (N := none) #[true, true, true, true, true, true, true, true, true, true, true, true, true, true, true, true, true, true, true, true] rfl rfl (one_of HT_.out (by kernel_rfl)) (by decide) (fun K hK => ?_)
                                refine skip_ (w1 := ?_) (by rfl) rfl ?_ ?_
                                rotate_left
                                · go_simp
                                  rfl
                                refine hK.out _ _ ?_
                                clear hK K
                                refine done_ (done_of HT_.out (by kernel_rfl)) ?_
                                try go_wp2
                                go_roundg k3
                                case measure => have := HJ4.out; have := HJ37.out; have := HK3.out; omega
                                case rel => exact ⟨(wrap64 (x62_3 + 1)), (y401), (.slice (some ⟨go77, 0, none⟩) x399000_3.length co77), (by first | rfl | (simp; done) | (simp [*]; done)), H', ⟨by have := HJ4.out; have := HJ37.out; have := HK3.out; omega⟩, ⟨by (with_reducible repeat (first | apply Kd.R_alloc | apply Kd.R_drewN | apply Kd.R_drew)); exact HQ79.out⟩, ⟨by (with_reducible repeat (first | refine blk_drewN ?_ _ | refine blk_drew ?_ | refine blk_alloc ?_ _)); refine blk_far ?_ (by have h_ := Kd.R_ne HO_399000.out BK388.out (by decide); intro e_; exact h_ (by rw [e_]; rfl)) _; (with_reducible repeat (first | refine blk_drewN ?_ _ | refine blk_drew ?_ | refine blk_alloc ?_ _)); exact BK388.out⟩, ⟨by (with_reducible repeat (first | refine blk_drewN ?_ _ | refine blk_drew ?_ | refine blk_alloc ?_ _)); refine blk_far ?_ (by have h_ := Kd.R_ne HO_399000.out BK389.out (by decide); intro e_; exact h_ (by rw [e_]; rfl)) _; (with_reducible repeat (first | refine blk_drewN ?_ _ | refine blk_drew ?_ | refine blk_alloc ?_ _)); exact BK389.out⟩, ⟨by (with_reducible repeat (first | refine blk_drewN ?_ _ | refine blk_drew ?_ | refine blk_alloc ?_ _)); refine blk_far ?_ (by have h_ := Kd.R_ne HO_399000.out BK390.out (by decide); intro e_; exact h_ (by rw [e_]; rfl)) _; (with_reducible repeat (first | refine blk_drewN ?_ _ | refine blk_drew ?_ | refine blk_alloc ?_ _)); exact BK390.out⟩, ⟨by (with_reducible repeat (first | refine blk_drewN ?_ _ | refine blk_drew ?_ | refine blk_alloc ?_ _)); refine blk_far ?_ (by have h_ := Kd.R_ne HO_399000.out BK398.out (by decide); intro e_; exact h_ (by rw [e_]; rfl)) _; (with_reducible repeat (first | refine blk_drewN ?_ _ | refine blk_drew ?_ | refine blk_alloc ?_ _)); exact BK398.out⟩, ⟨by repeat (first | (with_reducible first | exact HB.out | apply below_alloc | apply pw_below_drewN | apply below_drew1 | refine below_set ?_ GB77.out | refine below_set ?_ GE388.out | refine below_set ?_ GE389.out | refine below_set ?_ GE390.out | refine below_set ?_ GE398.out) | exact HB.out)⟩⟩
                              · rw [if_neg c76] at H
                                exact absurd H (by simp)
                            · rw [if_neg c75] at H
                              exact absurd H (by simp)
                          · rw [if_neg c74] at H
                            exact absurd H (by simp)
                        · rw [if_neg c73] at H
                          exact absurd H (by simp)
                      · rw [if_neg c72] at H
                        have c72b0 : decide (x62_3 < (l0_0.length : Int)) = false := decide_eq_false c72
                        clear c72
                        replace H := Option.bind_eq_some_iff.mp H
                        obtain ⟨t402, A800, H⟩ := H
                        replace H : (if t402 = true then (some (x399000_3, (wrap64 ((wrap64 (a1 * a0_1)) + (wrap64 (a3 * a2_1)))), 0)) else (some (([] : List Int), 0, 4))) = some (r1, r2, r3) := H
                        have A80 := Aside0.mk A800
                        clear A800
                        by_cases c81 : t402 = true
                        · subst c81
                          have H1 : (some (x399000_3, (wrap64 ((wrap64 (a1 * a0_1)) + (wrap64 (a3 * a2_1)))), 0)) = some (r1, r2, r3) := by rw [if_pos rfl] at H; exact H
                          clear H
                          have H := H1
                          clear H1
                          simp only [Option.some.injEq, Prod.mk.injEq] at H
                          obtain ⟨rfl, rfl, rfl⟩ := H
                          have hnb82 := NB398_388.out
                          have hnc82 := NB388_398.out
                          have hnb83 := NB398_389.out
                          have hnc83 := NB389_398.out
                          have hnb84 := NB398_390.out
                          have hnc84 := NB390_398.out
                          have hcz85_0 : wr.cell? ⟨gb398, 0, none⟩ = some (u399000) := (blk_cell BK398.out 0).trans rfl
                          have hcz85_1 : wr.cell? ⟨gb398, 1, none⟩ = some (.int .i64 (wrap64 ((wrap64 (a1 * a0_1)) + (wrap64 (a3 * a2_1))))) := (blk_cell BK398.out 1).trans rfl
                          have hfz85_0 := blk_frozen BK398.out 0
                          have hfz85_1 := blk_frozen BK398.out 1
                          obtain ⟨Ao86, co86, eo86⟩ := Kd.R_slice HO_399000.out
                          subst eo86
                          go_wp2_with (first | ((with_reducible refine gate_callee (f := 49) rfl ?_); refine goesL_ (some 86) rfl rfl Tryd.func49 (by kernel_rfl) rfl #[.agg #[.slice Ao86 x399000_3.length co86, .int .i64 (wrap64 ((wrap64 (a1 * a0_1)) + (wrap64 (a3 * a2_1))))]] rfl (by (try simp only [List.map_toArray, List.map_cons, List.map_nil]); first | done | rfl | (simp only [List.length_drop, List.length_take]; rfl)) ?_; (with_reducible refine (linear_small.calls k3 _ _ x399000_3 (wrap64 ((wrap64 (a1 * a0_1)) + (wrap64 (a3 * a2_1)))) true _ ?side1 ?side2 A80.out).mono ?_); (case side1 => repeat (first | exact (Kd.R_reads' HO_399000.out).2.2 | (with_reducible refine Kd.C_alloc ?_ _) | (with_reducible refine Kd.C_drewN ?_ _) | (with_reducible refine Kd.C_drew ?_))); (case side2 => exact (Kd.R_reads' HO_399000.out).2.1); rintro e w87 ⟨rfl, hb⟩; refine ⟨_, rfl, ?_⟩; have n0_ := Aside0.mk (Kd.R_below (by (with_reducible repeat (first | apply Kd.R_alloc | apply Kd.R_drewN | apply Kd.R_drew)); exact HO_399000.out) hb); have n1_ := Aside0.mk (blk_below (g := gb388) (o := .cells #[.slice A0_0 l0_0.length c0_0, .int .i64 a0_1] 33 (0, 0)) (by (with_reducible repeat (first | refine blk_drewN ?_ _ | refine blk_drew ?_ | refine blk_alloc ?_ _)); exact BK388.out) hb); have n2_ := Aside0.mk (blk_below (g := gb389) (o := .cells #[.slice A2_0 l2_0.length c2_0, .int .i64 a2_1] 33 (0, 0)) (by (with_reducible repeat (first | refine blk_drewN ?_ _ | refine blk_drew ?_ | refine blk_alloc ?_ _)); exact BK389.out) hb); have n3_ := Aside0.mk (blk_below (g := gb390) (o := .cells #[.slice none 0 0, .int .i64 0] 33 (0, 0)) (by (with_reducible repeat (first | refine blk_drewN ?_ _ | refine blk_drew ?_ | refine blk_alloc ?_ _)); exact BK390.out) hb); have n4_ := Aside0.mk (blk_below (g := gb398) (o := .cells #[.slice Ao86 x399000_3.length co86, .int .i64 (wrap64 ((wrap64 (a1 * a0_1)) + (wrap64 (a3 * a2_1))))] 33 (0, 0)) (by (with_reducible repeat (first | refine blk_drewN ?_ _ | refine blk_drew ?_ | refine blk_alloc ?_ _)); exact BK398.out) hb); have n5_ := Aside0.mk (below_step (by repeat (first | (with_reducible first | exact HB.out | apply below_alloc | apply pw_below_drewN | apply below_drew1 | refine below_set ?_ GE388.out | refine below_set ?_ GE389.out | refine below_set ?_ GE390.out | refine below_set ?_ GE398.out) | exact HB.out)) hb); clear HO_399000; clear BK388; clear BK389; clear BK390; clear BK398; clear HB; have HO_399000 := n0_; have BK388 := n1_; have BK389 := n2_; have BK390 := n3_; have BK398 := n4_; have HB := n5_; clear n0_ n1_ n2_ n3_ n4_ n5_; (try clear hb); (try clear hb2); (try clear hk); (try clear hi); have hcz88_0 : w87.cell? ⟨gb398, 0, none⟩ = some (.slice Ao86 x399000_3.length co86) := (blk_cell BK398.out 0).trans rfl; have hcz88_1 : w87.cell? ⟨gb398, 1, none⟩ = some (.int .i64 (wrap64 ((wrap64 (a1 * a0_1)) + (wrap64 (a3 * a2_1))))) := (blk_cell BK398.out 1).trans rfl; have hfz88_0 := blk_frozen BK398.out 0; have hfz88_1 := blk_frozen BK398.out 1; have hnb89 := NB390_388.out; have hnc89 := NB388_390.out; have hnb90 := NB390_389.out; have hnc90 := NB389_390.out; have hcz91_0 : w87.cell? ⟨gb390, 0, none⟩ = some (.slice none 0 0) := (blk_cell BK390.out 0).trans rfl; have hcz91_1 : w87.cell? ⟨gb390, 1, none⟩ = some (.int .i64 0) := (blk_cell BK390.out 1).trans rfl; have hfz91_0 := blk_frozen BK390.out 0; have hfz91_1 := blk_frozen BK390.out 1))
                          refine bodyPost_ret (results_ct rfl _ _ gb390 33 #[.slice Ao86 x399000_3.length co86, .int .i64 (wrap64 ((wrap64 (a1 * a0_1)) + (wrap64 (a3 * a2_1))))] (0, 0) _ rfl (by (with_reducible repeat (first | refine blk_drewN ?_ _ | refine blk_drew ?_ | refine blk_alloc ?_ _)); refine blk_put (cs := #[.slice Ao86 x399000_3.length co86, .int .i64 0]) ?_ 1 _ rfl; (with_reducible repeat (first | refine blk_drewN ?_ _ | refine blk_drew ?_ | refine blk_alloc ?_ _)); refine blk_put (cs := #[.slice none 0 0, .int .i64 0]) ?_ 0 _ rfl; (with_reducible repeat (first | refine blk_drewN ?_ _ | refine blk_drew ?_ | refine blk_alloc ?_ _)); exact BK390.out) Tryd.underlying33 rfl (by kernel_rfl)) rfl ?_
                          exact ⟨_, by first | rfl | (simp [errW_none, errW_some] <;> rfl) | (simp [*, errW_none, errW_some] <;> rfl), by (with_reducible repeat (first | apply Kd.R_alloc | apply Kd.R_drewN | apply Kd.R_drew)); exact Kd.R_mono (Kd.R_far (p := ⟨gb390, 1, none⟩) (Kd.R_far (p := ⟨gb390, 0, none⟩) (Kd.R_types HO_399000.out BK390.out (by decide)) (fun _ hk => hk.2) (.slice Ao86 x399000_3.length co86)) (fun _ hk => hk.2) (.int .i64 (wrap64 ((wrap64 (a1 * a0_1)) + (wrap64 (a3 * a2_1)))))) (fun _ hk => trivial), by repeat (first | (with_reducible first | exact HB.out | apply below_alloc | apply pw_below_drewN | apply below_drew1 | refine below_set ?_ GE388.out | refine below_set ?_ GE389.out | refine below_set ?_ GE390.out | refine below_set ?_ GE398.out) | exact HB.out)⟩
                        · replace c81 := Bool.eq_false_iff.mpr c81
                          subst c81
                          have H1 : (some (([] : List Int), 0, 4)) = some (r1, r2, r3) := by rw [if_neg (show ¬ (false = true) by decide)] at H; exact H
                          clear H
                          have H := H1
                          clear H1
                          simp only [Option.some.injEq, Prod.mk.injEq] at H
                          obtain ⟨rfl, rfl, rfl⟩ := H
                          have hnb92 := NB398_388.out
                          have hnc92 := NB388_398.out
                          have hnb93 := NB398_389.out
                          have hnc93 := NB389_398.out
                          have hnb94 := NB398_390.out
                          have hnc94 := NB390_398.out
                          have hcz95_0 : wr.cell? ⟨gb398, 0, none⟩ = some (u399000) := (blk_cell BK398.out 0).trans rfl
                          have hcz95_1 : wr.cell? ⟨gb398, 1, none⟩ = some (.int .i64 (wrap64 ((wrap64 (a1 * a0_1)) + (wrap64 (a3 * a2_1))))) := (blk_cell BK398.out 1).trans rfl
                          have hfz95_0 := blk_frozen BK398.out 0
                          have hfz95_1 := blk_frozen BK398.out 1
                          obtain ⟨Ao96, co96, eo96⟩ := Kd.R_slice HO_399000.out
                          subst eo96
                          go_wp2_with (first | ((with_reducible refine gate_callee (f := 49) rfl ?_); refine goesL_ (some 86) rfl rfl Tryd.func49 (by kernel_rfl) rfl #[.agg #[.slice Ao96 x399000_3.length co96, .int .i64 (wrap64 ((wrap64 (a1 * a0_1)) + (wrap64 (a3 * a2_1))))]] rfl (by (try simp only [List.map_toArray, List.map_cons, List.map_nil]); first | done | rfl | (simp only [List.length_drop, List.length_take]; rfl)) ?_; (with_reducible refine (linear_small.calls k3 _ _ x399000_3 (wrap64 ((wrap64 (a1 * a0_1)) + (wrap64 (a3 * a2_1)))) false _ ?side1 ?side2 A80.out).mono ?_); (case side1 => repeat (first | exact (Kd.R_reads' HO_399000.out).2.2 | (with_reducible refine Kd.C_alloc ?_ _) | (with_reducible refine Kd.C_drewN ?_ _) | (with_reducible refine Kd.C_drew ?_))); (case side2 => exact (Kd.R_reads' HO_399000.out).2.1); rintro e w97 ⟨rfl, hb⟩; refine ⟨_, rfl, ?_⟩; have n0_ := Aside0.mk (Kd.R_below (by (with_reducible repeat (first | apply Kd.R_alloc | apply Kd.R_drewN | apply Kd.R_drew)); exact HO_399000.out) hb); have n1_ := Aside0.mk (blk_below (g := gb388) (o := .cells #[.slice A0_0 l0_0.length c0_0, .int .i64 a0_1] 33 (0, 0)) (by (with_reducible repeat (first | refine blk_drewN ?_ _ | refine blk_drew ?_ | refine blk_alloc ?_ _)); exact BK388.out) hb); have n2_ := Aside0.mk (blk_below (g := gb389) (o := .cells #[.slice A2_0 l2_0.length c2_0, .int .i64 a2_1] 33 (0, 0)) (by (with_reducible repeat (first | refine blk_drewN ?_ _ | refine blk_drew ?_ | refine blk_alloc ?_ _)); exact BK389.out) hb); have n3_ := Aside0.mk (blk_below (g := gb390) (o := .cells #[.slice none 0 0, .int .i64 0] 33 (0, 0)) (by (with_reducible repeat (first | refine blk_drewN ?_ _ | refine blk_drew ?_ | refine blk_alloc ?_ _)); exact BK390.out) hb); have n4_ := Aside0.mk (blk_below (g := gb398) (o := .cells #[.slice Ao96 x399000_3.length co96, .int .i64 (wrap64 ((wrap64 (a1 * a0_1)) + (wrap64 (a3 * a2_1))))] 33 (0, 0)) (by (with_reducible repeat (first | refine blk_drewN ?_ _ | refine blk_drew ?_ | refine blk_alloc ?_ _)); exact BK398.out) hb); have n5_ := Aside0.mk (below_step (by repeat (first | (with_reducible first | exact HB.out | apply below_alloc | apply pw_below_drewN | apply below_drew1 | refine below_set ?_ GE388.out | refine below_set ?_ GE389.out | refine below_set ?_ GE390.out | refine below_set ?_ GE398.out) | exact HB.out)) hb); clear HO_399000; clear BK388; clear BK389; clear BK390; clear BK398; clear HB; have HO_399000 := n0_; have BK388 := n1_; have BK389 := n2_; have BK390 := n3_; have BK398 := n4_; have HB := n5_; clear n0_ n1_ n2_ n3_ n4_ n5_; (try clear hb); (try clear hb2); (try clear hk); (try clear hi); have hnb98 := NB390_388.out; have hnc98 := NB388_390.out; have hnb99 := NB390_389.out; have hnc99 := NB389_390.out; have hcz100_0 : w97.cell? ⟨gb390, 0, none⟩ = some (.slice none 0 0) := (blk_cell BK390.out 0).trans rfl; have hcz100_1 : w97.cell? ⟨gb390, 1, none⟩ = some (.int .i64 0) := (blk_cell BK390.out 1).trans rfl; have hfz100_0 := blk_frozen BK390.out 0; have hfz100_1 := blk_frozen BK390.out 1))
                          refine bodyPost_ret (results_ct rfl _ _ gb390 33 #[.slice none 0 0, .int .i64 0] (0, 0) _ rfl (by (with_reducible repeat (first | refine blk_drewN ?_ _ | refine blk_drew ?_ | refine blk_alloc ?_ _)); refine blk_put (cs := #[.slice none 0 0, .int .i64 0]) ?_ 1 _ rfl; (with_reducible repeat (first | refine blk_drewN ?_ _ | refine blk_drew ?_ | refine blk_alloc ?_ _)); refine blk_put (cs := #[.slice none 0 0, .int .i64 0]) ?_ 0 _ rfl; (with_reducible repeat (first | refine blk_drewN ?_ _ | refine blk_drew ?_ | refine blk_alloc ?_ _)); exact BK390.out) Tryd.underlying33 rfl (by kernel_rfl)) rfl ?_
                          exact ⟨_, by first | rfl | (simp [errW_none, errW_some] <;> rfl) | (simp [*, errW_none, errW_some] <;> rfl), by first | exact Kd.R_nil _ _ _ _ _ | exact Kd.N_nil _ _ _ _ _ | exact Kd.V_nil _ _ _ _ _ | exact Kd.Q_nil _ _ _ _ _ | exact Kd.S_nil _ _ _ _ _, by repeat (first | (with_reducible first | exact HB.out | apply below_alloc | apply pw_below_drewN | apply below_drew1 | refine below_set ?_ GE388.out | refine below_set ?_ GE389.out | refine below_set ?_ GE390.out | refine below_set ?_ GE398.out) | exact HB.out)⟩
                · rw [if_neg c58] at H
                  exact absurd H (by simp)
              · rw [if_neg c57] at H
                exact absurd H (by simp)

end Go.Proofs.YtbioiodjdfcooaaDoor.P
